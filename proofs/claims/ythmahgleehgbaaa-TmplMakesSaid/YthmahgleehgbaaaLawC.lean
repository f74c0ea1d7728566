/- Part of a proof. -/
import Derived.Test.YthmahgleehgbaaaSnC
import Derived.Test.YthmahgleehgbaaaLawB
import Derived.Test.YthmahgleehgbaaaSxB
set_option linter.unusedSimpArgs false
set_option linter.unusedVariables false
set_option linter.unusedSectionVars false
namespace Go.Abs
open Go
theorem live18 : F_law18_live = some true := by kernel_rfl
end Go.Abs

namespace Go.Abs
open Go
theorem loop_run {σ τ : Type} {step : σ → Option (σ ⊕ τ)} {t : τ} {s : Nat → σ} : ∀ (m : Nat), (∀ i, i < m → step (s i) = some (.inl (s (i + 1)))) → step (s m) = some (.inr t) → loopS step (s 0) = some t := by
  intro m
  suffices h : ∀ k, k ≤ m → (∀ i, i < m → step (s i) = some (.inl (s (i + 1)))) → step (s m) = some (.inr t) → loopS step (s (m - k)) = some t by
    intro h1 h2
    have := h m (Nat.le_refl _) h1 h2
    rwa [Nat.sub_self] at this
  intro k
  induction k with
  | zero => intro _ _ h2; exact loopS_out h2
  | succ k ih =>
    intro hk h1 h2
    rw [loopS_next (h1 (m - (k + 1)) (by omega)), show m - (k + 1) + 1 = m - k by omega]
    exact ih (by omega) h1 h2
theorem take_next {β : Type} {l : List β} {i : Nat} {x : β} (h : l[i]? = some x) : l.take (i + 1) = l.take i ++ [x] := by
  rw [List.take_add_one, h]; rfl
def timeS (n : Int) : Bool := inC n 1099511627776
theorem ref12_Time_eq (n : Int) : F_ref12_Time n = some (timeS n) := by
  unfold F_ref12_Time timeS inC
  by_cases h : 0 ≤ n <;> simp [h]
theorem tmpl_in_eq (n m : Int) : F_tmpl_in n m = some (inC n m) := by
  unfold F_tmpl_in inC
  by_cases h : 0 ≤ n <;> simp [h]
theorem group_in_eq (n m : Int) : F_group_in n m = some (inC n m) := by
  unfold F_group_in inC
  by_cases h : 0 ≤ n <;> simp [h]
theorem ref10_small_eq (n : Int) : F_ref10_small n = some (inC n 65535) := by
  unfold F_ref10_small inC
  by_cases h : 0 ≤ n <;> simp [h]
abbrev Sp := Int × Int × Int
abbrev Pc := List Sp × Int × Bool
abbrev Tt := List UInt8 × Int × Int × Int × List UInt8 × List Pc
def spanC (n : Nat) (s : Sp) : Bool := decide (0 ≤ s.1) && decide (s.1 ≤ s.2.2) && decide (s.2.1 ≤ n) && decide (s.2.2 ≤ s.2.1) && decide (4 ≤ s.2.1 - s.2.2)
def pieceC (n : Nat) (p : Pc) : Bool := decide (p.1 ≠ []) && p.1.all (spanC n)
theorem len0 (n : Nat) : ((n : Int) == 0) = decide (n = 0) := by
  rw [Bool.eq_iff_iff]; simp
end Go.Abs

namespace Go.Abs
open Go
def rot {β : Type} (l : List β) (a : Nat) : List β := l.drop a ++ l.take a
theorem rot_len {β : Type} (l : List β) (a : Nat) : (rot l a).length = l.length := by simp [rot]; omega
theorem rot_get {β : Type} {l : List β} {a k : Nat} (ha : a < l.length) (hk : k < l.length) : (rot l a)[k]? = l[(a + k) % l.length]? := by
  unfold rot
  by_cases h : a + k < l.length
  · rw [Nat.mod_eq_of_lt h, List.getElem?_append_left (by simp; omega), List.getElem?_drop]
  · have e : (a + k) % l.length = a + k - l.length := by
      rw [Nat.mod_eq_sub_mod (by omega), Nat.mod_eq_of_lt (by omega)]
    rw [e, List.getElem?_append_right (by simp; omega), List.getElem?_take]
    simp only [List.length_drop]
    rw [if_pos (by omega)]
    congr 1
    omega
theorem rot_mem {β : Type} {l : List β} {a : Nat} {x : β} (h : x ∈ rot l a) : x ∈ l := by
  unfold rot at h
  rcases List.mem_append.1 h with h | h
  · exact List.mem_of_mem_drop h
  · exact List.mem_of_mem_take h
theorem at_eq {turn : Int} {n : Nat} (h : 0 ≤ turn) (hn : 0 < n) : turn.tmod (n : Int) = ((turn.toNat % n : Nat) : Int) := by
  obtain ⟨m, rfl⟩ := Int.eq_ofNat_of_zero_le h
  rw [Int.tmod_eq_emod_of_nonneg (by omega)]
  rfl
def seg (s : List UInt8) (a b : Nat) : List UInt8 := List.drop a (List.take b s)
end Go.Abs

namespace Go.Abs
open Go
def scanF {β τ : Type} (f : Nat → β → Option τ) (e : τ) : Nat → List β → τ
  | _, [] => e
  | i, x :: l => match f i x with
    | some t => t
    | none => scanF f e (i + 1) l
theorem loop_scan {β τ : Type} {l : List β} {step : Int → Option (Int ⊕ τ)} (f : Nat → β → Option τ) (e : τ)
    (hs : ∀ (i : Nat) x, l[i]? = some x → step (i : Int) = some (match f i x with | some t => .inr t | none => .inl ((i + 1 : Nat) : Int))) (he : step (l.length : Int) = some (.inr e)) : loopS step 0 = some (scanF f e 0 l) := by
  suffices h : ∀ (v u : List β), l = u ++ v → loopS step (u.length : Int) = some (scanF f e u.length v) from h l [] rfl
  intro v
  induction v with
  | nil =>
    intro u hu
    rw [List.append_nil] at hu
    subst hu
    exact loopS_out he
  | cons x v ih =>
    intro u hu
    have hx := hs u.length x (by rw [hu]; simp)
    unfold scanF
    cases hf : f u.length x with
    | some t => rw [hf] at hx; exact loopS_out hx
    | none =>
      rw [hf] at hx
      rw [loopS_next hx]
      have := ih (u ++ [x]) (by rw [hu]; simp)
      simpa using this
def lowN (n : List UInt8) : List UInt8 := if nameS n then lowS n else []
theorem name_Low_eq {n : List UInt8} (h : (n.length : Int) ≤ maxI) : F_name_Low n = some (lowN n) := by
  unfold F_name_Low lowN
  rw [name_Check_eq h, bnd_some, name_low_eq h]
  cases nameS n <;> rfl
theorem ref02_Low_eq {n : List UInt8} (h : (n.length : Int) ≤ maxI) : F_ref02_Low n = some (lowN n) := by
  unfold F_ref02_Low lowN
  rw [ref02_Check_eq, bnd_some, ref02_Small_eq h]
  cases nameS n <;> rfl
abbrev Qq := List UInt8 × Int × Int
def okA (q : Qq) : Bool := nameS q.1 && (lowN q.1 == q.1) && inC q.2.1 65535 && inC q.2.2 65535
theorem tmpl_asked_eq {q : Qq} (h : (q.1.length : Int) ≤ maxI) : F_tmpl_asked q = some (okA q) := by
  unfold F_tmpl_asked okA
  simp only [name_Check_eq h, name_Low_eq h, tmpl_in_eq, bnd_some, grdEq_self]
  cases nameS q.1 <;> cases (lowN q.1 == q.1) <;> cases inC q.2.1 65535 <;> rfl
theorem ref10_Asked_eq {q : Qq} (h : (q.1.length : Int) ≤ maxI) : F_ref10_Asked q = some (okA q) := by
  unfold F_ref10_Asked okA
  simp only [ref02_Check_eq, ref02_Low_eq h, ref10_small_eq, bnd_some, grdEq_self]
  cases nameS q.1 <;> cases (lowN q.1 == q.1) <;> cases inC q.2.1 65535 <;> rfl
def lowD (kind : Int) (d : List UInt8) : List UInt8 :=
  if shapeS kind = (0, 0, 0) then d else
  match namesW d (shapeS kind).2.1.toNat (shapeS kind).1 with
  | some (l, j) => d.take (shapeS kind).1.toNat ++ (l.map lowN).flatten ++ d.drop j.toNat
  | none => []
theorem map_set {α : Type} {l : List α} {f : α → α} {i : Nat} {x : α} (h : l[i]? = some x) : ((l.take i).map f ++ l.drop i).set i (f x) = (l.take (i + 1)).map f ++ l.drop (i + 1) := by
  have hi := (List.getElem?_eq_some_iff.1 h).1
  have e : l.drop i = x :: l.drop (i + 1) := by
    rw [List.drop_eq_getElem_cons hi]
    congr 1
    have := List.getElem?_eq_getElem hi
    rw [h] at this
    exact (Option.some.inj this).symm
  rw [e, take_next h, List.set_append_right _ _ (by rw [List.length_map, List.length_take]; omega), List.map_append]
  simp [Nat.min_eq_left (Nat.le_of_lt hi)]
theorem low_loop1 {u w : List UInt8} {l : List (List UInt8)} (hl : l.length ≤ 1000) (hn : ∀ x ∈ l, (x.length : Int) ≤ maxI) : loopS (step_data_Low_1 u w l) (l, (0, l)) = some (l.map lowN) := by
  have hm : maxI = 9223372036854775807 := rfl
  have := loop_run (step := step_data_Low_1 u w l) (t := l.map lowN) (s := fun i => ((l.take i).map lowN ++ l.drop i, ((i : Int), (l.take i).map lowN ++ l.drop i))) l.length (fun i hi => by
    obtain ⟨x, hx⟩ : ∃ x, l[i]? = some x := ⟨l[i], by simp [hi]⟩
    have hg : ((l.take i).map lowN ++ l.drop i)[i]? = some x := by
      rw [List.getElem?_append_right (by rw [List.length_map, List.length_take]; omega), List.getElem?_drop]
      simp only [List.length_map, List.length_take]
      rw [Nat.min_eq_left (by omega), Nat.sub_self, Nat.add_zero, hx]
    simp only [step_data_Low_1, grdEq_self]
    rw [if_pos (by simp; omega), natOf_nat, hg, bnd_some, name_Low_eq (hn x (List.mem_of_getElem? hx)), bnd_some, natOf_nat, hg, bnd_some, map_set hx, wrap_id (by omega) (by omega)]
    rfl) (by
    simp only [step_data_Low_1, grdEq_self]
    rw [if_neg (by simp)]
    simp)
  simpa using this
theorem lowN_len (x : List UInt8) : (lowN x).length ≤ x.length := by
  unfold lowN
  split
  · rw [lowS_len]; exact Nat.le_refl _
  · simp
theorem lowN_flat : ∀ l : List (List UInt8), ((l.map lowN).flatten).length ≤ l.flatten.length
  | [] => by simp
  | x :: l => by
    have h1 := lowN_len x
    have h2 := lowN_flat l
    rw [List.map_cons, List.flatten_cons, List.flatten_cons, List.length_append, List.length_append]
    omega
theorem data_Low_eq {kind : Int} {d : List UInt8} (h : dataC kind d = true) : F_data_Low kind d = some (lowD kind d) := by
  have hm : maxI = 9223372036854775807 := rfl
  obtain ⟨hl, he⟩ := dataC_iff h
  have hf := (expS_form he).2
  obtain ⟨v0, v1, v2, v3, v4, v5⟩ := shapeS_ok kind
  unfold F_data_Low lowD
  rw [data_Check_eq, bnd_some, h]
  simp only [Bool.not_true, Bool.false_eq_true, if_false, grdEq_self]
  rcases hf with ⟨hz, _⟩ | ⟨hz, A, l, C, rfl, hA, hll, hC, hnm⟩
  · have hq : shpF kind = none := by rw [shpF_eq, if_pos hz]
    simp only [hq, Option.isSome_none, Bool.not_false, if_true, bnd_some, hz]
    rw [low_loop1 (by simp) (by simp), bnd_some]
    have := whole_eq (p := (d, ([], []))) (by simp) (by simp; omega)
    simp only [List.map_nil]
    rw [this, bnd_some]
    simp
  · have hq := shpF_some hz
    simp only [hq, Option.isSome_some, Bool.not_true, Bool.false_eq_true, if_false, Option.getD_some, hz]
    have hdl : (A ++ (l.flatten ++ C)).length = A.length + l.flatten.length + C.length := by simp only [List.length_append]; omega
    have hnn := namesW_plain l ((0 : Int) + (A.length : Int)) (l.flatten ++ C).length C hnm ((takeS_app (takeS_self (A ++ (l.flatten ++ C)))).2)
    rw [hll, show (0 : Int) + (A.length : Int) = (shapeS kind).1 by omega] at hnn
    rw [if_neg (by rw [wrap_id (by omega) (by omega)]; simp only [Bool.not_eq_true', decide_eq_false_iff_not]; omega), show (0 : Int) + (shapeS kind).1 = (shapeS kind).1 by omega, wrap_id (x := (shapeS kind).1) (by omega) (by omega), natOf_pos (by omega), grdp (by omega), grdp (by omega)]
    generalize (sputM tI tK 33 (6, 1, 0) (sputM tI tK 15 (2, 1, 0) (sputM tI tK 6 (0, 2, 20) (sputM tI tK 12 (0, 1, 0) (sputM tI tK 5 (0, 1, 0) (sputM tI tK 2 (0, 1, 0) (sputM tI tK 28 (16, 0, 0) (sputM tI tK 1 (4, 0, 0) [])))))))) = M
    obtain ⟨l', hlp⟩ := low_names (msg := A ++ (l.flatten ++ C)) (by omega) kind ((A ++ (l.flatten ++ C)).length : Int) rfl (shapeS kind).1.toNat M (shapeS kind) (by rw [hq]; rfl) (shapeS kind).2.1.toNat (shapeS kind).1 0 [] (by omega) (by omega) (by omega) (by omega) (by simp)
    rw [hlp, bnd_some, hnn]
    simp only
    rw [if_pos (by omega)]
    simp only [List.nil_append, bnd_some]
    rw [grdp (Nat.le_refl _), natOf_pos (by omega), grdp (by omega)]
    simp only [bnd_some]
    have hll2 : l.length ≤ 2 := by omega
    rw [low_loop1 (by omega) (fun x hx => by have := (nameS_pos (hnm x hx)).2; omega), bnd_some]
    have hfl := lowN_flat l
    rw [List.take_length]
    have := whole_eq (p := (List.drop 0 (List.take (shapeS kind).1.toNat (A ++ (l.flatten ++ C))), (List.drop ((shapeS kind).1 + (l.flatten.length : Int)).toNat (A ++ (l.flatten ++ C)), l.map lowN))) (by simp only [List.length_map]; omega) (by simp only [List.drop_zero, List.length_take, List.length_drop]; omega)
    rw [this, bnd_some]
    simp
end Go.Abs

namespace Go.Abs
open Go
theorem names_loop {d : List UInt8} (hs : (d.length : Int) ≤ maxI) (v : Int × Int × Int) : ∀ (n : Nat) (out : List (List UInt8)) (i k : Int) (l : List (List UInt8)) (j : Int), k + n = v.2.1 → 0 ≤ k → v.2.1 ≤ 100 → out.length ≤ 100 + k → namesW d n i = some (l, j) →
    loopS (step_ref05_Names_0 d v) (out, (i, k)) = some (out ++ l) := by
  intro n
  induction n with
  | zero =>
    intro out i k l j hk h0 hv ho hn
    simp only [namesW, Option.some.injEq, Prod.mk.injEq] at hn
    obtain ⟨rfl, rfl⟩ := hn
    apply loopS_out
    simp only [step_ref05_Names_0, grdEq_self]
    rw [if_neg (by simp; omega)]
    simp
  | succ n ih =>
    intro out i k l j hk h0 hv ho hn
    rw [namesW] at hn
    split at hn
    · rename_i he
      cases hr : namesW d n (readS d i).2.1 with
      | none => rw [hr] at hn; simp at hn
      | some p =>
        obtain ⟨l2, j2⟩ := p
        rw [hr] at hn
        simp only [Option.map_some, Option.some.injEq, Prod.mk.injEq] at hn
        obtain ⟨rfl, rfl⟩ := hn
        rw [loopS_next (y := (out ++ [(readS d i).1], ((readS d i).2.1, k + 1)))]
        · rw [ih _ _ (k + 1) l2 j2 (by omega) (by omega) hv (by simp; omega) hr]
          simp
        · simp only [step_ref05_Names_0, ref04_Read_eq hs, bnd_some, grdEq_self]
          rw [if_pos (by simp; omega), grdp (by unfold roomLim; simp; omega), wrap_id (by omega) (by omega)]
    · simp at hn
theorem refLow_loop {d A : List UInt8} {v : Int × Int × Int} {l : List (List UInt8)} (hA : A.length ≤ 100) (hl : l.length ≤ 2) (hf : l.flatten.length ≤ 100000) (hn : ∀ x ∈ l, x.length ≤ 255) :
    loopS (step_ref05_Low_0 d l v) (A, ((A.length : Int), 0)) = some (A ++ (l.map lowN).flatten, ((A.length + l.flatten.length : Nat) : Int)) := by
  have hm : maxI = 9223372036854775807 := rfl
  have := loop_run (step := step_ref05_Low_0 d l v) (t := (A ++ (l.map lowN).flatten, ((A.length + l.flatten.length : Nat) : Int))) (s := fun i => (A ++ ((l.take i).map lowN).flatten, (((A.length + (l.take i).flatten.length : Nat) : Int), (i : Int)))) l.length (fun i hi => by
    obtain ⟨x, hx⟩ : ∃ x, l[i]? = some x := ⟨l[i], by simp [hi]⟩
    have hxl := hn x (List.mem_of_getElem? hx)
    have hlx := lowN_len x
    have hle : ((l.take i).flatten).length ≤ l.flatten.length := by
      conv => rhs; rw [← List.take_append_drop i l, List.flatten_append, List.length_append]
      omega
    have hle2 := lowN_flat (l.take i)
    simp only [step_ref05_Low_0, grdEq_self]
    rw [if_pos (by simp; omega), natOf_nat, hx, bnd_some, ref02_Low_eq (by omega), bnd_some, grdp (by unfold maxStr; rw [List.length_append]; omega), natOf_nat, hx, bnd_some, wrap_id (by omega) (by omega), wrap_id (by omega) (by omega), take_next hx]
    simp only [List.map_append, List.map_cons, List.map_nil, List.flatten_append, List.flatten_cons, List.flatten_nil, List.append_nil, List.append_assoc, List.length_append]
    congr 3
    simp only [Prod.mk.injEq, and_true]
    constructor <;> omega) (by
    simp only [step_ref05_Low_0, grdEq_self]
    rw [if_neg (by simp)]
    simp)
  simpa using this
theorem ref05_Low_eq {kind : Int} {d : List UInt8} (h : dataC kind d = true) : F_ref05_Low kind d = some (lowD kind d) := by
  have hm : maxI = 9223372036854775807 := rfl
  obtain ⟨hl, he⟩ := dataC_iff h
  have hf := (expS_form he).2
  obtain ⟨v0, v1, v2, v3, v4, v5⟩ := shapeS_ok kind
  unfold F_ref05_Low F_ref05_Names lowD
  rw [ref05_Check_eq, bnd_some, h]
  simp only [Bool.not_true, Bool.false_eq_true, if_false, grdEq_self, bnd_some, shape_eq]
  rcases hf with ⟨hz, _⟩ | ⟨hz, A, l, C, rfl, hA, hll, hC, hnm⟩
  · have h1 := names_loop (d := d) (by omega) (0, 0, 0) 0 [] 0 0 [] 0 (by simp) (by omega) (by simp) (by simp) rfl
    have h2 := refLow_loop (d := d) (A := []) (v := (0, 0, 0)) (l := []) (by simp) (by simp) (by simp) (by simp)
    simp only [hz, if_true]
    simp only [List.length_nil, Int.natCast_zero] at h1 h2
    rw [h1]
    simp only [bnd_some, List.append_nil]
    rw [natOf_pos (by omega), grdp (by simp), show (0 : Int).toNat = 0 from rfl, List.take_zero, h2, bnd_some]
    simp only [List.map_nil, List.flatten_nil, List.append_nil, List.length_nil, Nat.add_zero]
    rw [natOf_nat, grdp (by omega), grdp (by unfold maxStr; simp; omega)]
    simp
  · have hdl : (A ++ (l.flatten ++ C)).length = A.length + l.flatten.length + C.length := by simp only [List.length_append]; omega
    have hnn := namesW_plain l ((0 : Int) + (A.length : Int)) (l.flatten ++ C).length C hnm ((takeS_app (takeS_self (A ++ (l.flatten ++ C)))).2)
    rw [hll, show (0 : Int) + (A.length : Int) = (shapeS kind).1 by omega] at hnn
    have h1 := names_loop (d := A ++ (l.flatten ++ C)) (by omega) (shapeS kind) (shapeS kind).2.1.toNat [] (shapeS kind).1 0 l _ (by omega) (by omega) (by omega) (by simp) hnn
    rw [List.nil_append] at h1
    have hta : List.take (shapeS kind).1.toNat (A ++ (l.flatten ++ C)) = A := by rw [← hA, List.take_left]
    have h2 := refLow_loop (d := A ++ (l.flatten ++ C)) (A := A) (v := shapeS kind) (l := l) (by omega) (by omega) (by omega) (fun x hx => (nameS_pos (hnm x hx)).2)
    have hfl := lowN_flat l
    rw [h1]
    simp only [bnd_some, hz, if_false, hnn]
    rw [natOf_pos (by omega), grdp (by omega), hta, show (shapeS kind).1 = (A.length : Int) by omega, h2, bnd_some]
    simp only
    rw [natOf_nat, grdp (by omega), grdp (by unfold maxStr; simp only [List.length_append, List.length_drop]; omega)]
    rfl
theorem scan_has {α τ : Type} [BEq α] [LawfulBEq α] [DecidableEq α] {f : Nat → α → Option τ} {v : α} {r : Nat → τ} {e : τ} (hf : ∀ i x, f i x = if x = v then some (r i) else none) : ∀ (l : List α) (i : Nat), (l.contains v = false ∧ scanF f e i l = e) ∨ (l.contains v = true ∧ ∃ j, scanF f e i l = r j)
  | [], i => .inl ⟨by simp, rfl⟩
  | x :: l, i => by
    unfold scanF
    rw [hf]
    by_cases h : x = v
    · rw [if_pos h]
      exact .inr ⟨by simp [h], i, rfl⟩
    · rw [if_neg h]
      have hc : (x :: l).contains v = l.contains v := by
        rw [List.contains_cons]
        have : (v == x) = false := by simpa using fun e => h e.symm
        rw [this, Bool.false_or]
      rw [hc]
      exact scan_has hf l (i + 1)
theorem ref10_In_eq {l : List (List UInt8)} (hl : (l.length : Int) ≤ maxI) (s : List UInt8) : F_ref10_In l s = some (l.contains s) := by
  have hm : maxI = 9223372036854775807 := rfl
  unfold F_ref10_In
  have hloop := loop_scan (l := l) (step := step_ref10_In_0 l s) (fun i x => if x = s then some (Sum.inl (β := Unit) true) else none) (.inr ()) (fun i x hx => by
    have hi := (List.getElem?_eq_some_iff.1 hx).1
    simp only [step_ref10_In_0, grdEq_self]
    rw [if_pos (by simp; omega), natOf_nat, hx, bnd_some, wrap_id (by omega) (by omega)]
    by_cases h : x = s <;> simp [h]) (by
    simp only [step_ref10_In_0, grdEq_self]
    rw [if_neg (by simp)])
  rw [hloop, bnd_some]
  rcases scan_has (f := fun i x => if x = s then some (Sum.inl (β := Unit) true) else none) (v := s) (r := fun _ => Sum.inl true) (e := .inr ()) (fun i x => rfl) l 0 with ⟨h1, h2⟩ | ⟨h1, j, h2⟩
  · rw [h1, h2]
  · rw [h1, h2]
theorem contains_eq {l : List (List UInt8)} (hl : (l.length : Int) ≤ maxI) (s : List UInt8) : F_slices_Contains_string l s = some (l.contains s) := by
  have hm : maxI = 9223372036854775807 := rfl
  unfold F_slices_Contains_string F_slices_Index_string
  have hloop := loop_scan (l := l) (step := step_slices_Index_string_0 l s) (fun i x => if x = s then some (Sum.inl (β := Unit) (i : Int)) else none) (.inr ()) (fun i x hx => by
    have hi := (List.getElem?_eq_some_iff.1 hx).1
    simp only [step_slices_Index_string_0, grdEq_self]
    rw [if_pos (by simp; omega), natOf_nat, hx, bnd_some, wrap_id (by omega) (by omega)]
    by_cases h : x = s
    · simp [h]
    · have : (s == x) = false := by simpa using fun e => h e.symm
      simp [h, this]) (by
    simp only [step_slices_Index_string_0, grdEq_self]
    rw [if_neg (by simp)])
  rw [hloop, bnd_some]
  rcases scan_has (f := fun i x => if x = s then some (Sum.inl (β := Unit) (i : Int)) else none) (v := s) (r := fun i => Sum.inl (i : Int)) (e := .inr ()) (fun i x => rfl) l 0 with ⟨h1, h2⟩ | ⟨h1, j, h2⟩
  · rw [h1, h2]; rfl
  · rw [h1, h2]
    simp only [bnd_some]
    simp
end Go.Abs

namespace Go.Abs
open Go
abbrev Se := List UInt8 × Int × Int × List (List UInt8) × Int
def dataI (kind : Int) (l : List (List UInt8)) (i : Nat) (x : List UInt8) : Bool := dataC kind x && (lowD kind x == x) && !((l.take i).contains x)
def datasR (kind : Int) (l : List (List UInt8)) : Bool ⊕ Unit := scanF (fun i x => if dataI kind l i x then none else some (.inl false)) (.inr ()) 0 l
def datasC (kind : Int) (l : List (List UInt8)) : Bool := match datasR kind l with | .inr _ => true | .inl _ => false
theorem scan_val {β : Type} {ok : Nat → β → Bool} : ∀ (l : List β) (i : Nat), scanF (fun i x => if ok i x then none else some (Sum.inl (β := Unit) false)) (.inr ()) i l = .inr () ∨ scanF (fun i x => if ok i x then none else some (Sum.inl (β := Unit) false)) (.inr ()) i l = .inl false
  | [], i => .inl rfl
  | x :: l, i => by
    unfold scanF
    by_cases h : ok i x = true
    · rw [if_pos h]; exact scan_val l (i + 1)
    · rw [if_neg h]; exact .inr rfl
theorem datasR_eq (kind : Int) (l : List (List UInt8)) : datasR kind l = if datasC kind l then .inr () else .inl false := by
  unfold datasC
  rcases scan_val (ok := dataI kind l) l 0 with h | h
  · have : datasR kind l = .inr () := h
    rw [this]; rfl
  · have : datasR kind l = .inl false := h
    rw [this]; rfl
theorem scan_all {β : Type} {ok : Nat → β → Bool} : ∀ (l : List β) (i : Nat), scanF (fun i x => if ok i x then none else some (Sum.inl (β := Unit) false)) (.inr ()) i l = .inr () → ∀ j x, l[j]? = some x → ok (i + j) x = true
  | [], i, _, j, x, h => by simp at h
  | y :: l, i, h, j, x, hx => by
    unfold scanF at h
    by_cases hy : ok i y = true
    · rw [if_pos hy] at h
      cases j with
      | zero => simp at hx; subst hx; exact hy
      | succ j =>
        have := scan_all l (i + 1) h j x (by simpa using hx)
        rwa [show i + 1 + j = i + (j + 1) by omega] at this
    · rw [if_neg hy] at h; simp at h
theorem datasC_mem {kind : Int} {l : List (List UInt8)} (h : datasC kind l = true) : ∀ x ∈ l, dataC kind x = true := by
  intro x hx
  have hr : datasR kind l = .inr () := by rw [datasR_eq, h]; rfl
  obtain ⟨j, hj, rfl⟩ := List.getElem_of_mem hx
  have := scan_all (ok := dataI kind l) l 0 hr j _ (List.getElem?_eq_getElem hj)
  unfold dataI at this
  simp only [Bool.and_eq_true] at this
  exact this.1.1
def setC (s : Se) : Bool := okA (s.1, s.2.1, s.2.2.1) && inC s.2.2.2.2 2147483647 && datasC s.2.1 s.2.2.2.1 && decide (0 < s.2.2.2.1.length)
def fewS (s : Se) : Prop := (s.1.length : Int) ≤ maxI ∧ s.2.2.2.1.length ≤ 1000
theorem group_datas {s : Se} (hl : s.2.2.2.1.length ≤ 1000) : loopS (step_group_Check_0 s) 0 = some (datasR s.2.1 s.2.2.2.1) := by
  have hm : maxI = 9223372036854775807 := rfl
  refine loop_scan (l := s.2.2.2.1) _ _ (fun i x hx => ?_) ?_
  · have hi := (List.getElem?_eq_some_iff.1 hx).1
    simp only [step_group_Check_0, grdEq_self]
    rw [if_pos (by simp; omega), natOf_nat, hx, bnd_some, data_Check_eq, bnd_some, wrap_id (by omega) (by omega)]
    unfold dataI
    cases hc : dataC s.2.1 x with
    | false => simp
    | true =>
      simp only [Bool.not_true, if_true]
      rw [data_Low_eq hc, bnd_some]
      cases hlo : (lowD s.2.1 x == x) with
      | false => simp
      | true =>
        simp only [Bool.not_true, if_true]
        rw [natOf_nat, grdp (by omega), contains_eq (by simp; omega), bnd_some]
        cases (s.2.2.2.1.take i).contains x <;> simp
  · simp only [step_group_Check_0, grdEq_self]
    rw [if_neg (by simp)]
theorem ref10_datas {s : Se} (hl : s.2.2.2.1.length ≤ 1000) : loopS (step_ref10_Check_0 s) 0 = some (datasR s.2.1 s.2.2.2.1) := by
  have hm : maxI = 9223372036854775807 := rfl
  refine loop_scan (l := s.2.2.2.1) _ _ (fun i x hx => ?_) ?_
  · have hi := (List.getElem?_eq_some_iff.1 hx).1
    simp only [step_ref10_Check_0, grdEq_self]
    rw [if_pos (by simp; omega), natOf_nat, hx, bnd_some, ref05_Check_eq, bnd_some, wrap_id (by omega) (by omega)]
    unfold dataI
    cases hc : dataC s.2.1 x with
    | false => simp
    | true =>
      simp only [Bool.not_true, if_true]
      rw [ref05_Low_eq hc, bnd_some]
      cases hlo : (lowD s.2.1 x == x) with
      | false => simp
      | true =>
        simp only [Bool.not_true, if_true]
        rw [natOf_nat, grdp (by omega), ref10_In_eq (by simp; omega), bnd_some]
        cases (s.2.2.2.1.take i).contains x <;> simp
  · simp only [step_ref10_Check_0, grdEq_self]
    rw [if_neg (by simp)]
theorem group_Check_eq {s : Se} (h : fewS s) : F_group_Check s = some (setC s) := by
  obtain ⟨h1, h2⟩ := h
  unfold F_group_Check setC okA
  simp only [name_Check_eq h1, name_Low_eq h1, group_in_eq, bnd_some, grdEq_self, group_datas h2, datasR_eq]
  have e : decide ((0 : Int) < (s.2.2.2.1.length : Int)) = decide (0 < s.2.2.2.1.length) := by rw [Bool.eq_iff_iff]; simp
  rw [e]
  cases nameS s.1 <;> cases (lowN s.1 == s.1) <;> cases inC s.2.1 65535 <;> cases inC s.2.2.1 65535 <;> cases inC s.2.2.2.2 2147483647 <;> cases datasC s.2.1 s.2.2.2.1 <;> rfl
theorem ref10_Check_eq {s : Se} (h : fewS s) : F_ref10_Check s = some (setC s) := by
  obtain ⟨h1, h2⟩ := h
  unfold F_ref10_Check setC
  have ea : F_ref10_Asked (s.1, s.2.1, s.2.2.1) = some (okA (s.1, s.2.1, s.2.2.1)) := ref10_Asked_eq h1
  simp only [ea, bnd_some, grdEq_self, ref10_datas h2, datasR_eq]
  have e : decide ((0 : Int) < (s.2.2.2.1.length : Int)) = decide (0 < s.2.2.2.1.length) := by rw [Bool.eq_iff_iff]; simp
  rw [e]
  have e2 : inC s.2.2.2.2 2147483647 = (decide (0 ≤ s.2.2.2.2) && decide (s.2.2.2.2 < 2147483648)) := by
    unfold inC
    congr 1
    rw [Bool.eq_iff_iff]; simp; omega
  rw [e2]
  cases okA (s.1, s.2.1, s.2.2.1) <;> cases decide (0 ≤ s.2.2.2.2) <;> cases decide (s.2.2.2.2 < 2147483648) <;> cases datasC s.2.1 s.2.2.2.1 <;> rfl
def recI (s : Se) (ttl : Int) (d : List UInt8) : RRt := (s.1, s.2.1, s.2.2.1, ttl, d)
def flatS (s : Se) (ttl turn : Int) : List RRt :=
  if setC s = false ∨ inC ttl 2147483647 = false ∨ turn < 0 then [] else (rot s.2.2.2.1 (turn.toNat % s.2.2.2.1.length)).map (recI s ttl)
theorem flat_loop {s : Se} {ttl : Int} {R : List (List UInt8)} (hl : R.length ≤ 1000) : loopS (step_group_Flat_0 s ttl R) ([], (R, 0)) = some (R.map (recI s ttl)) := by
  have := loop_run (step := step_group_Flat_0 s ttl R) (t := R.map (recI s ttl)) (s := fun i => ((R.take i).map (recI s ttl), (R, (i : Int)))) R.length (fun i hi => by
    obtain ⟨x, hx⟩ : ∃ x, R[i]? = some x := ⟨R[i], by simp [hi]⟩
    simp only [step_group_Flat_0, grdEq_self]
    rw [if_pos (by simp; omega), natOf_nat, hx, bnd_some, grdp (by unfold roomLim; simp; omega), wrap_id (by omega) (by omega), take_next hx]
    simp [recI]) (by
    simp only [step_group_Flat_0, grdEq_self]
    rw [if_neg (by simp)]
    simp)
  simpa using this
theorem group_Flat_eq {s : Se} (h : fewS s) (ttl turn : Int) : F_group_Flat s ttl turn = some (flatS s ttl turn) := by
  obtain ⟨h1, h2⟩ := h
  unfold F_group_Flat flatS
  have e : F_group_Check (s.fst, s.snd.fst, s.snd.snd.fst, s.snd.snd.snd.fst, s.snd.snd.snd.snd) = some (setC s) := group_Check_eq ⟨h1, h2⟩
  simp only [e, group_in_eq, bnd_some, grdEq_self]
  cases hc : setC s with
  | false => simp [bnd_some]
  | true =>
    cases hi : inC ttl 2147483647 with
    | false => simp [bnd_some]
    | true =>
      by_cases ht : turn < 0
      · simp [ht, bnd_some]
      · have hpos : 0 < s.2.2.2.1.length := by
          unfold setC at hc
          simp only [Bool.and_eq_true, decide_eq_true_eq] at hc
          exact hc.2
        have hat := at_eq (turn := turn) (n := s.2.2.2.1.length) (by omega) hpos
        have hlt : turn.toNat % s.2.2.2.1.length < s.2.2.2.1.length := Nat.mod_lt _ hpos
        simp only [Bool.not_true, if_true, ht, decide_false, Bool.false_eq_true, if_false, bnd_some]
        rw [if_neg (show ¬ ((s.2.2.2.1.length : Nat) : Int) = 0 by omega), hat, natOf_nat, grdp (by omega), natOf_nat, grdp (by omega)]
        generalize turn.toNat % s.2.2.2.1.length = a at *
        have d1 : ((List.drop a s.2.2.2.1).length : Int) = (s.2.2.2.1.length : Int) - a := by rw [List.length_drop]; omega
        have d2 : ((List.take a s.2.2.2.1).length : Int) = a := by rw [List.length_take]; omega
        have w1 : IntKind.i64.wrap (0 + ((List.drop a s.2.2.2.1).length : Int)) = (s.2.2.2.1.length : Int) - a := by rw [d1, wrap_id (by omega) (by omega)]; omega
        have w2 : IntKind.i64.wrap ((s.2.2.2.1.length : Int) - a + ((List.take a s.2.2.2.1).length : Int)) = (s.2.2.2.1.length : Int) := by rw [d2, wrap_id (by omega) (by omega)]; omega
        have w3 : IntKind.i64.wrap ((s.2.2.2.1.length : Int) - 0) = (s.2.2.2.1.length : Int) := by rw [wrap_id (by omega) (by omega)]; omega
        simp only [w1, w2, w3]
        rw [if_neg (by simp; omega), if_neg (by simp), if_neg (by simp), bnd_some, if_pos (by simp; omega)]
        have l1 : (List.drop a s.2.2.2.1).length ≤ 1000 := by rw [List.length_drop]; omega
        have l2 : (List.take a s.2.2.2.1).length ≤ 1000 := by rw [List.length_take]; omega
        rw [grdp ⟨by omega, by omega, by omega⟩, grdp (by rw [List.length_replicate]; unfold roomLim; omega), grdp (by omega), grdp (by simp only [List.take_zero, List.length_nil]; unfold roomLim; omega), grdp (by simp only [List.take_zero, List.nil_append, List.length_append, List.length_nil]; unfold roomLim; omega)]
        simp only [List.take_zero, List.nil_append, bnd_some]
        have := flat_loop (s := s) (ttl := ttl) (R := rot s.2.2.2.1 a) (by rw [rot_len]; exact h2)
        unfold rot at this
        rw [this, bnd_some]
        simp [rot]
theorem ref10_Flat_eq {s : Se} (h : fewS s) (ttl turn : Int) : F_ref10_Flat s ttl turn = some (flatS s ttl turn) := by
  obtain ⟨h1, h2⟩ := h
  unfold F_ref10_Flat flatS
  have e : F_ref10_Check (s.fst, s.snd.fst, s.snd.snd.fst, s.snd.snd.snd.fst, s.snd.snd.snd.snd) = some (setC s) := ref10_Check_eq ⟨h1, h2⟩
  simp only [e, bnd_some, grdEq_self]
  cases hc : setC s with
  | false => simp [bnd_some]
  | true =>
    by_cases i1 : ttl < 0
    · have : inC ttl 2147483647 = false := by unfold inC; simp; omega
      simp [i1, this, bnd_some]
    · by_cases i2 : 2147483648 ≤ ttl
      · have : inC ttl 2147483647 = false := by unfold inC; simp; omega
        simp [i1, i2, this, bnd_some]
      · have hi : inC ttl 2147483647 = true := by unfold inC; simp; omega
        by_cases ht : turn < 0
        · simp [i1, i2, hi, ht, bnd_some]
        · have hpos : 0 < s.2.2.2.1.length := by
            unfold setC at hc
            simp only [Bool.and_eq_true, decide_eq_true_eq] at hc
            exact hc.2
          have hat := at_eq (turn := turn) (n := s.2.2.2.1.length) (by omega) hpos
          have hlt : turn.toNat % s.2.2.2.1.length < s.2.2.2.1.length := Nat.mod_lt _ hpos
          simp only [Bool.not_true, if_true, i1, i2, hi, ht, decide_false, Bool.false_eq_true, Bool.true_eq_false, or_self, if_false, bnd_some]
          have := loop_run (step := step_ref10_Flat_0 s ttl turn) (t := (rot s.2.2.2.1 (turn.toNat % s.2.2.2.1.length)).map (recI s ttl)) (s := fun i => (((rot s.2.2.2.1 (turn.toNat % s.2.2.2.1.length)).take i).map (recI s ttl), (i : Int))) s.2.2.2.1.length (fun i hi => by
            obtain ⟨x, hx⟩ : ∃ x, (rot s.2.2.2.1 (turn.toNat % s.2.2.2.1.length))[i]? = some x := ⟨(rot s.2.2.2.1 (turn.toNat % s.2.2.2.1.length))[i]'(by rw [rot_len]; exact hi), by simp⟩
            have hx2 := hx
            rw [rot_get hlt hi] at hx2
            have hmod : ((turn.toNat % s.2.2.2.1.length : Nat) + (i : Int)).tmod (s.2.2.2.1.length : Int) = (((turn.toNat % s.2.2.2.1.length + i) % s.2.2.2.1.length : Nat) : Int) := by
              rw [Int.tmod_eq_emod_of_nonneg (by omega)]; rfl
            simp only [step_ref10_Flat_0, grdEq_self]
            rw [if_pos (by simp; omega), if_neg (by omega), if_neg (by omega), hat, wrap_id (x := ((turn.toNat % s.2.2.2.1.length : Nat) : Int) + (i : Int)) (by omega) (by omega), hmod, natOf_nat, hx2, bnd_some, grdp (by unfold roomLim; simp; omega), wrap_id (by omega) (by omega), take_next hx]
            simp [recI]) (by
            simp only [step_ref10_Flat_0, grdEq_self]
            rw [if_neg (by simp), List.take_of_length_le (by rw [rot_len]; exact Nat.le_refl _)])
          simp only [List.take_zero, List.map_nil, Int.natCast_zero] at this
          rw [this, bnd_some]
end Go.Abs

namespace Go.Abs
open Go
abbrev Hi := List UInt8 × Int × Int × List (List UInt8) × Int × Int
abbrev Ch := List Hi × Int × List UInt8 × Hi
def hitS (h : Hi) : Se := (h.1, h.2.1, h.2.2.1, h.2.2.2.1, h.2.2.2.2.1)
def smallS (s : Se) : Bool := s.2.2.2.1.all (fun x => decide (x.length ≤ 2000) && decide (s.2.2.2.1.length ≤ 60)) && decide (s.1.length ≤ 300)
def smallC (c : Ch) : Bool := c.1.all (fun h => smallS (hitS h)) && decide (c.1.length ≤ 12) && smallS (hitS c.2.2.2)
def okC (c : Ch) : Prop := (c.1.length : Int) ≤ maxI ∧ (∀ h ∈ c.1, (h.2.2.2.1.length : Int) ≤ maxI) ∧ (c.2.2.2.2.2.2.1.length : Int) ≤ maxI
theorem smallS_iff {s : Se} (h : smallS s = true) : s.2.2.2.1.length ≤ 60 ∧ (∀ x ∈ s.2.2.2.1, x.length ≤ 2000) ∧ s.1.length ≤ 300 := by
  unfold smallS at h
  simp only [Bool.and_eq_true, List.all_eq_true, decide_eq_true_eq] at h
  refine ⟨?_, fun x hx => (h.1 x hx).1, h.2⟩
  cases hd : s.2.2.2.1 with
  | nil => simp
  | cons x l => rw [← hd]; exact (h.1 x (by rw [hd]; simp)).2
theorem ref10_Small_eq {s : Se} (hl : (s.2.2.2.1.length : Int) ≤ maxI) : F_ref10_Small s = some (smallS s) := by
  have hm : maxI = 9223372036854775807 := rfl
  unfold F_ref10_Small smallS
  obtain ⟨r, r1, r2⟩ := all_loop (ok := fun x : List UInt8 => decide (x.length ≤ 2000) && decide (s.2.2.2.1.length ≤ 60)) (bad := fun _ => false) (step := step_ref10_Small_0 s) s.2.2.2.1 (by
    simp only [step_ref10_Small_0, grdEq_self]
    rw [if_neg (by simp)]) (fun i x hx => by
    have hi := (List.getElem?_eq_some_iff.1 hx).1
    simp only [step_ref10_Small_0, natOf_nat, hx, bnd_some, grdEq_self]
    rw [if_pos (by simp; omega), wrap_id (by omega) (by omega)]
    by_cases h1 : x.length ≤ 2000
    · have e1 : ¬ (2000 : Int) < (x.length : Int) := by omega
      by_cases h2 : s.2.2.2.1.length ≤ 60
      · have e2 : ¬ (60 : Int) < (s.2.2.2.1.length : Int) := by omega
        simp [h1, h2, e1, e2]
      · have e2 : (60 : Int) < (s.2.2.2.1.length : Int) := by omega
        simp [h1, h2, e1, e2]
    · have e1 : (2000 : Int) < (x.length : Int) := by omega
      simp [h1, e1])
  rw [r1, bnd_some]
  have e : decide ((s.1.length : Int) ≤ 300) = decide (s.1.length ≤ 300) := by rw [Bool.eq_iff_iff]; simp; omega
  by_cases h : s.2.2.2.1.all (fun x : List UInt8 => decide (x.length ≤ 2000) && decide (s.2.2.2.1.length ≤ 60)) = true
  · rw [if_pos h] at r2; subst r2; simp only [h, e, Bool.true_and]
  · rw [if_neg h] at r2; obtain ⟨_, rfl⟩ := r2
    simp only [Bool.not_eq_true] at h
    simp only [h, Bool.false_and]
theorem ref17_Small_eq {c : Ch} (hc : okC c) : F_ref17_Small c = some (smallC c) := by
  have hm : maxI = 9223372036854775807 := rfl
  obtain ⟨c1, c2, c3⟩ := hc
  unfold F_ref17_Small smallC
  obtain ⟨r, r1, r2⟩ := all_loop (ok := fun h : Hi => smallS (hitS h)) (bad := fun _ => false) (step := step_ref17_Small_0 c) c.1 (by
    simp only [step_ref17_Small_0, grdEq_self]
    rw [if_neg (by simp)]) (fun i x hx => by
    have hi := (List.getElem?_eq_some_iff.1 hx).1
    have e : F_ref10_Small (x.fst, x.snd.fst, x.snd.snd.fst, x.snd.snd.snd.fst, x.snd.snd.snd.snd.fst) = some (smallS (hitS x)) := ref10_Small_eq (c2 x (List.mem_of_getElem? hx))
    simp only [step_ref17_Small_0, natOf_nat, hx, bnd_some, grdEq_self, e]
    rw [if_pos (by simp; omega), wrap_id (by omega) (by omega)]
    cases smallS (hitS x) <;> simp)
  rw [r1, bnd_some]
  have e2 : F_ref10_Small (c.snd.snd.snd.fst, c.snd.snd.snd.snd.fst, c.snd.snd.snd.snd.snd.fst, c.snd.snd.snd.snd.snd.snd.fst, c.snd.snd.snd.snd.snd.snd.snd.fst) = some (smallS (hitS c.2.2.2)) := ref10_Small_eq c3
  have e : decide ((c.1.length : Int) ≤ 12) = decide (c.1.length ≤ 12) := by rw [Bool.eq_iff_iff]; simp; omega
  by_cases h : c.1.all (fun h : Hi => smallS (hitS h)) = true
  · rw [if_pos h] at r2; subst r2
    simp only [h, e, e2, grdEq_self, bnd_some, Bool.true_and]
    cases decide (c.1.length ≤ 12) <;> simp
  · rw [if_neg h] at r2; obtain ⟨_, rfl⟩ := r2
    simp only [Bool.not_eq_true] at h
    simp only [h, Bool.false_and]
theorem chain_eq {c : Ch} (hl : c.1.length ≤ 12) : F_law17_Chain c = some c := by
  unfold F_law17_Chain
  have := loop_run (step := step_law17_Chain_0 c) (t := c.1) (s := fun i => ((i : Int), c.1.take i)) c.1.length (fun i hi => by
    obtain ⟨x, hx⟩ : ∃ x, c.1[i]? = some x := ⟨c.1[i], by simp [hi]⟩
    simp only [step_law17_Chain_0, grdEq_self]
    rw [if_pos (by simp; omega), natOf_nat, hx, bnd_some, grdp (by unfold roomLim; simp; omega), wrap_id (by omega) (by omega), take_next hx]
    rfl) (by
    simp only [step_law17_Chain_0, grdEq_self]
    rw [if_neg (by simp)]
    simp)
  simp only [List.take_zero, Int.natCast_zero] at this
  rw [this, bnd_some]
def spansW (base : List UInt8) : Nat → List RRt → List Sp
  | _, [] => []
  | a, r :: l => ((a : Int), ((a + (recE base 12 r).length : Nat) : Int), (a : Int) + ttlS base 12 r) :: spansW base (a + (recE base 12 r).length) l
theorem spansW_app {base : List UInt8} {r : RRt} : ∀ (l : List RRt) (a : Nat), spansW base a (l ++ [r]) = spansW base a l ++ [(((a + (encs base l).length : Nat) : Int), ((a + (encs base l).length + (recE base 12 r).length : Nat) : Int), ((a + (encs base l).length : Nat) : Int) + ttlS base 12 r)]
  | [], a => by simp [spansW, encs]
  | x :: l, a => by
    rw [List.cons_append, spansW, spansW, spansW_app l, encs_cons, List.length_append, List.cons_append]
    simp only [Nat.add_assoc]
theorem spansW_len {base : List UInt8} : ∀ (l : List RRt) (a : Nat), (spansW base a l).length = l.length
  | [], a => rfl
  | x :: l, a => by rw [spansW, List.length_cons, List.length_cons, spansW_len]
abbrev TP := List UInt8 × List Pc
def layS (base : List UInt8) (now : Int) (h : Hi) (soa : Bool) (t : TP) : Option TP :=
  if flatS (hitS h) h.2.2.2.2.2 0 = [] ∨ h.2.2.2.2.2 < 1 ∨ 604800 < h.2.2.2.2.2 then none
  else some (t.1 ++ encs base (flatS (hitS h) h.2.2.2.2.2 0), t.2 ++ [(spansW base t.1.length (flatS (hitS h) h.2.2.2.2.2 0), now + h.2.2.2.2.2, soa)])
def makeL (base : List UInt8) (now : Int) : List Hi → TP → Option TP
  | [], t => some t
  | h :: l, t => match layS base now h false t with
    | some t => makeL base now l t
    | none => none
def tt0 : Tt := ([], 0, 0, 0, [], [])
def makeS (now : Int) (q : Qq) (c : Ch) : Tt × Bool :=
  if (c.2.1 = 0 ∨ c.2.1 = 1 ∨ c.2.1 = 2) ∧ timeS now = true ∧ okA q = true then
    match makeL q.1 now c.1 ([], []) with
    | none => (tt0, false)
    | some t => if c.2.1 = 0 then ((q.1, q.2.1, q.2.2, 0, t.1, t.2), true) else
      match layS q.1 now c.2.2.2 true t with
      | none => (tt0, false)
      | some t => ((q.1, q.2.1, q.2.2, if c.2.1 = 2 then 3 else 0, t.1, t.2), true)
  else (tt0, false)
theorem flatS_mem {s : Se} {ttl turn : Int} {r : RRt} (hs : smallS s = true) (h : r ∈ flatS s ttl turn) : goodR r ∧ r.1.length ≤ 255 ∧ ∃ d ∈ s.2.2.2.1, r = recI s ttl d := by
  unfold flatS at h
  split at h
  · simp at h
  · rename_i hc
    simp only [not_or, Bool.not_eq_false] at hc
    obtain ⟨d, hd, rfl⟩ := List.mem_map.1 h
    have hd := rot_mem hd
    obtain ⟨s1, s2, s3⟩ := smallS_iff hs
    have hset := hc.1
    unfold setC okA at hset
    simp only [Bool.and_eq_true] at hset
    have hnm := hset.1.1.1.1.1.1
    have hdc := datasC_mem hset.1.2 d hd
    refine ⟨⟨s3, s2 d hd, ?_⟩, (nameS_pos hnm).2, d, hd, rfl⟩
    unfold recC recI
    simp only [Bool.and_eq_true]
    exact ⟨⟨⟨⟨hnm, hset.1.1.1.1.2⟩, hset.1.1.1.2⟩, hc.2.1⟩, hdc⟩
theorem flatS_len {s : Se} {ttl turn : Int} (hs : smallS s = true) : (flatS s ttl turn).length ≤ 60 := by
  obtain ⟨s1, s2, s3⟩ := smallS_iff hs
  unfold flatS
  split
  · simp
  · rw [List.length_map, rot_len]; exact s1
theorem ttlS_bound (base : List UInt8) (r : RRt) : -1 ≤ ttlS base 12 r ∧ ttlS base 12 r ≤ 261 := by
  unfold ttlS
  have := writeS_len base r.1 12
  split <;> omega
theorem make_loop1 {now : Int} {q : Qq} {c : Ch} {code : Int} {x : Hi} {text : List UInt8} {ps : List Pc} {l : List RRt} (hq : (q.1.length : Int) ≤ maxI) (ht : text.length ≤ 3000000) (hl : l.length ≤ 60) (hg : ∀ r ∈ l, goodR r) :
    loopS (step_tmpl_Make_1 now q c code x l) (0, (text, (ps, []))) = some (text ++ encs q.1 l, (ps, spansW q.1 text.length l)) := by
  have hm : maxI = 9223372036854775807 := rfl
  have := loop_run (step := step_tmpl_Make_1 now q c code x l) (t := (text ++ encs q.1 l, (ps, spansW q.1 text.length l))) (s := fun i => ((i : Int), (text ++ encs q.1 (l.take i), (ps, spansW q.1 text.length (l.take i))))) l.length (fun i hi => by
    obtain ⟨r, hr⟩ : ∃ r, l[i]? = some r := ⟨l[i], by simp [hi]⟩
    have hgr := hg r (List.mem_of_getElem? hr)
    have he : (encs q.1 (l.take i)).length ≤ 2267 * 60 := by
      have h1 := encs_len (base := q.1) (l := l.take i) (fun r hr => hg r (List.mem_of_mem_take hr))
      have h2 : (l.take i).length ≤ 60 := by rw [List.length_take]; omega
      have := Nat.mul_le_mul_left 2267 h2
      omega
    have hrl := recE_len (base := q.1) (r := r)
    have hb := ttlS_bound q.1 r
    have h1 := hgr.1
    have h2 := hgr.2.1
    have e1 : F_record_Encode q.fst 12 (r.fst, r.snd.fst, r.snd.snd.fst, r.snd.snd.snd.fst, r.snd.snd.snd.snd) = some (recE q.1 12 r) := record_Encode_eq (r := r) hq (by omega) 12
    have e2 : F_record_TTL q.fst 12 (r.fst, r.snd.fst, r.snd.snd.fst, r.snd.snd.snd.fst, r.snd.snd.snd.snd) = some (ttlS q.1 12 r) := record_TTL_eq (r := r) hq (by omega) 12
    simp only [step_tmpl_Make_1, grdEq_self]
    rw [if_pos (by simp; omega), natOf_nat, hr, bnd_some, e1, bnd_some, grdp (by unfold maxStr; rw [List.length_append]; omega), e2, bnd_some, grdp (by unfold roomLim; rw [List.length_append, spansW_len, List.length_take]; simp; omega), wrap_id (x := (i : Int) + 1) (by omega) (by omega), wrap_id (by rw [List.length_append]; omega) (by rw [List.length_append]; omega), take_next hr, spansW_app, encs_app]
    simp [encs, Nat.add_assoc]) (by
    simp only [step_tmpl_Make_1, grdEq_self]
    rw [if_neg (by simp), List.take_length])
  simpa [spansW, encs] using this
theorem make_loop2 {now : Int} {q : Qq} {c : Ch} {code : Int} {text : List UInt8} {ps : List Pc} {l : List RRt} (hq : (q.1.length : Int) ≤ maxI) (ht : text.length ≤ 3000000) (hl : l.length ≤ 60) (hg : ∀ r ∈ l, goodR r) :
    loopS (step_tmpl_Make_2 now q c code l) (0, (text, (ps, []))) = some (text ++ encs q.1 l, (ps, spansW q.1 text.length l)) := by
  have hm : maxI = 9223372036854775807 := rfl
  have := loop_run (step := step_tmpl_Make_2 now q c code l) (t := (text ++ encs q.1 l, (ps, spansW q.1 text.length l))) (s := fun i => ((i : Int), (text ++ encs q.1 (l.take i), (ps, spansW q.1 text.length (l.take i))))) l.length (fun i hi => by
    obtain ⟨r, hr⟩ : ∃ r, l[i]? = some r := ⟨l[i], by simp [hi]⟩
    have hgr := hg r (List.mem_of_getElem? hr)
    have he : (encs q.1 (l.take i)).length ≤ 2267 * 60 := by
      have h1 := encs_len (base := q.1) (l := l.take i) (fun r hr => hg r (List.mem_of_mem_take hr))
      have h2 : (l.take i).length ≤ 60 := by rw [List.length_take]; omega
      have := Nat.mul_le_mul_left 2267 h2
      omega
    have hrl := recE_len (base := q.1) (r := r)
    have hb := ttlS_bound q.1 r
    have h1 := hgr.1
    have h2 := hgr.2.1
    have e1 : F_record_Encode q.fst 12 (r.fst, r.snd.fst, r.snd.snd.fst, r.snd.snd.snd.fst, r.snd.snd.snd.snd) = some (recE q.1 12 r) := record_Encode_eq (r := r) hq (by omega) 12
    have e2 : F_record_TTL q.fst 12 (r.fst, r.snd.fst, r.snd.snd.fst, r.snd.snd.snd.fst, r.snd.snd.snd.snd) = some (ttlS q.1 12 r) := record_TTL_eq (r := r) hq (by omega) 12
    simp only [step_tmpl_Make_2, grdEq_self]
    rw [if_pos (by simp; omega), natOf_nat, hr, bnd_some, e1, bnd_some, grdp (by unfold maxStr; rw [List.length_append]; omega), e2, bnd_some, grdp (by unfold roomLim; rw [List.length_append, spansW_len, List.length_take]; simp; omega), wrap_id (x := (i : Int) + 1) (by omega) (by omega), wrap_id (by rw [List.length_append]; omega) (by rw [List.length_append]; omega), take_next hr, spansW_app, encs_app]
    simp [encs, Nat.add_assoc]) (by
    simp only [step_tmpl_Make_2, grdEq_self]
    rw [if_neg (by simp), List.take_length])
  simpa [spansW, encs] using this
end Go.Abs

namespace Go.Abs
open Go
theorem layS_none {base : List UInt8} {now : Int} {h : Hi} {soa : Bool} {t : TP} (hn : flatS (hitS h) h.2.2.2.2.2 0 = [] ∨ h.2.2.2.2.2 < 1 ∨ 604800 < h.2.2.2.2.2) : layS base now h soa t = none := by
  unfold layS; rw [if_pos hn]
theorem layS_some {base : List UInt8} {now : Int} {h : Hi} {soa : Bool} {t : TP} (hn : ¬ (flatS (hitS h) h.2.2.2.2.2 0 = [] ∨ h.2.2.2.2.2 < 1 ∨ 604800 < h.2.2.2.2.2)) :
    layS base now h soa t = some (t.1 ++ encs base (flatS (hitS h) h.2.2.2.2.2 0), t.2 ++ [(spansW base t.1.length (flatS (hitS h) h.2.2.2.2.2 0), now + h.2.2.2.2.2, soa)]) := by
  unfold layS; rw [if_neg hn]
theorem encs_flat_len {base : List UInt8} {s : Se} {ttl turn : Int} (hs : smallS s = true) : (encs base (flatS s ttl turn)).length ≤ 136020 := by
  have h1 := encs_len (base := base) (l := flatS s ttl turn) (fun r hr => (flatS_mem hs hr).1)
  have h2 := flatS_len (ttl := ttl) (turn := turn) hs
  have := Nat.mul_le_mul_left 2267 h2
  omega
theorem layS_len {base : List UInt8} {now : Int} {h : Hi} {soa : Bool} {t t' : TP} (hs : smallS (hitS h) = true) (hl : layS base now h soa t = some t') : t'.1.length ≤ t.1.length + 136020 ∧ t'.2.length = t.2.length + 1 := by
  unfold layS at hl
  split at hl
  · simp at hl
  · simp only [Option.some.injEq] at hl
    subst hl
    have := encs_flat_len (base := base) (ttl := h.2.2.2.2.2) (turn := 0) hs
    constructor
    · show (t.1 ++ encs base (flatS (hitS h) h.2.2.2.2.2 0)).length ≤ _
      rw [List.length_append]; omega
    · show (t.2 ++ [_]).length = _
      rw [List.length_append]; rfl
theorem make_loop0 {now : Int} {q : Qq} {c : Ch} {code : Int} (hq : (q.1.length : Int) ≤ maxI) (htm : timeS now = true) (hc : c.1.length ≤ 12) (hs : ∀ h ∈ c.1, smallS (hitS h) = true) : ∀ (v u : List Hi) (t : TP), c.1 = u ++ v → t.1.length ≤ 136020 * u.length → t.2.length ≤ u.length →
    ∃ r, loopS (step_tmpl_Make_0 now q c code) ((u.length : Int), (t.1, t.2)) = some r ∧ (match makeL q.1 now v t with | some t' => r = .inl (t'.1, t'.2) ∧ t'.1.length ≤ 136020 * c.1.length ∧ t'.2.length ≤ c.1.length | none => ∃ a b, r = .inr (false, (a, b))) := by
  have hm : maxI = 9223372036854775807 := rfl
  have htm2 : 0 ≤ now ∧ now ≤ 1099511627776 := by
    unfold timeS inC at htm
    simpa using htm
  intro v
  induction v with
  | nil =>
    intro u t hu h1 h2
    rw [List.append_nil] at hu
    refine ⟨.inl (t.1, t.2), loopS_out ?_, ⟨rfl, by rw [hu]; exact h1, by rw [hu]; exact h2⟩⟩
    simp only [step_tmpl_Make_0, grdEq_self]
    rw [if_neg (by rw [hu]; simp)]
  | cons x v ih =>
    intro u t hu h1 h2
    have hx : c.1[u.length]? = some x := by rw [hu]; simp
    have hmem : x ∈ c.1 := List.mem_of_getElem? hx
    have hsx := hs x hmem
    obtain ⟨s1, s2, s3⟩ := smallS_iff hsx
    have hi := (List.getElem?_eq_some_iff.1 hx).1
    have ef : F_group_Flat (x.fst, x.snd.fst, x.snd.snd.fst, x.snd.snd.snd.fst, x.snd.snd.snd.snd.fst) x.snd.snd.snd.snd.snd 0 = some (flatS (hitS x) x.2.2.2.2.2 0) := group_Flat_eq (s := hitS x) ⟨by have : (hitS x).1.length ≤ 300 := s3; omega, by omega⟩ _ _
    have hcl : decide ((u.length : Int) < (c.1.length : Int)) = true := by simp; omega
    by_cases hn : flatS (hitS x) x.2.2.2.2.2 0 = [] ∨ x.2.2.2.2.2 < 1 ∨ 604800 < x.2.2.2.2.2
    · refine ⟨.inr (false, (t.1, t.2)), loopS_out ?_, by simp only [makeL, layS_none hn]; exact ⟨_, _, rfl⟩⟩
      simp only [step_tmpl_Make_0, grdEq_self, hcl, if_true, natOf_nat, hx, bnd_some, ef, len0]
      by_cases c1 : flatS (hitS x) x.2.2.2.2.2 0 = []
      · simp [c1, bnd_some]
      · by_cases c2 : x.2.2.2.2.2 < 1
        · simp [c1, c2, bnd_some]
        · have c3 : 604800 < x.2.2.2.2.2 := by
            rcases hn with h | h | h
            · exact absurd h c1
            · exact absurd h c2
            · exact h
          simp [c1, c2, c3, bnd_some]
    · have hlay := layS_some (base := q.1) (now := now) (soa := false) (t := t) hn
      obtain ⟨l1, l2⟩ := layS_len hsx hlay
      have hul : (u ++ [x]).length = u.length + 1 := by simp
      obtain ⟨r, r1, r2⟩ := ih (u ++ [x]) _ (by rw [hu]; simp) (by rw [hul]; exact Nat.le_trans l1 (by omega)) (by rw [hul]; exact Nat.le_trans (Nat.le_of_eq l2) (by omega))
      refine ⟨r, ?_, by simp only [makeL, hlay]; exact r2⟩
      rw [loopS_next (y := (((u ++ [x]).length : Int), (t.1 ++ encs q.1 (flatS (hitS x) x.2.2.2.2.2 0), t.2 ++ [(spansW q.1 t.1.length (flatS (hitS x) x.2.2.2.2.2 0), now + x.2.2.2.2.2, false)])))]
      · exact r1
      · have hg := make_loop1 (now := now) (q := q) (c := c) (code := code) (x := x) (text := t.1) (ps := t.2) (l := flatS (hitS x) x.2.2.2.2.2 0) hq (by omega) (flatS_len hsx) (fun r hr => (flatS_mem hsx hr).1)
        simp only [not_or, Int.not_lt] at hn
        simp only [step_tmpl_Make_0, grdEq_self, hcl, if_true, natOf_nat, hx, bnd_some, ef, len0]
        have n1 : ¬ x.2.2.2.2.2 < 1 := by omega
        have n2 : ¬ 604800 < x.2.2.2.2.2 := by omega
        have n0 : ¬ (flatS (hitS x) x.2.2.2.2.2 0).length = 0 := by simpa using hn.1
        simp only [n0, n1, n2, decide_false, Bool.false_eq_true, if_true, if_false, bnd_some, hg]
        rw [grdp (by unfold roomLim; simp; omega), wrap_id (x := now + x.2.2.2.2.2) (by omega) (by omega), wrap_id (x := (u.length : Int) + 1) (by omega) (by omega)]
        simp
theorem tmpl_Make_eq {now : Int} {q : Qq} {c : Ch} (hq : (q.1.length : Int) ≤ maxI) (hc : smallC c = true) : F_tmpl_Make now q c = some (makeS now q c) := by
  have hm : maxI = 9223372036854775807 := rfl
  unfold smallC at hc
  simp only [Bool.and_eq_true, List.all_eq_true, decide_eq_true_eq] at hc
  obtain ⟨⟨h1, h2⟩, h3⟩ := hc
  unfold F_tmpl_Make makeS
  have ea : F_tmpl_asked (q.fst, q.snd.fst, q.snd.snd) = some (okA q) := tmpl_asked_eq hq
  have eall : ∀ code : Int, (bnd (α := (Bool ⊕ Unit)) (bnd (F_tmpl_in now 1099511627776) fun v7 => if (!v7) = false then bnd (F_tmpl_asked (q.fst, q.snd.fst, q.snd.snd)) fun v8 => if (!v8) = true then some (.inl false) else some (.inr ()) else some (.inl false)) fun o => some o) = some (if timeS now = true ∧ okA q = true then .inr () else .inl false) := by
    intro code
    rw [ea, tmpl_in_eq, bnd_some, bnd_some]
    have : inC now 1099511627776 = timeS now := rfl
    rw [this]
    cases timeS now <;> cases okA q <;> rfl
  obtain ⟨z1, z2, z3⟩ := smallS_iff h3
  have ef : F_group_Flat (c.snd.snd.snd.fst, c.snd.snd.snd.snd.fst, c.snd.snd.snd.snd.snd.fst, c.snd.snd.snd.snd.snd.snd.fst, c.snd.snd.snd.snd.snd.snd.snd.fst) c.snd.snd.snd.snd.snd.snd.snd.snd 0 = some (flatS (hitS c.2.2.2) c.2.2.2.2.2.2.2.2 0) := group_Flat_eq (s := hitS c.2.2.2) ⟨by have : (hitS c.2.2.2).1.length ≤ 300 := z3; omega, by omega⟩ _ _
  simp only [grdEq_self]
  by_cases he : c.2.1 = 0 ∨ c.2.1 = 1 ∨ c.2.1 = 2
  ·
    have hcode : (bnd (α := (Int ⊕ Bool)) (bnd (α := Bool) (if (c.snd.fst == 0) = true then some (c.snd.fst == 0) else some (c.snd.fst == 1)) fun s16_4 => if s16_4 = true then some (.inl 0) else if (c.snd.fst == 2) = true then some (.inl 3) else some (.inr false)) fun o => some o) = some (.inl (if c.2.1 = 2 then 3 else 0)) := by
      rcases he with h | h | h <;> simp [h, bnd_some]
    have hcode' : (bnd (α := Bool) (if (c.snd.fst == 0) = true then some (c.snd.fst == 0) else some (c.snd.fst == 1)) fun s16_4 => if s16_4 = true then some (Sum.inl (β := Bool) (0 : Int)) else if (c.snd.fst == 2) = true then some (.inl 3) else some (.inr false)) = some (.inl (if c.2.1 = 2 then 3 else 0)) := by
      rcases he with h | h | h <;> simp [h, bnd_some]
    rw [hcode', bnd_some]
    simp only [tmpl_in_eq, ea, bnd_some]
    have et : inC now 1099511627776 = timeS now := rfl
    rw [et]
    cases htm : timeS now with
    | false => simp [bnd_some, tt0]
    | true =>
      cases hok : okA q with
      | false => simp [bnd_some, tt0]
      | true =>
        simp only [Bool.not_true, Bool.false_eq_true, if_true, if_false, bnd_some, he, and_self]
        obtain ⟨r, r1, r2⟩ := make_loop0 (code := if c.2.1 = 2 then 3 else 0) hq htm h2 h1 c.1 [] ([], []) rfl (by simp) (by simp)
        simp only [List.length_nil, Int.natCast_zero] at r1
        rw [r1, bnd_some]
        cases hmk : makeL q.1 now c.1 ([], []) with
        | none =>
          rw [hmk] at r2
          obtain ⟨a, b, rfl⟩ := r2
          simp [tt0]
        | some t =>
          rw [hmk] at r2
          obtain ⟨rfl, b1, b2⟩ := r2
          simp only
          by_cases e0 : c.2.1 = 0
          · have e2 : ¬ c.2.1 = 2 := by omega
            simp [e0]
          · have e0' : (c.2.1 != 0) = true := by simpa using e0
            rw [if_pos e0', if_neg e0, ef, bnd_some, len0]
            have htm2 : 0 ≤ now ∧ now ≤ 1099511627776 := by
              unfold timeS inC at htm
              simpa using htm
            by_cases hn : flatS (hitS c.2.2.2) c.2.2.2.2.2.2.2.2 0 = [] ∨ c.2.2.2.2.2.2.2.2 < 1 ∨ 604800 < c.2.2.2.2.2.2.2.2
            · rw [layS_none hn]
              by_cases c1 : flatS (hitS c.2.2.2) c.2.2.2.2.2.2.2.2 0 = []
              · simp [c1, bnd_some, tt0]
              · by_cases c2 : c.2.2.2.2.2.2.2.2 < 1
                · simp [c1, c2, bnd_some, tt0]
                · have c3 : 604800 < c.2.2.2.2.2.2.2.2 := by
                    rcases hn with h | h | h
                    · exact absurd h c1
                    · exact absurd h c2
                    · exact h
                  simp [c1, c2, c3, bnd_some, tt0]
            · rw [layS_some hn]
              simp only [not_or, Int.not_lt] at hn
              have n1 : ¬ c.2.2.2.2.2.2.2.2 < 1 := by omega
              have n2 : ¬ 604800 < c.2.2.2.2.2.2.2.2 := by omega
              have n0 : ¬ (flatS (hitS c.2.2.2) c.2.2.2.2.2.2.2.2 0).length = 0 := by simpa using hn.1
              have hg := make_loop2 (now := now) (q := q) (c := c) (code := if c.2.1 = 2 then 3 else 0) (text := t.1) (ps := t.2) (l := flatS (hitS c.2.2.2) c.2.2.2.2.2.2.2.2 0) hq (by omega) (flatS_len h3) (fun r hr => (flatS_mem h3 hr).1)
              simp only [n0, n1, n2, decide_false, Bool.false_eq_true, if_true, if_false, bnd_some, hg]
              rw [grdp (by unfold roomLim; simp; omega), wrap_id (x := now + c.2.2.2.2.2.2.2.2) (by omega) (by omega)]
  · have hcode' : (bnd (α := Bool) (if (c.snd.fst == 0) = true then some (c.snd.fst == 0) else some (c.snd.fst == 1)) fun s16_4 => if s16_4 = true then some (Sum.inl (β := Bool) (0 : Int)) else if (c.snd.fst == 2) = true then some (.inl 3) else some (.inr false)) = some (.inr false) := by
      simp only [not_or] at he
      simp [he.1, he.2.1, he.2.2, bnd_some]
    rw [hcode', bnd_some, if_neg (by rintro ⟨h, _⟩; exact he h)]
    rfl
end Go.Abs

namespace Go.Abs
open Go
def covW : Int → List Sp → Int → Prop
  | a, [], b => a = b
  | a, s :: l, b => s.1 = a ∧ 0 ≤ s.1 ∧ s.1 ≤ 4000000 ∧ s.1 ≤ s.2.1 ∧ s.1 + 5 ≤ s.2.2 ∧ covW s.2.1 l b
def covP : Int → List Pc → Int → Prop
  | a, [], b => a = b
  | a, p :: l, b => ∃ m, covW a p.1 m ∧ covP m l b
theorem covP_app : ∀ {l : List Pc} {a b c : Int} {p : Pc}, covP a l b → covW b p.1 c → covP a (l ++ [p]) c
  | [], a, b, c, p, h, h2 => by
    have : a = b := h
    subst this
    exact ⟨c, h2, rfl⟩
  | x :: l, a, b, c, p, ⟨m, h1, h2⟩, h3 => ⟨m, h1, covP_app h2 h3⟩
theorem recE_pos {base : List UInt8} {r : RRt} (hb : nameS base = true) (hr : recC r = true) : recE base 12 r ≠ [] := fun h => by
  rcases recE_nil.1 h with h | h
  · rw [hr] at h; cases h
  · rw [hb] at h; cases h
theorem ttlS_pos {base : List UInt8} {r : RRt} (hb : nameS base = true) (hr : recC r = true) : 5 ≤ ttlS base 12 r := by
  unfold ttlS
  rw [if_neg (recE_pos hb hr)]
  have := List.length_pos_iff.2 (writeS_ne hb (recC_iff hr).1)
  omega
theorem spansW_cov {base : List UInt8} (hb : nameS base = true) : ∀ (l : List RRt) (a : Nat), (∀ r ∈ l, goodR r) → a + 2267 * l.length ≤ 4000000 → covW (a : Int) (spansW base a l) ((a + (encs base l).length : Nat) : Int)
  | [], a, _, _ => by simp [spansW, covW, encs]
  | r :: l, a, h, hl => by
    have hr := h r (by simp)
    have h1 := ttlS_pos hb hr.2.2
    have h2 := recE_len (base := base) (r := r)
    have h3 := hr.2.1
    rw [List.length_cons] at hl
    have ih := spansW_cov hb l (a + (recE base 12 r).length) (fun r hr => h r (by simp [hr])) (by omega)
    rw [spansW, encs_cons, List.length_append]
    refine ⟨rfl, by simp only; omega, by simp only; omega, by simp only; omega, by simp only; omega, ?_⟩
    rw [← Nat.add_assoc]
    exact ih
theorem okA_name {q : Qq} (h : okA q = true) : nameS q.1 = true := by
  unfold okA at h
  simp only [Bool.and_eq_true] at h
  exact h.1.1.1
theorem layS_cov {base : List UInt8} {now : Int} {h : Hi} {soa : Bool} {t t' : TP} (hb : nameS base = true) (hs : smallS (hitS h) = true) (ht : t.1.length ≤ 3000000) (hc : covP 0 t.2 (t.1.length : Int)) (hl : layS base now h soa t = some t') :
    covP 0 t'.2 (t'.1.length : Int) ∧ ∃ sp u, t'.2 = t.2 ++ [(sp, u, soa)] ∧ sp.length ≤ 60 := by
  unfold layS at hl
  split at hl
  · simp at hl
  · simp only [Option.some.injEq] at hl
    subst hl
    have hlen := flatS_len (ttl := h.2.2.2.2.2) (turn := 0) hs
    have := spansW_cov hb (flatS (hitS h) h.2.2.2.2.2 0) t.1.length (fun r hr => (flatS_mem hs hr).1) (by omega)
    refine ⟨?_, _, _, rfl, by rw [spansW_len]; exact hlen⟩
    show covP 0 (t.2 ++ [_]) ((t.1 ++ encs base (flatS (hitS h) h.2.2.2.2.2 0)).length : Int)
    rw [List.length_append]
    exact covP_app hc this
structure Made (t : TP) (n : Nat) : Prop where
  cov : covP 0 t.2 (t.1.length : Int)
  len : t.1.length ≤ 136020 * n
  num : t.2.length = n
  few : ∀ p ∈ t.2, p.1.length ≤ 60
theorem layS_made {base : List UInt8} {now : Int} {h : Hi} {soa : Bool} {t t' : TP} {n : Nat} (hn : n ≤ 20) (hb : nameS base = true) (hs : smallS (hitS h) = true) (hm : Made t n) (hl : layS base now h soa t = some t') :
    Made t' (n + 1) ∧ ∃ sp u, t'.2 = t.2 ++ [(sp, u, soa)] := by
  obtain ⟨l1, l2⟩ := layS_len hs hl
  have := hm.len
  obtain ⟨c1, sp, u, c2, c3⟩ := layS_cov hb hs (by omega) hm.cov hl
  refine ⟨⟨c1, by omega, by rw [l2, hm.num], fun p hp => ?_⟩, sp, u, c2⟩
  rw [c2] at hp
  rcases List.mem_append.1 hp with hp | hp
  · exact hm.few p hp
  · simp only [List.mem_singleton] at hp; subst hp; exact c3
theorem makeL_made {base : List UInt8} {now : Int} (hb : nameS base = true) : ∀ (l : List Hi) (n : Nat) (t t' : TP), n + l.length ≤ 20 → (∀ h ∈ l, smallS (hitS h) = true) → Made t n → (∀ p ∈ t.2, p.2.2 = false) → makeL base now l t = some t' →
    Made t' (n + l.length) ∧ (∀ p ∈ t'.2, p.2.2 = false)
  | [], n, t, t', _, _, hm, hf, h => by
    simp only [makeL, Option.some.injEq] at h
    subst h
    exact ⟨hm, hf⟩
  | x :: l, n, t, t', hn, hs, hm, hf, h => by
    simp only [makeL] at h
    rw [List.length_cons] at hn
    cases hl : layS base now x false t with
    | none => rw [hl] at h; simp at h
    | some t1 =>
      rw [hl] at h
      obtain ⟨m1, sp, u, e⟩ := layS_made (by omega) hb (hs x (by simp)) hm hl
      have := makeL_made hb l (n + 1) t1 t' (by omega) (fun h hh => hs h (by simp [hh])) m1 (fun p hp => by
        rw [e] at hp
        rcases List.mem_append.1 hp with hp | hp
        · exact hf p hp
        · simp only [List.mem_singleton] at hp; subst hp; rfl) h
      rw [List.length_cons, show n + (l.length + 1) = n + 1 + l.length by omega]
      exact this
theorem smallC_iff {c : Ch} (h : smallC c = true) : c.1.length ≤ 12 ∧ (∀ h ∈ c.1, smallS (hitS h) = true) ∧ smallS (hitS c.2.2.2) = true := by
  unfold smallC at h
  simp only [Bool.and_eq_true, List.all_eq_true, decide_eq_true_eq] at h
  exact ⟨h.1.2, h.1.1, h.2⟩
theorem makeS_made {now : Int} {q : Qq} {c : Ch} (hs : smallC c = true) : makeS now q c = (tt0, false) ∨
    ∃ (code : Int) (t t0 : TP), makeS now q c = ((q.1, q.2.1, q.2.2, code, t.1, t.2), true) ∧ timeS now = true ∧ okA q = true ∧ makeL q.1 now c.1 ([], []) = some t0 ∧ Made t0 c.1.length ∧ (∀ p ∈ t0.2, p.2.2 = false) ∧
      ((c.2.1 = 0 ∧ code = 0 ∧ t = t0) ∨ (c.2.1 ≠ 0 ∧ layS q.1 now c.2.2.2 true t0 = some t ∧ Made t (c.1.length + 1) ∧ ∃ sp u, t.2 = t0.2 ++ [(sp, u, true)])) := by
  obtain ⟨h1, h2, h3⟩ := smallC_iff hs
  unfold makeS
  split
  · rename_i hc
    obtain ⟨e, htm, hok⟩ := hc
    have hb := okA_name hok
    cases hmk : makeL q.1 now c.1 ([], []) with
    | none => exact .inl rfl
    | some t0 =>
      obtain ⟨m1, m2⟩ := makeL_made hb c.1 0 ([], []) t0 (by omega) h2 ⟨rfl, by simp, rfl, by simp⟩ (by simp) hmk
      rw [Nat.zero_add] at m1
      simp only
      by_cases e0 : c.2.1 = 0
      · rw [if_pos e0]
        exact .inr ⟨0, t0, t0, rfl, htm, hok, rfl, m1, m2, .inl ⟨e0, rfl, rfl⟩⟩
      · rw [if_neg e0]
        cases hl : layS q.1 now c.2.2.2 true t0 with
        | none => exact .inl rfl
        | some t =>
          obtain ⟨n1, sp, u, n2⟩ := layS_made (by omega) hb h3 m1 hl
          exact .inr ⟨_, t, t0, rfl, htm, hok, rfl, m1, m2, .inr ⟨e0, hl, n1, sp, u, n2⟩⟩
  · exact .inl rfl
end Go.Abs

namespace Go.Abs
open Go
@[reducible] def tHi : Ty := (.agg (.cons .str (.cons (.int .i64) (.cons (.int .i64) (.cons (.list .str) (.cons (.int .i64) (.int .i64)))))))
@[reducible] def tCh : Ty := (.agg (.cons (.list tHi) (.cons (.int .i64) (.cons .str (.cons .str (.cons (.int .i64) (.cons (.int .i64) (.cons (.list .str) (.cons (.int .i64) (.int .i64))))))))))
theorem okC_of {c : Ch} (w : wfd tCh c) : okC c := by
  have hl : maxLen = 9223372036854775807 := rfl
  have hm : maxI = 9223372036854775807 := rfl
  obtain ⟨⟨w1, w2⟩, _, _, _, _, _, ⟨w3, _⟩, _⟩ := w
  rw [hl] at w1 w3
  refine ⟨by omega, fun h hh => ?_, by omega⟩
  obtain ⟨_, _, _, ⟨w4, _⟩, _⟩ := w2 h hh
  rw [hl] at w4
  omega
end Go.Abs

namespace Go.Abs
open Go
structure Fit (t : TP) : Prop where
  ok : ∀ p ∈ t.2, pieceC t.1.length p = true
  till : ∀ p ∈ t.2, p.2.1 ≤ 4000000000000
end Go.Abs

namespace Go.Abs
open Go
end Go.Abs

namespace Go.Abs
open Go
theorem rmake_loop1 {now : Int} {q : Qq} {c : Ch} {code : Int} {x : Hi} {text : List UInt8} {ps : List Pc} {l : List RRt} (ht : text.length ≤ 3000000) (hl : l.length ≤ 60) (hg : ∀ r ∈ l, goodR r) :
    loopS (step_ref18_Make_1 now q c code text x l) (0, (ps, (text, (ps, [])))) = some (ps, (text ++ encs q.1 l, (ps, spansW q.1 text.length l))) := by
  have hm : maxI = 9223372036854775807 := rfl
  have := loop_run (step := step_ref18_Make_1 now q c code text x l) (t := (ps, (text ++ encs q.1 l, (ps, spansW q.1 text.length l)))) (s := fun i => ((i : Int), (ps, (text ++ encs q.1 (l.take i), (ps, spansW q.1 text.length (l.take i)))))) l.length (fun i hi => by
    obtain ⟨r, hr⟩ : ∃ r, l[i]? = some r := ⟨l[i], by simp [hi]⟩
    have hgr := hg r (List.mem_of_getElem? hr)
    have he : (encs q.1 (l.take i)).length ≤ 2267 * 60 := by
      have h1 := encs_len (base := q.1) (l := l.take i) (fun r hr => hg r (List.mem_of_mem_take hr))
      have h2 : (l.take i).length ≤ 60 := by rw [List.length_take]; omega
      have := Nat.mul_le_mul_left 2267 h2
      omega
    have hrl := recE_len (base := q.1) (r := r)
    have hb := ttlS_bound q.1 r
    have h1 := hgr.1
    have h2 := hgr.2.1
    have e1 : F_ref06_Encode q.fst 12 (r.fst, r.snd.fst, r.snd.snd.fst, r.snd.snd.snd.fst, r.snd.snd.snd.snd) = some (recE q.1 12 r) := ref06_Encode_eq _ r 12
    have e2 : F_ref06_TTL q.fst 12 (r.fst, r.snd.fst, r.snd.snd.fst, r.snd.snd.snd.fst, r.snd.snd.snd.snd) = some (ttlS q.1 12 r) := ref06_TTL_eq _ r 12
    simp only [step_ref18_Make_1, grdEq_self]
    rw [if_pos (by simp; omega), natOf_nat, hr, bnd_some, e1, bnd_some, natOf_nat, hr, bnd_some, e2, bnd_some, grdp (by unfold roomLim; rw [spansW_len, List.length_take]; simp; omega), grdp (by unfold maxStr; rw [List.length_append]; omega), wrap_id (x := (i : Int) + 1) (by omega) (by omega), wrap_id (by rw [List.length_append]; omega) (by rw [List.length_append]; omega), wrap_id (by rw [List.length_append]; omega) (by rw [List.length_append]; omega), take_next hr, spansW_app, encs_app]
    simp [encs, Nat.add_assoc, Int.add_assoc]) (by
    simp only [step_ref18_Make_1, grdEq_self]
    rw [if_neg (by simp), List.take_length])
  simpa [spansW, encs] using this
theorem rmake_loop2 {now : Int} {q : Qq} {c : Ch} {code : Int} {text : List UInt8} {ps : List Pc} {l : List RRt} (ht : text.length ≤ 3000000) (hl : l.length ≤ 60) (hg : ∀ r ∈ l, goodR r) :
    loopS (step_ref18_Make_2 now q c code text l) (0, (ps, (text, (ps, [])))) = some (ps, (text ++ encs q.1 l, (ps, spansW q.1 text.length l))) := by
  have hm : maxI = 9223372036854775807 := rfl
  have := loop_run (step := step_ref18_Make_2 now q c code text l) (t := (ps, (text ++ encs q.1 l, (ps, spansW q.1 text.length l)))) (s := fun i => ((i : Int), (ps, (text ++ encs q.1 (l.take i), (ps, spansW q.1 text.length (l.take i)))))) l.length (fun i hi => by
    obtain ⟨r, hr⟩ : ∃ r, l[i]? = some r := ⟨l[i], by simp [hi]⟩
    have hgr := hg r (List.mem_of_getElem? hr)
    have he : (encs q.1 (l.take i)).length ≤ 2267 * 60 := by
      have h1 := encs_len (base := q.1) (l := l.take i) (fun r hr => hg r (List.mem_of_mem_take hr))
      have h2 : (l.take i).length ≤ 60 := by rw [List.length_take]; omega
      have := Nat.mul_le_mul_left 2267 h2
      omega
    have hrl := recE_len (base := q.1) (r := r)
    have hb := ttlS_bound q.1 r
    have h1 := hgr.1
    have h2 := hgr.2.1
    have e1 : F_ref06_Encode q.fst 12 (r.fst, r.snd.fst, r.snd.snd.fst, r.snd.snd.snd.fst, r.snd.snd.snd.snd) = some (recE q.1 12 r) := ref06_Encode_eq _ r 12
    have e2 : F_ref06_TTL q.fst 12 (r.fst, r.snd.fst, r.snd.snd.fst, r.snd.snd.snd.fst, r.snd.snd.snd.snd) = some (ttlS q.1 12 r) := ref06_TTL_eq _ r 12
    simp only [step_ref18_Make_2, grdEq_self]
    rw [if_pos (by simp; omega), natOf_nat, hr, bnd_some, e1, bnd_some, natOf_nat, hr, bnd_some, e2, bnd_some, grdp (by unfold roomLim; rw [spansW_len, List.length_take]; simp; omega), grdp (by unfold maxStr; rw [List.length_append]; omega), wrap_id (x := (i : Int) + 1) (by omega) (by omega), wrap_id (by rw [List.length_append]; omega) (by rw [List.length_append]; omega), wrap_id (by rw [List.length_append]; omega) (by rw [List.length_append]; omega), take_next hr, spansW_app, encs_app]
    simp [encs, Nat.add_assoc, Int.add_assoc]) (by
    simp only [step_ref18_Make_2, grdEq_self]
    rw [if_neg (by simp), List.take_length])
  simpa [spansW, encs] using this
theorem rmake_loop0 {now : Int} {q : Qq} {c : Ch} {code : Int} (htm : timeS now = true) (hc : c.1.length ≤ 12) (hs : ∀ h ∈ c.1, smallS (hitS h) = true) : ∀ (v u : List Hi) (t : TP), c.1 = u ++ v → t.1.length ≤ 136020 * u.length → t.2.length ≤ u.length →
    ∃ r, loopS (step_ref18_Make_0 now q c code) ((u.length : Int), (t.1, t.2)) = some r ∧ (match makeL q.1 now v t with | some t' => r = .inr (t'.1, t'.2) ∧ t'.1.length ≤ 136020 * c.1.length ∧ t'.2.length ≤ c.1.length | none => ∃ a b, r = .inl (false, (a, b))) := by
  have hm : maxI = 9223372036854775807 := rfl
  have htm2 : 0 ≤ now ∧ now ≤ 1099511627776 := by
    unfold timeS inC at htm
    simpa using htm
  intro v
  induction v with
  | nil =>
    intro u t hu h1 h2
    rw [List.append_nil] at hu
    refine ⟨.inr (t.1, t.2), loopS_out ?_, ⟨rfl, by rw [hu]; exact h1, by rw [hu]; exact h2⟩⟩
    simp only [step_ref18_Make_0, grdEq_self]
    rw [if_neg (by rw [hu]; simp)]
  | cons x v ih =>
    intro u t hu h1 h2
    have hx : c.1[u.length]? = some x := by rw [hu]; simp
    have hmem : x ∈ c.1 := List.mem_of_getElem? hx
    have hsx := hs x hmem
    obtain ⟨s1, s2, s3⟩ := smallS_iff hsx
    have hi := (List.getElem?_eq_some_iff.1 hx).1
    have ef : F_ref10_Flat (x.fst, x.snd.fst, x.snd.snd.fst, x.snd.snd.snd.fst, x.snd.snd.snd.snd.fst) x.snd.snd.snd.snd.snd 0 = some (flatS (hitS x) x.2.2.2.2.2 0) := ref10_Flat_eq (s := hitS x) ⟨by have : (hitS x).1.length ≤ 300 := s3; omega, by omega⟩ _ _
    have hcl : decide ((u.length : Int) < (c.1.length : Int)) = true := by simp; omega
    by_cases hn : flatS (hitS x) x.2.2.2.2.2 0 = [] ∨ x.2.2.2.2.2 < 1 ∨ 604800 < x.2.2.2.2.2
    · refine ⟨.inl (false, (t.1, t.2)), loopS_out ?_, by simp only [makeL, layS_none hn]; exact ⟨_, _, rfl⟩⟩
      simp only [step_ref18_Make_0, grdEq_self, hcl, if_true, natOf_nat, hx, bnd_some, ef, len0]
      by_cases c1 : flatS (hitS x) x.2.2.2.2.2 0 = []
      · simp [c1, bnd_some]
      · by_cases c2 : x.2.2.2.2.2 < 1
        · simp [c1, c2, bnd_some]
        · have c3 : 604800 < x.2.2.2.2.2 := by
            rcases hn with h | h | h
            · exact absurd h c1
            · exact absurd h c2
            · exact h
          simp [c1, c2, c3, bnd_some]
    · have hlay := layS_some (base := q.1) (now := now) (soa := false) (t := t) hn
      obtain ⟨l1, l2⟩ := layS_len hsx hlay
      have hul : (u ++ [x]).length = u.length + 1 := by simp
      obtain ⟨r, r1, r2⟩ := ih (u ++ [x]) _ (by rw [hu]; simp) (by rw [hul]; exact Nat.le_trans l1 (by omega)) (by rw [hul]; exact Nat.le_trans (Nat.le_of_eq l2) (by omega))
      refine ⟨r, ?_, by simp only [makeL, hlay]; exact r2⟩
      rw [loopS_next (y := (((u ++ [x]).length : Int), (t.1 ++ encs q.1 (flatS (hitS x) x.2.2.2.2.2 0), t.2 ++ [(spansW q.1 t.1.length (flatS (hitS x) x.2.2.2.2.2 0), now + x.2.2.2.2.2, false)])))]
      · exact r1
      · have hg := rmake_loop1 (now := now) (q := q) (c := c) (code := code) (x := x) (text := t.1) (ps := t.2) (l := flatS (hitS x) x.2.2.2.2.2 0) (by omega) (flatS_len hsx) (fun r hr => (flatS_mem hsx hr).1)
        simp only [not_or, Int.not_lt] at hn
        simp only [step_ref18_Make_0, grdEq_self, hcl, if_true, natOf_nat, hx, bnd_some, ef, len0]
        have n1 : ¬ x.2.2.2.2.2 < 1 := by omega
        have n2 : ¬ 604800 < x.2.2.2.2.2 := by omega
        have n0 : ¬ (flatS (hitS x) x.2.2.2.2.2 0).length = 0 := by simpa using hn.1
        simp only [n0, n1, n2, decide_false, Bool.false_eq_true, if_true, if_false, bnd_some, hg]
        rw [grdp (by unfold roomLim; simp; omega), wrap_id (x := now + x.2.2.2.2.2) (by omega) (by omega), wrap_id (x := (u.length : Int) + 1) (by omega) (by omega)]
        simp
theorem ref18_Make_eq {now : Int} {q : Qq} {c : Ch} (hq : (q.1.length : Int) ≤ maxI) (hc : smallC c = true) : F_ref18_Make now q c = some (makeS now q c) := by
  have hm : maxI = 9223372036854775807 := rfl
  unfold smallC at hc
  simp only [Bool.and_eq_true, List.all_eq_true, decide_eq_true_eq] at hc
  obtain ⟨⟨h1, h2⟩, h3⟩ := hc
  unfold F_ref18_Make makeS
  have ea : F_ref10_Asked (q.fst, q.snd.fst, q.snd.snd) = some (okA q) := ref10_Asked_eq hq
  obtain ⟨z1, z2, z3⟩ := smallS_iff h3
  have ef : F_ref10_Flat (c.snd.snd.snd.fst, c.snd.snd.snd.snd.fst, c.snd.snd.snd.snd.snd.fst, c.snd.snd.snd.snd.snd.snd.fst, c.snd.snd.snd.snd.snd.snd.snd.fst) c.snd.snd.snd.snd.snd.snd.snd.snd 0 = some (flatS (hitS c.2.2.2) c.2.2.2.2.2.2.2.2 0) := ref10_Flat_eq (s := hitS c.2.2.2) ⟨by have : (hitS c.2.2.2).1.length ≤ 300 := z3; omega, by omega⟩ _ _
  simp only [grdEq_self, ref12_Time_eq, ea, bnd_some]
  cases htm : timeS now with
  | false => simp [bnd_some, tt0]
  | true =>
    cases hok : okA q with
    | false => simp [bnd_some, tt0]
    | true =>
      by_cases he : c.2.1 = 0 ∨ c.2.1 = 1 ∨ c.2.1 = 2
      · have g0 : decide (c.2.1 < 0) = false := decide_eq_false (by omega)
        have g2 : decide (2 < c.2.1) = false := decide_eq_false (by omega)
        simp only [Bool.not_true, Bool.false_eq_true, if_true, if_false, bnd_some, he, and_self, g0, g2]
        have hcode : (if (c.snd.fst == 2) = true then some (3 : Int) else some 0) = some (if c.2.1 = 2 then 3 else 0) := by
          by_cases h : c.2.1 = 2 <;> simp [h]
        rw [hcode, bnd_some]
        obtain ⟨r, r1, r2⟩ := rmake_loop0 (q := q) (code := if c.2.1 = 2 then 3 else 0) htm h2 h1 c.1 [] ([], []) rfl (by simp) (by simp)
        simp only [List.length_nil, Int.natCast_zero] at r1
        rw [r1, bnd_some]
        cases hmk : makeL q.1 now c.1 ([], []) with
        | none =>
          rw [hmk] at r2
          obtain ⟨a, b, rfl⟩ := r2
          simp [tt0]
        | some t =>
          rw [hmk] at r2
          obtain ⟨rfl, b1, b2⟩ := r2
          simp only
          by_cases e0 : c.2.1 = 0
          · have e2 : ¬ c.2.1 = 2 := by omega
            simp [e0]
          · have e0' : (c.2.1 == 0) = false := by simpa using e0
            rw [if_neg (by simp [e0']), if_neg e0, ef, bnd_some, len0]
            have htm2 : 0 ≤ now ∧ now ≤ 1099511627776 := by
              unfold timeS inC at htm
              simpa using htm
            by_cases hn : flatS (hitS c.2.2.2) c.2.2.2.2.2.2.2.2 0 = [] ∨ c.2.2.2.2.2.2.2.2 < 1 ∨ 604800 < c.2.2.2.2.2.2.2.2
            · rw [layS_none hn]
              by_cases c1 : flatS (hitS c.2.2.2) c.2.2.2.2.2.2.2.2 0 = []
              · simp [c1, bnd_some, tt0]
              · by_cases c2 : c.2.2.2.2.2.2.2.2 < 1
                · simp [c1, c2, bnd_some, tt0]
                · have c3 : 604800 < c.2.2.2.2.2.2.2.2 := by
                    rcases hn with h | h | h
                    · exact absurd h c1
                    · exact absurd h c2
                    · exact h
                  simp [c1, c2, c3, bnd_some, tt0]
            · rw [layS_some hn]
              simp only [not_or, Int.not_lt] at hn
              have n1 : ¬ c.2.2.2.2.2.2.2.2 < 1 := by omega
              have n2 : ¬ 604800 < c.2.2.2.2.2.2.2.2 := by omega
              have n0 : ¬ (flatS (hitS c.2.2.2) c.2.2.2.2.2.2.2.2 0).length = 0 := by simpa using hn.1
              have hg := rmake_loop2 (now := now) (q := q) (c := c) (code := if c.2.1 = 2 then 3 else 0) (text := t.1) (ps := t.2) (l := flatS (hitS c.2.2.2) c.2.2.2.2.2.2.2.2 0) (by omega) (flatS_len h3) (fun r hr => (flatS_mem h3 hr).1)
              simp only [n0, n1, n2, decide_false, Bool.false_eq_true, if_true, if_false, bnd_some, hg]
              rw [grdp (by unfold roomLim; simp; omega), wrap_id (x := now + c.2.2.2.2.2.2.2.2) (by omega) (by omega)]
      · by_cases g0 : c.2.1 < 0
        · simp only [Bool.not_true, if_true, decide_eq_true g0, Bool.true_eq_false, if_false, bnd_some, he, false_and, tt0]
        · have g2 : decide (2 < c.2.1) = true := decide_eq_true (by omega)
          simp only [Bool.not_true, if_true, decide_eq_false g0, g2, bnd_some, he, false_and, if_false, tt0]
theorem told_loop {t : Tt} {i : Nat} {p x5 x7 : Pc} {ps : List Pc} (hp : t.2.2.2.2.2[i]? = some p) (hl : p.1.length ≤ 60) : loopS (step_law18_Told_1 t (i : Int) x5 x7) (0, (ps, [])) = some (ps, p.1) := by
  have := loop_run (step := step_law18_Told_1 t (i : Int) x5 x7) (t := (ps, p.1)) (s := fun k => ((k : Int), (ps, p.1.take k))) p.1.length (fun k hk => by
    obtain ⟨x, hx⟩ : ∃ x, p.1[k]? = some x := ⟨p.1[k], by simp [hk]⟩
    simp only [step_law18_Told_1, grdEq_self, natOf_nat, hp, bnd_some, hx]
    rw [if_pos (by simp; omega), grdp (by unfold roomLim; simp; omega), wrap_id (by omega) (by omega), take_next hx]
    rfl) (by
    simp only [step_law18_Told_1, grdEq_self, natOf_nat, hp, bnd_some]
    rw [if_neg (by simp)]
    simp)
  simpa using this
theorem told18_eq {t : Tt} (hn : t.2.2.2.2.2.length ≤ 20) (hl : ∀ p ∈ t.2.2.2.2.2, p.1.length ≤ 60) : F_law18_Told t = some t := by
  unfold F_law18_Told
  have := loop_run (step := step_law18_Told_0 t) (t := t.2.2.2.2.2) (s := fun i => ((i : Int), t.2.2.2.2.2.take i)) t.2.2.2.2.2.length (fun i hi => by
    obtain ⟨x, hx⟩ : ∃ x, t.2.2.2.2.2[i]? = some x := ⟨t.2.2.2.2.2[i], by simp [hi]⟩
    simp only [step_law18_Told_0, grdEq_self, natOf_nat, hx, bnd_some]
    rw [if_pos (by simp; omega), told_loop hx (hl x (List.mem_of_getElem? hx)), bnd_some]
    simp only
    rw [grdp (by unfold roomLim; simp; omega), wrap_id (by omega) (by omega), take_next hx]
    rfl) (by
    simp only [step_law18_Told_0, grdEq_self]
    rw [if_neg (by simp)]
    simp)
  simp only [List.take_zero, Int.natCast_zero] at this
  rw [this, bnd_some]
theorem same_loop1 {t : Tt} {i : Int} {p : Pc} (hl : p.1.length ≤ 60) : loopS (step_ref18_Same_1 t t i p p) 0 = some (.inr ()) := by
  have := loop_run (step := step_ref18_Same_1 t t i p p) (t := .inr ()) (s := fun k => (k : Int)) p.1.length (fun k hk => by
    obtain ⟨x, hx⟩ : ∃ x, p.1[k]? = some x := ⟨p.1[k], by simp [hk]⟩
    simp only [step_ref18_Same_1, grdEq_self, natOf_nat, bnd_some, hx]
    rw [if_pos (by simp; omega), wrap_id (by omega) (by omega)]
    simp) (by
    simp only [step_ref18_Same_1, grdEq_self]
    rw [if_neg (by simp)])
  simpa using this
theorem ref18_Same_self {t : Tt} (hn : t.2.2.2.2.2.length ≤ 20) (hl : ∀ p ∈ t.2.2.2.2.2, p.1.length ≤ 60) : F_ref18_Same t t = some true := by
  unfold F_ref18_Same
  have := loop_run (step := step_ref18_Same_0 t t) (t := .inl ()) (s := fun k => (k : Int)) t.2.2.2.2.2.length (fun k hk => by
    obtain ⟨x, hx⟩ : ∃ x, t.2.2.2.2.2[k]? = some x := ⟨t.2.2.2.2.2[k], by simp [hk]⟩
    simp only [step_ref18_Same_0, grdEq_self, natOf_nat, bnd_some, hx, bne_self_eq_false, beq_self_eq_true, Bool.not_true, if_true, Bool.false_eq_true, if_false, same_loop1 (hl x (List.mem_of_getElem? hx))]
    rw [if_pos (by simp; omega), wrap_id (by omega) (by omega)]
    simp) (by
    simp only [step_ref18_Same_0, grdEq_self]
    rw [if_neg (by simp)])
  simp only [Int.natCast_zero] at this
  simp only [grdEq_self, bne_self_eq_false, beq_self_eq_true, Bool.and_self, Bool.not_true, if_true, Bool.false_eq_true, if_false, bnd_some, this]
theorem law_TmplMakes (now : Int) (q : Qq) (c : Ch) (hc : okC c) : F_law18_TmplMakes now q c = some true := by
  have hm : maxI = 9223372036854775807 := rfl
  unfold F_law18_TmplMakes
  have e1 : F_ref17_Small (c.fst, c.snd.fst, c.snd.snd.fst, c.snd.snd.snd.fst, c.snd.snd.snd.snd.fst, c.snd.snd.snd.snd.snd.fst, c.snd.snd.snd.snd.snd.snd.fst, c.snd.snd.snd.snd.snd.snd.snd.fst, c.snd.snd.snd.snd.snd.snd.snd.snd) = some (smallC c) := ref17_Small_eq hc
  rw [e1, live18]
  simp only [grdEq_self, bnd_some]
  cases hs : smallC c with
  | false => simp [bnd_some]
  | true =>
    by_cases hq : 300 < (q.1.length : Int)
    · simp [hq, bnd_some]
    · obtain ⟨k1, k2, k3⟩ := smallC_iff hs
      have e2 : F_law17_Chain (c.fst, c.snd.fst, c.snd.snd.fst, c.snd.snd.snd.fst, c.snd.snd.snd.snd.fst, c.snd.snd.snd.snd.snd.fst, c.snd.snd.snd.snd.snd.snd.fst, c.snd.snd.snd.snd.snd.snd.snd.fst, c.snd.snd.snd.snd.snd.snd.snd.snd) = some c := chain_eq k1
      have e3 : F_tmpl_Make now (q.fst, q.snd.fst, q.snd.snd) (c.fst, c.snd.fst, c.snd.snd.fst, c.snd.snd.snd.fst, c.snd.snd.snd.snd.fst, c.snd.snd.snd.snd.snd.fst, c.snd.snd.snd.snd.snd.snd.fst, c.snd.snd.snd.snd.snd.snd.snd.fst, c.snd.snd.snd.snd.snd.snd.snd.snd) = some (makeS now q c) := tmpl_Make_eq (q := q) (by omega) hs
      have e4 : F_ref18_Make now (q.fst, q.snd.fst, q.snd.snd) (c.fst, c.snd.fst, c.snd.snd.fst, c.snd.snd.snd.fst, c.snd.snd.snd.snd.fst, c.snd.snd.snd.snd.snd.fst, c.snd.snd.snd.snd.snd.snd.fst, c.snd.snd.snd.snd.snd.snd.snd.fst, c.snd.snd.snd.snd.snd.snd.snd.snd) = some (makeS now q c) := ref18_Make_eq (q := q) (by omega) hs
      have hb : (makeS now q c).1.2.2.2.2.2.length ≤ 20 ∧ ∀ p ∈ (makeS now q c).1.2.2.2.2.2, p.1.length ≤ 60 := by
        rcases makeS_made (now := now) (q := q) hs with h | ⟨code, t, t0, h, htm, hok, hmk, hmd, hfl, hend⟩
        · rw [h]; simp [tt0]
        · rw [h]
          rcases hend with ⟨_, _, rfl⟩ | ⟨_, _, n1, _⟩
          · exact ⟨by have := hmd.num; show t.2.length ≤ 20; omega, hmd.few⟩
          · exact ⟨by have := n1.num; show t.2.length ≤ 20; omega, n1.few⟩
      simp only [Bool.not_true, Bool.false_eq_true, hq, decide_false, if_true, if_false, bnd_some, e2, e3, e4]
      generalize makeS now q c = T at hb
      obtain ⟨t, is⟩ := T
      have e5 : F_law18_Told (t.fst, t.snd.fst, t.snd.snd.fst, t.snd.snd.snd.fst, t.snd.snd.snd.snd.fst, t.snd.snd.snd.snd.snd) = some t := told18_eq hb.1 hb.2
      have e6 : F_ref18_Same (t.fst, t.snd.fst, t.snd.snd.fst, t.snd.snd.snd.fst, t.snd.snd.snd.snd.fst, t.snd.snd.snd.snd.snd) (t.fst, t.snd.fst, t.snd.snd.fst, t.snd.snd.snd.fst, t.snd.snd.snd.snd.fst, t.snd.snd.snd.snd.snd) = some true := ref18_Same_self (t := t) hb.1 hb.2
      simp only [e5, e6, bnd_some, grdEq_self, beq_self_eq_true, if_true]
end Go.Abs
