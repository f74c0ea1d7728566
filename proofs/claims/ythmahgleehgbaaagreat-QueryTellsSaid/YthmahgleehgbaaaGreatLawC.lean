/- Part of a proof: a machine of plain data, and what the functions come to on it. -/
import Derived.Test.YthmahgleehgbaaaGreatLawB
import Derived.Test.YthmahgleehgbaaaGreatSxB
set_option linter.unusedSimpArgs false
set_option linter.unusedVariables false
set_option linter.unusedSectionVars false
namespace Go.Abs
open Go
theorem live20 : F_law20_live = some true := by kernel_rfl
end Go.Abs

namespace Go.Abs
open Go
/-- a loop that goes through its states one by one -/
theorem loop_run {σ τ : Type} {step : σ → Option (σ ⊕ τ)} {t : τ} {s : Nat → σ} : ∀ (m : Nat), (∀ i, i < m → step (s i) = some (.inl (s (i + 1)))) → step (s m) = some (.inr t) → loopS step (s 0) = some t := by
  intro m
  suffices h : ∀ k, k ≤ m → (∀ i, i < m → step (s i) = some (.inl (s (i + 1)))) → step (s m) = some (.inr t) → loopS step (s (m - k)) = some t by
    intro h1 h2
    have := h m (Nat.le_refl _) h1 h2
    rwa [Nat.sub_self] at this
  intro k
  induction k with
  | zero => intro _ _ h2; exact loopS_out h2
  | succ k ih =>
    intro hk h1 h2
    rw [loopS_next (h1 (m - (k + 1)) (by omega)), show m - (k + 1) + 1 = m - k by omega]
    exact ih (by omega) h1 h2
/-- the first that is told, or the end -/
def scanF {β τ : Type} (f : Nat → β → Option τ) (e : τ) : Nat → List β → τ
  | _, [] => e
  | i, x :: l => match f i x with
    | some t => t
    | none => scanF f e (i + 1) l
theorem loop_scan {β τ : Type} {l : List β} {step : Int → Option (Int ⊕ τ)} (f : Nat → β → Option τ) (e : τ)
    (hs : ∀ (i : Nat) x, l[i]? = some x → step (i : Int) = some (match f i x with | some t => .inr t | none => .inl ((i + 1 : Nat) : Int))) (he : step (l.length : Int) = some (.inr e)) : loopS step 0 = some (scanF f e 0 l) := by
  suffices h : ∀ (v u : List β), l = u ++ v → loopS step (u.length : Int) = some (scanF f e u.length v) from h l [] rfl
  intro v
  induction v with
  | nil =>
    intro u hu
    rw [List.append_nil] at hu
    subst hu
    exact loopS_out he
  | cons x v ih =>
    intro u hu
    have hx := hs u.length x (by rw [hu]; simp)
    unfold scanF
    cases hf : f u.length x with
    | some t => rw [hf] at hx; exact loopS_out hx
    | none =>
      rw [hf] at hx
      rw [loopS_next hx]
      have := ih (u ++ [x]) (by rw [hu]; simp)
      simpa using this
abbrev Ot := Int × Int × List UInt8 × List UInt8 × Int × Int × Int × Int
/-- what is asked -/
def qO (o : Ot) : Qt := (o.2.2.2.1, o.2.2.2.2.1, o.2.2.2.2.2.1)
def okO (o : Ot) : Bool := (decide (o.2.2.1.length = 4) || decide (o.2.2.1.length = 16)) && inC o.1 65535 && inC o.2.1 65535 && okQ (qO o)
theorem lenI (n k : Nat) : ((n : Int) == (k : Int)) = decide (n = k) := by
  rw [Bool.eq_iff_iff]; simp; omega
theorem query_in_eq (n : Int) : F_query_in n = some (inC n 65535) := by
  unfold F_query_in inC
  by_cases h : 0 ≤ n <;> simp [h]
theorem ref20_small_eq (n : Int) : F_ref20_small n = some (inC n 65535) := by
  unfold F_ref20_small inC
  by_cases h : 0 ≤ n <;> simp [h]
theorem query_Out_Check_eq {o : Ot} (hn : (o.2.2.2.1.length : Int) ≤ maxI) : F_query_Out_Check o = some (okO o) := by
  unfold F_query_Out_Check okO okQ qO
  simp only [query_in_eq, name_Check_eq hn, bnd_some, grdEq_self]
  rw [show ((o.snd.snd.fst.length : Int) == 4) = decide (o.snd.snd.fst.length = 4) from lenI _ 4, show ((o.snd.snd.fst.length : Int) == 16) = decide (o.snd.snd.fst.length = 16) from lenI _ 16]
  cases decide (o.snd.snd.fst.length = 4) <;> cases decide (o.snd.snd.fst.length = 16) <;> cases inC o.fst 65535 <;> cases inC o.snd.fst 65535 <;> cases nameS o.snd.snd.snd.fst <;> cases inC o.snd.snd.snd.snd.fst 65535 <;> rfl
theorem ref20_Check_eq (o : Ot) : F_ref20_Check o = some (okO o) := by
  unfold F_ref20_Check okO okQ qO
  simp only [ref20_small_eq, ref02_Check_eq, bnd_some, grdEq_self]
  rw [show ((o.snd.snd.fst.length : Int) == 4) = decide (o.snd.snd.fst.length = 4) from lenI _ 4, show ((o.snd.snd.fst.length : Int) == 16) = decide (o.snd.snd.fst.length = 16) from lenI _ 16]
  cases decide (o.snd.snd.fst.length = 4) <;> cases decide (o.snd.snd.fst.length = 16) <;> cases inC o.fst 65535 <;> cases inC o.snd.fst 65535 <;> cases nameS o.snd.snd.snd.fst <;> cases inC o.snd.snd.snd.snd.fst 65535 <;> rfl
/-- the record of what is asked with -/
def optR : RRt := ([0], 41, 1232, 0, [])
def askM (o : Ot) : Mt := (o.1, 0, [qO o], [], [], [optR])
def bytesO (o : Ot) : List UInt8 := if okO o then (encM (askM o)).1 else []
theorem opt_eq : F_edns_Opt_Record (true, 1232, 0, 0, false) = some (optR, true) := by kernel_rfl
theorem opt_eq' : F_ref09_Record (true, 1232, 0, 0, false) = some (optR, true) := by kernel_rfl
theorem okO_iff {o : Ot} (h : okO o = true) : (o.2.2.1.length = 4 ∨ o.2.2.1.length = 16) ∧ (0 ≤ o.1 ∧ o.1 ≤ 65535) ∧ (0 ≤ o.2.1 ∧ o.2.1 ≤ 65535) ∧ okQ (qO o) = true := by
  unfold okO inC at h
  simp only [Bool.and_eq_true, Bool.or_eq_true, decide_eq_true_eq] at h
  exact ⟨h.1.1.1, h.1.1.2, h.1.2, h.2⟩
theorem fine_one {a b : Int} {q : Qt} {l : List RRt} (hq : okQ q = true) (hl : l.length ≤ 1) (hr : ∀ r ∈ l, r.1.length ≤ 255) : fineM (a, b, [q], [], [], l) := by
  have hm : maxI = 9223372036854775807 := rfl
  have := (nameS_pos (okQ_iff hq).1).2
  refine ⟨⟨by simp; omega, by simp; omega, by simp; omega, by simp only; omega⟩, fun q' hq' => ?_, fun r hr => by simp at hr, fun r hr => by simp at hr, fun r hr' => ?_⟩
  · simp at hq'; subst hq'; omega
  · have := hr r hr'; omega
theorem query_Out_Bytes_eq {o : Ot} (hn : (o.2.2.2.1.length : Int) ≤ maxI) : F_query_Out_Bytes o = some (bytesO o) := by
  unfold F_query_Out_Bytes bytesO
  have e : F_query_Out_Check (o.fst, o.snd.fst, o.snd.snd.fst, o.snd.snd.snd.fst, o.snd.snd.snd.snd.fst, o.snd.snd.snd.snd.snd.fst, o.snd.snd.snd.snd.snd.snd.fst, o.snd.snd.snd.snd.snd.snd.snd) = some (okO o) := query_Out_Check_eq hn
  rw [e, bnd_some]
  cases h : okO o with
  | false => rfl
  | true =>
    have hf : fineM (askM o) := fine_one (okO_iff h).2.2.2 (by simp) (by simp [optR])
    simp only [Bool.not_true, Bool.false_eq_true, if_false, opt_eq, bnd_some, if_true]
    have e2 : F_msg_Encode (o.fst, 0, [(o.snd.snd.snd.fst, o.snd.snd.snd.snd.fst, o.snd.snd.snd.snd.snd.fst)], [], [], [(optR.fst, optR.snd.fst, optR.snd.snd.fst, optR.snd.snd.snd.fst, optR.snd.snd.snd.snd)]) = some (encM (askM o)) := msg_Encode_eq hf
    rw [e2, bnd_some]
theorem ref20_Bytes_eq (o : Ot) : F_ref20_Bytes o = some (bytesO o) := by
  unfold F_ref20_Bytes bytesO
  have e : F_ref20_Check (o.fst, o.snd.fst, o.snd.snd.fst, o.snd.snd.snd.fst, o.snd.snd.snd.snd.fst, o.snd.snd.snd.snd.snd.fst, o.snd.snd.snd.snd.snd.snd.fst, o.snd.snd.snd.snd.snd.snd.snd) = some (okO o) := ref20_Check_eq o
  rw [e, bnd_some]
  cases h : okO o with
  | false => rfl
  | true =>
    have hf : fineM (askM o) := fine_one (okO_iff h).2.2.2 (by simp) (by simp [optR])
    simp only [Bool.not_true, Bool.false_eq_true, if_false, opt_eq', bnd_some, if_true]
    have e2 : F_ref08_Encode (o.fst, 0, [(o.snd.snd.snd.fst, o.snd.snd.snd.snd.fst, o.snd.snd.snd.snd.snd.fst)], [], [], [(optR.fst, optR.snd.fst, optR.snd.snd.fst, optR.snd.snd.snd.fst, optR.snd.snd.snd.snd)]) = some (encM (askM o)) := ref08_Encode_eq hf.1
    rw [e2, bnd_some]
end Go.Abs

namespace Go.Abs
open Go
end Go.Abs

namespace Go.Abs
open Go
theorem take_step {α : Type} {l : List α} {i : Nat} {x : α} (h : l[i]? = some x) : l.take (i + 1) = l.take i ++ [x] := by
  rw [List.take_add_one, h]; rfl
def smallO (o : Ot) : Bool := decide (o.2.2.2.1.length ≤ 300) && decide (o.2.2.1.length ≤ 100)
def fewO (l : List Ot) : Bool := l.all smallO && decide (l.length ≤ 60)
theorem scan_all {β : Type} (p : β → Bool) : ∀ (l : List β) (i : Nat), scanF (fun _ x => if p x then none else some (Sum.inl (α := Bool) (β := Unit) false)) (.inr ()) i l = if l.all p then .inr () else .inl false
  | [], i => rfl
  | x :: l, i => by
    unfold scanF
    cases h : p x with
    | true => simp only [if_true, List.all_cons, h, Bool.true_and]; exact scan_all p l (i + 1)
    | false => simp [h]
theorem ref20_Few_eq {l : List Ot} (hl : (l.length : Int) ≤ maxI) : F_ref20_Few l = some (fewO l) := by
  have hm : maxI = 9223372036854775807 := rfl
  unfold F_ref20_Few
  rw [loop_scan (l := l) (step := step_ref20_Few_0 l) (fun _ o => if smallO o then none else some (.inl false)) (.inr ()) (fun i x hx => by
    have hil : i < l.length := (List.getElem?_eq_some_iff.1 hx).1
    have c0 : decide ((i : Int) < (l.length : Int)) = true := by simp; omega
    have hw : Go.IntKind.i64.wrap ((i : Int) + 1) = ((i + 1 : Nat) : Int) := by rw [wrap_id (by omega) (by omega)]; rfl
    simp only [step_ref20_Few_0, c0, if_true, natOf_nat, hx, bnd_some, grdEq_self, hw, smallO]
    by_cases h1 : x.snd.snd.snd.fst.length ≤ 300
    · have e1 : decide (300 < (x.snd.snd.snd.fst.length : Int)) = false := by simp; omega
      by_cases h2 : x.snd.snd.fst.length ≤ 100
      · have e2 : decide (100 < (x.snd.snd.fst.length : Int)) = false := by simp; omega
        simp [e1, e2, h1, h2]
      · have e2 : decide (100 < (x.snd.snd.fst.length : Int)) = true := by simp; omega
        simp [e1, e2, h1, h2]
    · have e1 : decide (300 < (x.snd.snd.snd.fst.length : Int)) = true := by simp; omega
      simp [e1, h1]) (by
    simp only [step_ref20_Few_0, grdEq_self]
    rw [if_neg (by simp)]), bnd_some, scan_all]
  unfold fewO
  cases h : l.all smallO with
  | true =>
    simp only [if_true, Bool.true_and]
    congr 1
    rw [Bool.eq_iff_iff]; simp; omega
  | false => rfl
theorem few20_of {l : List Ot} (h : fewO l = true) : l.length ≤ 60 ∧ (∀ o ∈ l, o.2.2.2.1.length ≤ 300 ∧ o.2.2.1.length ≤ 100) := by
  unfold fewO smallO at h
  simp only [Bool.and_eq_true, List.all_eq_true, decide_eq_true_eq] at h
  exact ⟨h.2, h.1⟩
theorem Own_eq {l : List Ot} (hl : l.length ≤ 1000) : F_law20_Own l = some l := by
  have hm : maxI = 9223372036854775807 := rfl
  unfold F_law20_Own
  have := loop_run (step := step_law20_Own_0 l) (t := l) (s := fun i => (l.take i, (i : Int))) l.length (fun i hi => by
    obtain ⟨x, hx⟩ : ∃ x, l[i]? = some x := ⟨l[i], by simp [hi]⟩
    have c0 : decide ((i : Int) < (l.length : Int)) = true := by simp; omega
    have hw : Go.IntKind.i64.wrap ((i : Int) + 1) = ((i + 1 : Nat) : Int) := by rw [wrap_id (by omega) (by omega)]; rfl
    simp only [step_law20_Own_0, c0, if_true, natOf_nat, hx, bnd_some, grdEq_self, hw]
    rw [grdp (by unfold roomLim; simp; omega), take_step hx]) (by
    simp only [step_law20_Own_0, grdEq_self]
    rw [if_neg (by simp)]
    simp)
  simp only [List.take_zero] at this
  rw [show ((0 : Int)) = ((0 : Nat) : Int) from rfl, this, bnd_some]
theorem Told_eq {l : List Ot} (hl : l.length ≤ 1000) : F_law20_Told l = some l := by
  have hm : maxI = 9223372036854775807 := rfl
  unfold F_law20_Told
  have := loop_run (step := step_law20_Told_0 l) (t := l) (s := fun i => (l.take i, (i : Int))) l.length (fun i hi => by
    obtain ⟨x, hx⟩ : ∃ x, l[i]? = some x := ⟨l[i], by simp [hi]⟩
    have c0 : decide ((i : Int) < (l.length : Int)) = true := by simp; omega
    have hw : Go.IntKind.i64.wrap ((i : Int) + 1) = ((i + 1 : Nat) : Int) := by rw [wrap_id (by omega) (by omega)]; rfl
    simp only [step_law20_Told_0, c0, if_true, natOf_nat, hx, bnd_some, grdEq_self, hw]
    rw [grdp (by unfold roomLim; simp; omega), take_step hx]) (by
    simp only [step_law20_Told_0, grdEq_self]
    rw [if_neg (by simp)]
    simp)
  simp only [List.take_zero] at this
  rw [show ((0 : Int)) = ((0 : Nat) : Int) from rfl, this, bnd_some]
/-- who is late -/
def lateF (now : Int) : Nat → List Ot → List Int
  | _, [] => []
  | i, x :: l => if x.2.2.2.2.2.2.1 ≤ now then (i : Int) :: lateF now (i + 1) l else lateF now (i + 1) l
theorem late_app (now : Int) (x : Ot) : ∀ (u : List Ot) (i : Nat), lateF now i (u ++ [x]) = lateF now i u ++ (if x.2.2.2.2.2.2.1 ≤ now then [((i + u.length : Nat) : Int)] else [])
  | [], i => by simp [lateF]
  | y :: u, i => by
    simp only [List.cons_append, lateF]
    rw [late_app now x u (i + 1)]
    have e : i + 1 + u.length = i + (y :: u).length := by simp; omega
    rw [e]
    split <;> simp
theorem late_len (now : Int) : ∀ (l : List Ot) (i : Nat), (lateF now i l).length ≤ l.length
  | [], i => by simp [lateF]
  | y :: u, i => by
    have := late_len now u (i + 1)
    unfold lateF
    split <;> simp <;> omega
theorem Late_eq {l : List Ot} {now : Int} (hl : l.length ≤ 1000) : F_query_Late l now = some (lateF now 0 l) := by
  have hm : maxI = 9223372036854775807 := rfl
  unfold F_query_Late
  have := loop_run (step := step_query_Late_0 l now) (t := lateF now 0 l) (s := fun i => (lateF now 0 (l.take i), (i : Int))) l.length (fun i hi => by
    obtain ⟨x, hx⟩ : ∃ x, l[i]? = some x := ⟨l[i], by simp [hi]⟩
    have c0 : decide ((i : Int) < (l.length : Int)) = true := by simp; omega
    have hw : Go.IntKind.i64.wrap ((i : Int) + 1) = ((i + 1 : Nat) : Int) := by rw [wrap_id (by omega) (by omega)]; rfl
    have hlen := late_len now (l.take i) 0
    have htk : (l.take i).length = i := by simp; omega
    simp only [step_query_Late_0, c0, if_true, natOf_nat, hx, bnd_some, grdEq_self, hw, take_step hx, late_app]
    rw [htk, Nat.zero_add]
    by_cases h : x.2.2.2.2.2.2.1 ≤ now
    · simp only [h, decide_true, if_true]
      rw [grdp (by unfold roomLim; simp; omega)]
    · simp only [h, decide_false, Bool.false_eq_true, if_false, List.append_nil]) (by
    simp only [step_query_Late_0, grdEq_self]
    rw [if_neg (by simp)]
    simp)
  simp only [List.take_zero, lateF] at this
  rw [show ((0 : Int)) = ((0 : Nat) : Int) from rfl, this, bnd_some]
theorem refLate_eq {l : List Ot} {now : Int} (hl : l.length ≤ 1000) : F_ref20_Late l now = some (lateF now 0 l) := by
  have hm : maxI = 9223372036854775807 := rfl
  unfold F_ref20_Late
  have := loop_run (step := step_ref20_Late_0 l now) (t := lateF now 0 l) (s := fun i => (lateF now 0 (l.take i), (i : Int))) l.length (fun i hi => by
    obtain ⟨x, hx⟩ : ∃ x, l[i]? = some x := ⟨l[i], by simp [hi]⟩
    have c0 : decide ((i : Int) < (l.length : Int)) = true := by simp; omega
    have hw : Go.IntKind.i64.wrap ((i : Int) + 1) = ((i + 1 : Nat) : Int) := by rw [wrap_id (by omega) (by omega)]; rfl
    have hlen := late_len now (l.take i) 0
    have htk : (l.take i).length = i := by simp; omega
    simp only [step_ref20_Late_0, c0, if_true, natOf_nat, hx, bnd_some, grdEq_self, hw, take_step hx, late_app]
    rw [htk, Nat.zero_add]
    by_cases h : x.2.2.2.2.2.2.1 ≤ now
    · simp only [h, decide_true, if_true]
      rw [grdp (by unfold roomLim; simp; omega)]
    · simp only [h, decide_false, Bool.false_eq_true, if_false, List.append_nil]) (by
    simp only [step_ref20_Late_0, grdEq_self]
    rw [if_neg (by simp)]
    simp)
  simp only [List.take_zero, lateF] at this
  rw [show ((0 : Int)) = ((0 : Nat) : Int) from rfl, this, bnd_some]
end Go.Abs

namespace Go.Abs
open Go
def notT (task : Int) (o : Ot) : Bool := !(o.2.2.2.2.2.2.2 == task)
theorem filt_step {p : Ot → Bool} {l : List Ot} {i : Nat} {x : Ot} (h : l[i]? = some x) : (l.take (i + 1)).filter p = (l.take i).filter p ++ (if p x then [x] else []) := by
  rw [take_step h, List.filter_append]
  cases hp : p x <;> simp [hp]
theorem refWithout_eq {l : List Ot} {task : Int} (hl : l.length ≤ 1000) : F_ref20_Without l task = some (l.filter (notT task)) := by
  have hm : maxI = 9223372036854775807 := rfl
  unfold F_ref20_Without
  have := loop_run (step := step_ref20_Without_0 l task) (t := l.filter (notT task)) (s := fun i => ((l.take i).filter (notT task), (i : Int))) l.length (fun i hi => by
    obtain ⟨x, hx⟩ : ∃ x, l[i]? = some x := ⟨l[i], by simp [hi]⟩
    have c0 : decide ((i : Int) < (l.length : Int)) = true := by simp; omega
    have hw : Go.IntKind.i64.wrap ((i : Int) + 1) = ((i + 1 : Nat) : Int) := by rw [wrap_id (by omega) (by omega)]; rfl
    have hlen : ((l.take i).filter (notT task)).length ≤ i := Nat.le_trans (List.length_filter_le _ _) (by simp; omega)
    simp only [step_ref20_Without_0, c0, if_true, natOf_nat, hx, bnd_some, grdEq_self, hw, filt_step hx]
    by_cases h : x.2.2.2.2.2.2.2 = task
    · have e1 : (x.2.2.2.2.2.2.2 != task) = false := by simpa using h
      have e2 : notT task x = false := by simp [notT, h]
      simp only [e1, e2, Bool.false_eq_true, if_false, List.append_nil]
    · have e1 : (x.2.2.2.2.2.2.2 != task) = true := by simpa using h
      have e2 : notT task x = true := by simpa [notT] using h
      simp only [e1, e2, if_true]
      rw [grdp (by unfold roomLim; simp; omega)]) (by
    simp only [step_ref20_Without_0, grdEq_self]
    rw [if_neg (by simp)]
    simp)
  simp only [List.take_zero, List.filter_nil] at this
  rw [show ((0 : Int)) = ((0 : Nat) : Int) from rfl, this, bnd_some]
/-- the first of a task -/
theorem first_of (task : Int) : ∀ (l : List Ot) (i : Nat), (∀ o ∈ l, notT task o = true) ∧ scanF (fun i o => if notT task o then none else some (Sum.inl (β := Unit) (i : Int))) (.inr ()) i l = .inr () ∨
    ∃ u x v, l = u ++ x :: v ∧ (∀ o ∈ u, notT task o = true) ∧ notT task x = false ∧ scanF (fun i o => if notT task o then none else some (Sum.inl (β := Unit) (i : Int))) (.inr ()) i l = .inl ((i + u.length : Nat) : Int)
  | [], i => .inl ⟨by simp, rfl⟩
  | x :: l, i => by
    cases h : notT task x with
    | false => exact .inr ⟨[], x, l, rfl, by simp, h, by simp [scanF, h]⟩
    | true =>
      rcases first_of task l (i + 1) with ⟨h1, h2⟩ | ⟨u, y, v, h1, h2, h3, h4⟩
      · exact .inl ⟨List.forall_mem_cons.2 ⟨h, h1⟩, by simp only [scanF, h, if_true]; exact h2⟩
      · refine .inr ⟨x :: u, y, v, by rw [h1]; rfl, List.forall_mem_cons.2 ⟨h, h2⟩, h3, ?_⟩
        simp only [scanF, h, if_true]
        rw [h4]
        congr 2
        simp; omega
theorem without_eq {l : List Ot} {task : Int} (hl : l.length ≤ 1000) : F_query_Without l task = some (l.filter (notT task)) := by
  have hm : maxI = 9223372036854775807 := rfl
  unfold F_query_Without
  have hsel : selB l.isEmpty (grdEq task task (some ([] : List Ot))) (grd ((0 + l.length) * 80 ≤ roomLim) (grdEq task task (some l))) = some l := by
    rw [grdEq_self, grdEq_self, grdp (by unfold roomLim; omega)]
    unfold selB
    cases l with
    | nil => simp
    | cons x l => simp
  rw [hsel, bnd_some]
  have hloop0 : loopS (step_query_Without_0 task l) (l, 0) = some (scanF (fun i o => if notT task o then none else some (Sum.inl (β := Unit) (i : Int))) (.inr ()) 0 l) := by
    suffices h : ∀ (v u : List Ot), l = u ++ v → loopS (step_query_Without_0 task l) (l, (u.length : Int)) = some (scanF (fun i o => if notT task o then none else some (Sum.inl (β := Unit) (i : Int))) (.inr ()) u.length v) from h l [] rfl
    intro v
    induction v with
    | nil =>
      intro u hu
      rw [List.append_nil] at hu
      subst hu
      refine loopS_out ?_
      simp only [step_query_Without_0, grdEq_self]
      rw [if_neg (by simp)]
      rfl
    | cons x v ih =>
      intro u hu
      have hx : l[u.length]? = some x := by rw [hu]; simp
      have hul : u.length < l.length := by rw [hu]; simp
      have c0 : decide ((u.length : Int) < (l.length : Int)) = true := by simp; omega
      have hw : Go.IntKind.i64.wrap ((u.length : Int) + 1) = ((u.length + 1 : Nat) : Int) := by rw [wrap_id (by omega) (by omega)]; rfl
      unfold scanF
      by_cases h : x.2.2.2.2.2.2.2 = task
      · have e1 : (x.2.2.2.2.2.2.2 == task) = true := by simpa using h
        have e2 : notT task x = false := by simp [notT, h]
        refine loopS_out ?_
        simp only [step_query_Without_0, c0, if_true, natOf_nat, hx, bnd_some, grdEq_self, e1, e2, Bool.false_eq_true, if_false]
      · have e1 : (x.2.2.2.2.2.2.2 == task) = false := by simpa using h
        have e2 : notT task x = true := by simpa [notT] using h
        rw [loopS_next (y := (l, ((u.length + 1 : Nat) : Int)))]
        · simp only [e2, if_true]
          have := ih (u ++ [x]) (by rw [hu]; simp)
          simpa using this
        · simp only [step_query_Without_0, c0, if_true, natOf_nat, hx, bnd_some, grdEq_self, e1, Bool.false_eq_true, if_false, hw]
  rw [hloop0, bnd_some]
  rcases first_of task l 0 with ⟨h1, h2⟩ | ⟨u, x, v, h1, h2, h3, h4⟩
  · rw [h2]
    simp only
    rw [List.filter_eq_self.2 h1]
  · rw [h4, Nat.zero_add]
    have hul : u.length < l.length := by rw [h1]; simp
    have e0 : ((u.length : Int) == -1) = false := by simp
    have hw0 : Go.IntKind.i64.wrap ((u.length : Int) + 1) = ((u.length + 1 : Nat) : Int) := by rw [wrap_id (by omega) (by omega)]; rfl
    simp only [e0, Bool.false_eq_true, if_false, hw0]
    -- the state at j: what stays, and then what was there
    have hfu : u.filter (notT task) = u := List.filter_eq_self.2 h2
    have htu : l.take (u.length + 1) = u ++ [x] := by
      rw [take_step (x := x) (by rw [h1]; simp), h1]
      simp only [List.take_left']
    have hf1 : (l.take (u.length + 1)).filter (notT task) = u := by rw [htu, List.filter_append, hfu]; simp [h3]
    have hst : ∀ j, j ≤ l.length → ((l.take j).filter (notT task)).length ≤ j := fun j hj => Nat.le_trans (List.length_filter_le _ _) (by simp; omega)
    have hrun := loop_run (step := step_query_Without_1 task) (t := (l.filter (notT task) ++ l.drop (l.filter (notT task)).length, ((l.filter (notT task)).length : Int)))
      (s := fun m => ((l.take (u.length + 1 + m)).filter (notT task) ++ l.drop ((l.take (u.length + 1 + m)).filter (notT task)).length, ((((l.take (u.length + 1 + m)).filter (notT task)).length : Int), ((u.length + 1 + m : Nat) : Int)))) (l.length - (u.length + 1)) (fun m hm' => by
      have hj : u.length + 1 + m < l.length := by omega
      generalize hjj : u.length + 1 + m = j at hj
      rw [show u.length + 1 + (m + 1) = j + 1 by omega]
      obtain ⟨y, hy⟩ : ∃ y, l[j]? = some y := ⟨l[j], by simp [hj]⟩
      have hij := hst j (by omega)
      have hfs := filt_step (p := notT task) hy
      generalize hF : (l.take j).filter (notT task) = F at *
      have hlenA : (F ++ l.drop F.length).length = l.length := by simp; omega
      have c0 : decide ((j : Int) < ((F ++ l.drop F.length).length : Int)) = true := by rw [hlenA]; simp; omega
      have hgj : (F ++ l.drop F.length)[j]? = some y := by
        rw [List.getElem?_append_right (by omega), List.getElem?_drop, show F.length + (j - F.length) = j by omega, hy]
      have hw : Go.IntKind.i64.wrap ((j : Int) + 1) = ((j + 1 : Nat) : Int) := by rw [wrap_id (by omega) (by omega)]; rfl
      have hwF : Go.IntKind.i64.wrap ((F.length : Int) + 1) = ((F.length + 1 : Nat) : Int) := by rw [wrap_id (by omega) (by omega)]; rfl
      by_cases h : y.2.2.2.2.2.2.2 = task
      · have e1 : (!y.2.2.2.2.2.2.2 == task) = false := by simpa using h
        have e2 : notT task y = false := by simp [notT, h]
        rw [hfs]
        simp only [step_query_Without_1, c0, if_true, natOf_nat, hgj, bnd_some, grdEq_self, e1, e2, Bool.false_eq_true, if_false, hw, List.append_nil]
      · have e1 : (!y.2.2.2.2.2.2.2 == task) = true := by simpa using h
        have e2 : notT task y = true := by simpa [notT] using h
        obtain ⟨z, hz⟩ : ∃ z, (F ++ l.drop F.length)[F.length]? = some z := ⟨(F ++ l.drop F.length)[F.length]'(by omega), List.getElem?_eq_getElem (by omega)⟩
        rw [hfs]
        simp only [step_query_Without_1, c0, if_true, natOf_nat, hgj, hz, bnd_some, grdEq_self, e1, e2, hw, hwF]
        have hset : (F ++ l.drop F.length).set F.length y = F ++ [y] ++ l.drop (F.length + 1) := by
          rw [List.set_append_right _ _ (Nat.le_refl _), Nat.sub_self]
          obtain ⟨z', hz'⟩ : ∃ z', l.drop F.length = z' :: l.drop (F.length + 1) := ⟨l[F.length]'(by omega), List.drop_eq_getElem_cons (by omega)⟩
          rw [hz']
          simp
        have : (y.fst, y.snd.fst, y.snd.snd.fst, y.snd.snd.snd.fst, y.snd.snd.snd.snd.fst, y.snd.snd.snd.snd.snd.fst, y.snd.snd.snd.snd.snd.snd.fst, y.snd.snd.snd.snd.snd.snd.snd) = y := rfl
        rw [this, hset]
        simp) (by
      have : u.length + 1 + (l.length - (u.length + 1)) = l.length := by omega
      simp only [this, List.take_length, step_query_Without_1, grdEq_self]
      rw [if_neg (by have := List.length_filter_le (notT task) l; simp; omega)])
    simp only [Nat.add_zero, hf1] at hrun
    have hA : u ++ l.drop u.length = l := by rw [h1]; simp
    rw [hA] at hrun
    rw [hrun, bnd_some]
    simp only [natOf_nat]
    have hfl := List.length_filter_le (notT task) l
    generalize hF : l.filter (notT task) = F at *
    have hlenA : (F ++ l.drop F.length).length = l.length := by simp; omega
    rw [grdp (by omega), grdp (by simp)]
    congr 1
    have hd : (List.drop F.length (F ++ l.drop F.length)).length = l.length - F.length := by simp
    rw [hd, hlenA, show l.length - (l.length - F.length) = F.length by omega, List.take_left' rfl, List.take_left' rfl]
theorem out_eta (x : Ot) (y : Ot) : (x.fst == y.fst && (x.snd.fst == y.snd.fst && (x.snd.snd.fst == y.snd.snd.fst && (x.snd.snd.snd.fst == y.snd.snd.snd.fst && (x.snd.snd.snd.snd.fst == y.snd.snd.snd.snd.fst && (x.snd.snd.snd.snd.snd.fst == y.snd.snd.snd.snd.snd.fst && true)) && (x.snd.snd.snd.snd.snd.snd.fst == y.snd.snd.snd.snd.snd.snd.fst && (x.snd.snd.snd.snd.snd.snd.snd == y.snd.snd.snd.snd.snd.snd.snd && true)))))) = decide (x = y) := by
  obtain ⟨a1, a2, a3, a4, a5, a6, a7, a8⟩ := x
  obtain ⟨b1, b2, b3, b4, b5, b6, b7, b8⟩ := y
  rw [Bool.eq_iff_iff]
  simp [and_assoc]
theorem refSame_refl {l : List Ot} (hl : l.length ≤ 1000) : F_ref20_Same l l = some true := by
  have hm : maxI = 9223372036854775807 := rfl
  unfold F_ref20_Same
  have := loop_run (step := step_ref20_Same_0 l l) (t := .inr ()) (s := fun i => (i : Int)) l.length (fun i hi => by
    obtain ⟨x, hx⟩ : ∃ x, l[i]? = some x := ⟨l[i], by simp [hi]⟩
    have c0 : decide ((i : Int) < (l.length : Int)) = true := by simp; omega
    have hw : Go.IntKind.i64.wrap ((i : Int) + 1) = ((i + 1 : Nat) : Int) := by rw [wrap_id (by omega) (by omega)]; rfl
    simp only [step_ref20_Same_0, c0, if_true, natOf_nat, hx, bnd_some, grdEq_self, hw, out_eta, decide_true, Bool.not_true, Bool.false_eq_true, if_false]) (by
    simp only [step_ref20_Same_0, grdEq_self]
    rw [if_neg (by simp)])
  rw [if_neg (by simp), show ((0 : Int)) = ((0 : Nat) : Int) from rfl, this, bnd_some]
theorem same13_refl {l : List Int} (hl : l.length ≤ 1000) : F_ref13_Same l l = some true := by
  have hm : maxI = 9223372036854775807 := rfl
  unfold F_ref13_Same
  have := loop_run (step := step_ref13_Same_0 l l) (t := .inr ()) (s := fun i => (i : Int)) l.length (fun i hi => by
    obtain ⟨x, hx⟩ : ∃ x, l[i]? = some x := ⟨l[i], by simp [hi]⟩
    have c0 : decide ((i : Int) < (l.length : Int)) = true := by simp; omega
    have hw : Go.IntKind.i64.wrap ((i : Int) + 1) = ((i + 1 : Nat) : Int) := by rw [wrap_id (by omega) (by omega)]; rfl
    simp only [step_ref13_Same_0, c0, if_true, natOf_nat, hx, bnd_some, grdEq_self, hw, bne_self_eq_false, Bool.false_eq_true, if_false]) (by
    simp only [step_ref13_Same_0, grdEq_self]
    rw [if_neg (by simp)])
  rw [if_neg (by simp), show ((0 : Int)) = ((0 : Nat) : Int) from rfl, this, bnd_some]
theorem law_QueryTells (l : List Ot) (now task : Int) (hl : (l.length : Int) ≤ maxI) : F_law20_QueryTells l now task = some true := by
  have hm : maxI = 9223372036854775807 := rfl
  unfold F_law20_QueryTells
  rw [ref20_Few_eq hl, bnd_some, live20]
  cases hf : fewO l with
  | false => rfl
  | true =>
    obtain ⟨f1, f2⟩ := few20_of hf
    simp only [Bool.not_true, Bool.false_eq_true, if_false]
    rw [Own_eq (by omega), bnd_some]
    have := loop_run (step := step_law20_QueryTells_0 l now task l) (t := .inr ()) (s := fun i => (i : Int)) l.length (fun i hi => by
      obtain ⟨x, hx⟩ : ∃ x, l[i]? = some x := ⟨l[i], by simp [hi]⟩
      have hmem : x ∈ l := List.mem_of_getElem? hx
      have hn : (x.2.2.2.1.length : Int) ≤ maxI := by have := (f2 x hmem).1; omega
      have c0 : decide ((i : Int) < (l.length : Int)) = true := by simp; omega
      have hw : Go.IntKind.i64.wrap ((i : Int) + 1) = ((i + 1 : Nat) : Int) := by rw [wrap_id (by omega) (by omega)]; rfl
      have q1 : F_query_Out_Check (x.fst, x.snd.fst, x.snd.snd.fst, x.snd.snd.snd.fst, x.snd.snd.snd.snd.fst, x.snd.snd.snd.snd.snd.fst, x.snd.snd.snd.snd.snd.snd.fst, x.snd.snd.snd.snd.snd.snd.snd) = some (okO x) := query_Out_Check_eq hn
      have q2 : F_ref20_Check (x.fst, x.snd.fst, x.snd.snd.fst, x.snd.snd.snd.fst, x.snd.snd.snd.snd.fst, x.snd.snd.snd.snd.snd.fst, x.snd.snd.snd.snd.snd.snd.fst, x.snd.snd.snd.snd.snd.snd.snd) = some (okO x) := ref20_Check_eq x
      have q3 : F_query_Out_Bytes (x.fst, x.snd.fst, x.snd.snd.fst, x.snd.snd.snd.fst, x.snd.snd.snd.snd.fst, x.snd.snd.snd.snd.snd.fst, x.snd.snd.snd.snd.snd.snd.fst, x.snd.snd.snd.snd.snd.snd.snd) = some (bytesO x) := query_Out_Bytes_eq hn
      have q4 : F_ref20_Bytes (x.fst, x.snd.fst, x.snd.snd.fst, x.snd.snd.snd.fst, x.snd.snd.snd.snd.fst, x.snd.snd.snd.snd.snd.fst, x.snd.snd.snd.snd.snd.snd.fst, x.snd.snd.snd.snd.snd.snd.snd) = some (bytesO x) := ref20_Bytes_eq x
      simp only [step_law20_QueryTells_0, c0, if_true, natOf_nat, hx, bnd_some, grdEq_self, hw, q1, q2, q3, q4, beq_self_eq_true, Bool.not_true, Bool.false_eq_true, if_false]) (by
      simp only [step_law20_QueryTells_0, grdEq_self]
      rw [if_neg (by simp)])
    rw [show ((0 : Int)) = ((0 : Nat) : Int) from rfl, this, bnd_some]
    simp only
    have hlate := late_len now l 0
    have hwl := List.length_filter_le (notT task) l
    rw [Late_eq (by omega), bnd_some, refLate_eq (by omega), bnd_some, same13_refl (by omega), bnd_some, if_pos rfl, without_eq (by omega), bnd_some, Told_eq (by omega), bnd_some, refWithout_eq (by omega), bnd_some, refSame_refl (by omega), bnd_some, if_pos rfl, bnd_some]
theorem len_of {l : List Ot} (w : wfd (.list tO) l) : (l.length : Int) ≤ maxI := by
  have hl : maxLen = 9223372036854775807 := rfl
  have hm : maxI = 9223372036854775807 := rfl
  have := w.1
  omega
end Go.Abs
