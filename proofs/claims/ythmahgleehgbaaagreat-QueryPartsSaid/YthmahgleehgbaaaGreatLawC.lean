/- Part of a proof: a machine of plain data, and what the functions come to on it. -/
import Derived.Test.YthmahgleehgbaaaGreatLawB
import Derived.Test.YthmahgleehgbaaaGreatSxB
set_option linter.unusedSimpArgs false
set_option linter.unusedVariables false
set_option linter.unusedSectionVars false
namespace Go.Abs
open Go
theorem live20 : F_law20_live = some true := by kernel_rfl
end Go.Abs

namespace Go.Abs
open Go
/-- a loop that goes through its states one by one -/
theorem loop_run {σ τ : Type} {step : σ → Option (σ ⊕ τ)} {t : τ} {s : Nat → σ} : ∀ (m : Nat), (∀ i, i < m → step (s i) = some (.inl (s (i + 1)))) → step (s m) = some (.inr t) → loopS step (s 0) = some t := by
  intro m
  suffices h : ∀ k, k ≤ m → (∀ i, i < m → step (s i) = some (.inl (s (i + 1)))) → step (s m) = some (.inr t) → loopS step (s (m - k)) = some t by
    intro h1 h2
    have := h m (Nat.le_refl _) h1 h2
    rwa [Nat.sub_self] at this
  intro k
  induction k with
  | zero => intro _ _ h2; exact loopS_out h2
  | succ k ih =>
    intro hk h1 h2
    rw [loopS_next (h1 (m - (k + 1)) (by omega)), show m - (k + 1) + 1 = m - k by omega]
    exact ih (by omega) h1 h2
/-- the first that is told, or the end -/
def scanF {β τ : Type} (f : Nat → β → Option τ) (e : τ) : Nat → List β → τ
  | _, [] => e
  | i, x :: l => match f i x with
    | some t => t
    | none => scanF f e (i + 1) l
theorem loop_scan {β τ : Type} {l : List β} {step : Int → Option (Int ⊕ τ)} (f : Nat → β → Option τ) (e : τ)
    (hs : ∀ (i : Nat) x, l[i]? = some x → step (i : Int) = some (match f i x with | some t => .inr t | none => .inl ((i + 1 : Nat) : Int))) (he : step (l.length : Int) = some (.inr e)) : loopS step 0 = some (scanF f e 0 l) := by
  suffices h : ∀ (v u : List β), l = u ++ v → loopS step (u.length : Int) = some (scanF f e u.length v) from h l [] rfl
  intro v
  induction v with
  | nil =>
    intro u hu
    rw [List.append_nil] at hu
    subst hu
    exact loopS_out he
  | cons x v ih =>
    intro u hu
    have hx := hs u.length x (by rw [hu]; simp)
    unfold scanF
    cases hf : f u.length x with
    | some t => rw [hf] at hx; exact loopS_out hx
    | none =>
      rw [hf] at hx
      rw [loopS_next hx]
      have := ih (u ++ [x]) (by rw [hu]; simp)
      simpa using this
abbrev Ot := Int × Int × List UInt8 × List UInt8 × Int × Int × Int × Int
end Go.Abs

namespace Go.Abs
open Go
end Go.Abs

namespace Go.Abs
open Go
theorem take_step {α : Type} {l : List α} {i : Nat} {x : α} (h : l[i]? = some x) : l.take (i + 1) = l.take i ++ [x] := by
  rw [List.take_add_one, h]; rfl
def smallO (o : Ot) : Bool := decide (o.2.2.2.1.length ≤ 300) && decide (o.2.2.1.length ≤ 100)
def fewO (l : List Ot) : Bool := l.all smallO && decide (l.length ≤ 60)
theorem scan_all {β : Type} (p : β → Bool) : ∀ (l : List β) (i : Nat), scanF (fun _ x => if p x then none else some (Sum.inl (α := Bool) (β := Unit) false)) (.inr ()) i l = if l.all p then .inr () else .inl false
  | [], i => rfl
  | x :: l, i => by
    unfold scanF
    cases h : p x with
    | true => simp only [if_true, List.all_cons, h, Bool.true_and]; exact scan_all p l (i + 1)
    | false => simp [h]
theorem ref20_Few_eq {l : List Ot} (hl : (l.length : Int) ≤ maxI) : F_ref20_Few l = some (fewO l) := by
  have hm : maxI = 9223372036854775807 := rfl
  unfold F_ref20_Few
  rw [loop_scan (l := l) (step := step_ref20_Few_0 l) (fun _ o => if smallO o then none else some (.inl false)) (.inr ()) (fun i x hx => by
    have hil : i < l.length := (List.getElem?_eq_some_iff.1 hx).1
    have c0 : decide ((i : Int) < (l.length : Int)) = true := by simp; omega
    have hw : Go.IntKind.i64.wrap ((i : Int) + 1) = ((i + 1 : Nat) : Int) := by rw [wrap_id (by omega) (by omega)]; rfl
    simp only [step_ref20_Few_0, c0, if_true, natOf_nat, hx, bnd_some, grdEq_self, hw, smallO]
    by_cases h1 : x.snd.snd.snd.fst.length ≤ 300
    · have e1 : decide (300 < (x.snd.snd.snd.fst.length : Int)) = false := by simp; omega
      by_cases h2 : x.snd.snd.fst.length ≤ 100
      · have e2 : decide (100 < (x.snd.snd.fst.length : Int)) = false := by simp; omega
        simp [e1, e2, h1, h2]
      · have e2 : decide (100 < (x.snd.snd.fst.length : Int)) = true := by simp; omega
        simp [e1, e2, h1, h2]
    · have e1 : decide (300 < (x.snd.snd.snd.fst.length : Int)) = true := by simp; omega
      simp [e1, h1]) (by
    simp only [step_ref20_Few_0, grdEq_self]
    rw [if_neg (by simp)]), bnd_some, scan_all]
  unfold fewO
  cases h : l.all smallO with
  | true =>
    simp only [if_true, Bool.true_and]
    congr 1
    rw [Bool.eq_iff_iff]; simp; omega
  | false => rfl
theorem few20_of {l : List Ot} (h : fewO l = true) : l.length ≤ 60 ∧ (∀ o ∈ l, o.2.2.2.1.length ≤ 300 ∧ o.2.2.1.length ≤ 100) := by
  unfold fewO smallO at h
  simp only [Bool.and_eq_true, List.all_eq_true, decide_eq_true_eq] at h
  exact ⟨h.2, h.1⟩
theorem Own_eq {l : List Ot} (hl : l.length ≤ 1000) : F_law20_Own l = some l := by
  have hm : maxI = 9223372036854775807 := rfl
  unfold F_law20_Own
  have := loop_run (step := step_law20_Own_0 l) (t := l) (s := fun i => (l.take i, (i : Int))) l.length (fun i hi => by
    obtain ⟨x, hx⟩ : ∃ x, l[i]? = some x := ⟨l[i], by simp [hi]⟩
    have c0 : decide ((i : Int) < (l.length : Int)) = true := by simp; omega
    have hw : Go.IntKind.i64.wrap ((i : Int) + 1) = ((i + 1 : Nat) : Int) := by rw [wrap_id (by omega) (by omega)]; rfl
    simp only [step_law20_Own_0, c0, if_true, natOf_nat, hx, bnd_some, grdEq_self, hw]
    rw [grdp (by unfold roomLim; simp; omega), take_step hx]) (by
    simp only [step_law20_Own_0, grdEq_self]
    rw [if_neg (by simp)]
    simp)
  simp only [List.take_zero] at this
  rw [show ((0 : Int)) = ((0 : Nat) : Int) from rfl, this, bnd_some]
/-- who is late -/
def lateF (now : Int) : Nat → List Ot → List Int
  | _, [] => []
  | i, x :: l => if x.2.2.2.2.2.2.1 ≤ now then (i : Int) :: lateF now (i + 1) l else lateF now (i + 1) l
theorem late_app (now : Int) (x : Ot) : ∀ (u : List Ot) (i : Nat), lateF now i (u ++ [x]) = lateF now i u ++ (if x.2.2.2.2.2.2.1 ≤ now then [((i + u.length : Nat) : Int)] else [])
  | [], i => by simp [lateF]
  | y :: u, i => by
    simp only [List.cons_append, lateF]
    rw [late_app now x u (i + 1)]
    have e : i + 1 + u.length = i + (y :: u).length := by simp; omega
    rw [e]
    split <;> simp
theorem late_len (now : Int) : ∀ (l : List Ot) (i : Nat), (lateF now i l).length ≤ l.length
  | [], i => by simp [lateF]
  | y :: u, i => by
    have := late_len now u (i + 1)
    unfold lateF
    split <;> simp <;> omega
theorem Late_eq {l : List Ot} {now : Int} (hl : l.length ≤ 1000) : F_query_Late l now = some (lateF now 0 l) := by
  have hm : maxI = 9223372036854775807 := rfl
  unfold F_query_Late
  have := loop_run (step := step_query_Late_0 l now) (t := lateF now 0 l) (s := fun i => (lateF now 0 (l.take i), (i : Int))) l.length (fun i hi => by
    obtain ⟨x, hx⟩ : ∃ x, l[i]? = some x := ⟨l[i], by simp [hi]⟩
    have c0 : decide ((i : Int) < (l.length : Int)) = true := by simp; omega
    have hw : Go.IntKind.i64.wrap ((i : Int) + 1) = ((i + 1 : Nat) : Int) := by rw [wrap_id (by omega) (by omega)]; rfl
    have hlen := late_len now (l.take i) 0
    have htk : (l.take i).length = i := by simp; omega
    simp only [step_query_Late_0, c0, if_true, natOf_nat, hx, bnd_some, grdEq_self, hw, take_step hx, late_app]
    rw [htk, Nat.zero_add]
    by_cases h : x.2.2.2.2.2.2.1 ≤ now
    · simp only [h, decide_true, if_true]
      rw [grdp (by unfold roomLim; simp; omega)]
    · simp only [h, decide_false, Bool.false_eq_true, if_false, List.append_nil]) (by
    simp only [step_query_Late_0, grdEq_self]
    rw [if_neg (by simp)]
    simp)
  simp only [List.take_zero, lateF] at this
  rw [show ((0 : Int)) = ((0 : Nat) : Int) from rfl, this, bnd_some]
end Go.Abs

namespace Go.Abs
open Go
def notT (task : Int) (o : Ot) : Bool := !(o.2.2.2.2.2.2.2 == task)
theorem filt_step {p : Ot → Bool} {l : List Ot} {i : Nat} {x : Ot} (h : l[i]? = some x) : (l.take (i + 1)).filter p = (l.take i).filter p ++ (if p x then [x] else []) := by
  rw [take_step h, List.filter_append]
  cases hp : p x <;> simp [hp]
/-- the first of a task -/
theorem first_of (task : Int) : ∀ (l : List Ot) (i : Nat), (∀ o ∈ l, notT task o = true) ∧ scanF (fun i o => if notT task o then none else some (Sum.inl (β := Unit) (i : Int))) (.inr ()) i l = .inr () ∨
    ∃ u x v, l = u ++ x :: v ∧ (∀ o ∈ u, notT task o = true) ∧ notT task x = false ∧ scanF (fun i o => if notT task o then none else some (Sum.inl (β := Unit) (i : Int))) (.inr ()) i l = .inl ((i + u.length : Nat) : Int)
  | [], i => .inl ⟨by simp, rfl⟩
  | x :: l, i => by
    cases h : notT task x with
    | false => exact .inr ⟨[], x, l, rfl, by simp, h, by simp [scanF, h]⟩
    | true =>
      rcases first_of task l (i + 1) with ⟨h1, h2⟩ | ⟨u, y, v, h1, h2, h3, h4⟩
      · exact .inl ⟨List.forall_mem_cons.2 ⟨h, h1⟩, by simp only [scanF, h, if_true]; exact h2⟩
      · refine .inr ⟨x :: u, y, v, by rw [h1]; rfl, List.forall_mem_cons.2 ⟨h, h2⟩, h3, ?_⟩
        simp only [scanF, h, if_true]
        rw [h4]
        congr 2
        simp; omega
theorem without_eq {l : List Ot} {task : Int} (hl : l.length ≤ 1000) : F_query_Without l task = some (l.filter (notT task)) := by
  have hm : maxI = 9223372036854775807 := rfl
  unfold F_query_Without
  have hsel : selB l.isEmpty (grdEq task task (some ([] : List Ot))) (grd ((0 + l.length) * 80 ≤ roomLim) (grdEq task task (some l))) = some l := by
    rw [grdEq_self, grdEq_self, grdp (by unfold roomLim; omega)]
    unfold selB
    cases l with
    | nil => simp
    | cons x l => simp
  rw [hsel, bnd_some]
  have hloop0 : loopS (step_query_Without_0 task l) (l, 0) = some (scanF (fun i o => if notT task o then none else some (Sum.inl (β := Unit) (i : Int))) (.inr ()) 0 l) := by
    suffices h : ∀ (v u : List Ot), l = u ++ v → loopS (step_query_Without_0 task l) (l, (u.length : Int)) = some (scanF (fun i o => if notT task o then none else some (Sum.inl (β := Unit) (i : Int))) (.inr ()) u.length v) from h l [] rfl
    intro v
    induction v with
    | nil =>
      intro u hu
      rw [List.append_nil] at hu
      subst hu
      refine loopS_out ?_
      simp only [step_query_Without_0, grdEq_self]
      rw [if_neg (by simp)]
      rfl
    | cons x v ih =>
      intro u hu
      have hx : l[u.length]? = some x := by rw [hu]; simp
      have hul : u.length < l.length := by rw [hu]; simp
      have c0 : decide ((u.length : Int) < (l.length : Int)) = true := by simp; omega
      have hw : Go.IntKind.i64.wrap ((u.length : Int) + 1) = ((u.length + 1 : Nat) : Int) := by rw [wrap_id (by omega) (by omega)]; rfl
      unfold scanF
      by_cases h : x.2.2.2.2.2.2.2 = task
      · have e1 : (x.2.2.2.2.2.2.2 == task) = true := by simpa using h
        have e2 : notT task x = false := by simp [notT, h]
        refine loopS_out ?_
        simp only [step_query_Without_0, c0, if_true, natOf_nat, hx, bnd_some, grdEq_self, e1, e2, Bool.false_eq_true, if_false]
      · have e1 : (x.2.2.2.2.2.2.2 == task) = false := by simpa using h
        have e2 : notT task x = true := by simpa [notT] using h
        rw [loopS_next (y := (l, ((u.length + 1 : Nat) : Int)))]
        · simp only [e2, if_true]
          have := ih (u ++ [x]) (by rw [hu]; simp)
          simpa using this
        · simp only [step_query_Without_0, c0, if_true, natOf_nat, hx, bnd_some, grdEq_self, e1, Bool.false_eq_true, if_false, hw]
  rw [hloop0, bnd_some]
  rcases first_of task l 0 with ⟨h1, h2⟩ | ⟨u, x, v, h1, h2, h3, h4⟩
  · rw [h2]
    simp only
    rw [List.filter_eq_self.2 h1]
  · rw [h4, Nat.zero_add]
    have hul : u.length < l.length := by rw [h1]; simp
    have e0 : ((u.length : Int) == -1) = false := by simp
    have hw0 : Go.IntKind.i64.wrap ((u.length : Int) + 1) = ((u.length + 1 : Nat) : Int) := by rw [wrap_id (by omega) (by omega)]; rfl
    simp only [e0, Bool.false_eq_true, if_false, hw0]
    -- the state at j: what stays, and then what was there
    have hfu : u.filter (notT task) = u := List.filter_eq_self.2 h2
    have htu : l.take (u.length + 1) = u ++ [x] := by
      rw [take_step (x := x) (by rw [h1]; simp), h1]
      simp only [List.take_left']
    have hf1 : (l.take (u.length + 1)).filter (notT task) = u := by rw [htu, List.filter_append, hfu]; simp [h3]
    have hst : ∀ j, j ≤ l.length → ((l.take j).filter (notT task)).length ≤ j := fun j hj => Nat.le_trans (List.length_filter_le _ _) (by simp; omega)
    have hrun := loop_run (step := step_query_Without_1 task) (t := (l.filter (notT task) ++ l.drop (l.filter (notT task)).length, ((l.filter (notT task)).length : Int)))
      (s := fun m => ((l.take (u.length + 1 + m)).filter (notT task) ++ l.drop ((l.take (u.length + 1 + m)).filter (notT task)).length, ((((l.take (u.length + 1 + m)).filter (notT task)).length : Int), ((u.length + 1 + m : Nat) : Int)))) (l.length - (u.length + 1)) (fun m hm' => by
      have hj : u.length + 1 + m < l.length := by omega
      generalize hjj : u.length + 1 + m = j at hj
      rw [show u.length + 1 + (m + 1) = j + 1 by omega]
      obtain ⟨y, hy⟩ : ∃ y, l[j]? = some y := ⟨l[j], by simp [hj]⟩
      have hij := hst j (by omega)
      have hfs := filt_step (p := notT task) hy
      generalize hF : (l.take j).filter (notT task) = F at *
      have hlenA : (F ++ l.drop F.length).length = l.length := by simp; omega
      have c0 : decide ((j : Int) < ((F ++ l.drop F.length).length : Int)) = true := by rw [hlenA]; simp; omega
      have hgj : (F ++ l.drop F.length)[j]? = some y := by
        rw [List.getElem?_append_right (by omega), List.getElem?_drop, show F.length + (j - F.length) = j by omega, hy]
      have hw : Go.IntKind.i64.wrap ((j : Int) + 1) = ((j + 1 : Nat) : Int) := by rw [wrap_id (by omega) (by omega)]; rfl
      have hwF : Go.IntKind.i64.wrap ((F.length : Int) + 1) = ((F.length + 1 : Nat) : Int) := by rw [wrap_id (by omega) (by omega)]; rfl
      by_cases h : y.2.2.2.2.2.2.2 = task
      · have e1 : (!y.2.2.2.2.2.2.2 == task) = false := by simpa using h
        have e2 : notT task y = false := by simp [notT, h]
        rw [hfs]
        simp only [step_query_Without_1, c0, if_true, natOf_nat, hgj, bnd_some, grdEq_self, e1, e2, Bool.false_eq_true, if_false, hw, List.append_nil]
      · have e1 : (!y.2.2.2.2.2.2.2 == task) = true := by simpa using h
        have e2 : notT task y = true := by simpa [notT] using h
        obtain ⟨z, hz⟩ : ∃ z, (F ++ l.drop F.length)[F.length]? = some z := ⟨(F ++ l.drop F.length)[F.length]'(by omega), List.getElem?_eq_getElem (by omega)⟩
        rw [hfs]
        simp only [step_query_Without_1, c0, if_true, natOf_nat, hgj, hz, bnd_some, grdEq_self, e1, e2, hw, hwF]
        have hset : (F ++ l.drop F.length).set F.length y = F ++ [y] ++ l.drop (F.length + 1) := by
          rw [List.set_append_right _ _ (Nat.le_refl _), Nat.sub_self]
          obtain ⟨z', hz'⟩ : ∃ z', l.drop F.length = z' :: l.drop (F.length + 1) := ⟨l[F.length]'(by omega), List.drop_eq_getElem_cons (by omega)⟩
          rw [hz']
          simp
        have : (y.fst, y.snd.fst, y.snd.snd.fst, y.snd.snd.snd.fst, y.snd.snd.snd.snd.fst, y.snd.snd.snd.snd.snd.fst, y.snd.snd.snd.snd.snd.snd.fst, y.snd.snd.snd.snd.snd.snd.snd) = y := rfl
        rw [this, hset]
        simp) (by
      have : u.length + 1 + (l.length - (u.length + 1)) = l.length := by omega
      simp only [this, List.take_length, step_query_Without_1, grdEq_self]
      rw [if_neg (by have := List.length_filter_le (notT task) l; simp; omega)])
    simp only [Nat.add_zero, hf1] at hrun
    have hA : u ++ l.drop u.length = l := by rw [h1]; simp
    rw [hA] at hrun
    rw [hrun, bnd_some]
    simp only [natOf_nat]
    have hfl := List.length_filter_le (notT task) l
    generalize hF : l.filter (notT task) = F at *
    have hlenA : (F ++ l.drop F.length).length = l.length := by simp; omega
    rw [grdp (by omega), grdp (by simp)]
    congr 1
    have hd : (List.drop F.length (F ++ l.drop F.length)).length = l.length - F.length := by simp
    rw [hd, hlenA, show l.length - (l.length - F.length) = F.length by omega, List.take_left' rfl, List.take_left' rfl]
theorem out_eta (x : Ot) (y : Ot) : (x.fst == y.fst && (x.snd.fst == y.snd.fst && (x.snd.snd.fst == y.snd.snd.fst && (x.snd.snd.snd.fst == y.snd.snd.snd.fst && (x.snd.snd.snd.snd.fst == y.snd.snd.snd.snd.fst && (x.snd.snd.snd.snd.snd.fst == y.snd.snd.snd.snd.snd.fst && true)) && (x.snd.snd.snd.snd.snd.snd.fst == y.snd.snd.snd.snd.snd.snd.fst && (x.snd.snd.snd.snd.snd.snd.snd == y.snd.snd.snd.snd.snd.snd.snd && true)))))) = decide (x = y) := by
  obtain ⟨a1, a2, a3, a4, a5, a6, a7, a8⟩ := x
  obtain ⟨b1, b2, b3, b4, b5, b6, b7, b8⟩ := y
  rw [Bool.eq_iff_iff]
  simp [and_assoc]
theorem len_of {l : List Ot} (w : wfd (.list tO) l) : (l.length : Int) ≤ maxI := by
  have hl : maxLen = 9223372036854775807 := rfl
  have hm : maxI = 9223372036854775807 := rfl
  have := w.1
  omega
end Go.Abs

namespace Go.Abs
open Go
theorem late_split (now : Int) : ∀ (u v : List Ot) (i : Nat), lateF now i (u ++ v) = lateF now i u ++ lateF now (i + u.length) v
  | [], v, i => by simp [lateF]
  | y :: u, v, i => by
    have e : i + 1 + u.length = i + (y :: u).length := by simp; omega
    simp only [List.cons_append, lateF, late_split now u v (i + 1), e]
    split <;> rfl
theorem parts0 {l : List Ot} {now task : Int} {v6 : List Ot} (hl : l.length ≤ 1000) : ∀ (v u : List Ot), l = u ++ v →
    loopS (step_law20_QueryParts_0 l now task v6 (lateF now 0 l)) (((lateF now 0 u).length : Int), (u.length : Int)) = some (.inr ((lateF now 0 l).length : Int))
  | [], u, h => by
    rw [List.append_nil] at h
    subst h
    refine loopS_out ?_
    simp only [step_law20_QueryParts_0, grdEq_self]
    rw [if_neg (by simp)]
  | x :: v, u, h => by
    have hx : l[u.length]? = some x := by rw [h]; simp
    have hul : u.length < l.length := by rw [h]; simp
    have c0 : decide ((u.length : Int) < (l.length : Int)) = true := by simp; omega
    have hw : Go.IntKind.i64.wrap ((u.length : Int) + 1) = ((u.length + 1 : Nat) : Int) := by rw [wrap_id (by omega) (by omega)]; rfl
    have hlen := late_len now u 0
    have hwl : Go.IntKind.i64.wrap (((lateF now 0 u).length : Int) + 1) = (((lateF now 0 u).length + 1 : Nat) : Int) := by rw [wrap_id (by omega) (by omega)]; rfl
    have ih := parts0 (task := task) (v6 := v6) (now := now) hl v (u ++ [x]) (by rw [h]; simp)
    rw [late_app, Nat.zero_add] at ih
    have hsp : lateF now 0 l = lateF now 0 u ++ lateF now u.length (x :: v) := by
      have := late_split now u (x :: v) 0
      rw [Nat.zero_add] at this
      rw [← this, ← h]
    by_cases hd : x.2.2.2.2.2.2.1 ≤ now
    · rw [if_pos hd] at ih
      have e1 : decide (now < x.snd.snd.snd.snd.snd.snd.fst) = false := by simp; omega
      have hcons : lateF now u.length (x :: v) = (u.length : Int) :: lateF now (u.length + 1) v := by simp only [lateF]; rw [if_pos hd]
      have hg : (lateF now 0 l)[(lateF now 0 u).length]? = some (u.length : Int) := by rw [hsp, hcons]; simp
      have e2 : decide (((lateF now 0 l).length : Int) ≤ ((lateF now 0 u).length : Int)) = false := by
        rw [hsp, hcons]; simp; omega
      rw [loopS_next (y := ((((lateF now 0 u).length + 1 : Nat) : Int), ((u.length + 1 : Nat) : Int)))]
      · simpa using ih
      · simp only [step_law20_QueryParts_0, c0, if_true, natOf_nat, hx, bnd_some, grdEq_self, e1, e2, hg, Bool.false_eq_true, if_false, bne_self_eq_false, hw, hwl]
    · rw [if_neg hd] at ih
      have e1 : decide (now < x.snd.snd.snd.snd.snd.snd.fst) = true := by simp; omega
      rw [loopS_next (y := (((lateF now 0 u).length : Int), ((u.length + 1 : Nat) : Int)))]
      · simpa using ih
      · simp only [step_law20_QueryParts_0, c0, if_true, natOf_nat, hx, bnd_some, grdEq_self, e1, hw]
theorem parts1 {l : List Ot} {task at_ : Int} {v7 : List Int} (hl : l.length ≤ 1000) : ∀ (v u : List Ot), l = u ++ v →
    loopS (step_law20_QueryParts_1 l task v7 at_ (l.filter (notT task))) (((u.filter (notT task)).length : Int), (u.length : Int)) = some (.inr ((l.filter (notT task)).length : Int))
  | [], u, h => by
    rw [List.append_nil] at h
    subst h
    refine loopS_out ?_
    simp only [step_law20_QueryParts_1, grdEq_self]
    rw [if_neg (by simp)]
  | x :: v, u, h => by
    have hx : l[u.length]? = some x := by rw [h]; simp
    have hul : u.length < l.length := by rw [h]; simp
    have c0 : decide ((u.length : Int) < (l.length : Int)) = true := by simp; omega
    have hw : Go.IntKind.i64.wrap ((u.length : Int) + 1) = ((u.length + 1 : Nat) : Int) := by rw [wrap_id (by omega) (by omega)]; rfl
    have hlen := List.length_filter_le (notT task) u
    have hwl : Go.IntKind.i64.wrap (((u.filter (notT task)).length : Int) + 1) = (((u.filter (notT task)).length + 1 : Nat) : Int) := by rw [wrap_id (by omega) (by omega)]; rfl
    have ih := parts1 (task := task) (at_ := at_) (v7 := v7) hl v (u ++ [x]) (by rw [h]; simp)
    rw [List.filter_append] at ih
    have hsp : l.filter (notT task) = u.filter (notT task) ++ (x :: v).filter (notT task) := by rw [h, List.filter_append]
    by_cases hd : x.2.2.2.2.2.2.2 = task
    · have e0 : notT task x = false := by simp [notT, hd]
      have e1 : (x.snd.snd.snd.snd.snd.snd.snd == task) = true := by simpa using hd
      rw [loopS_next (y := (((u.filter (notT task)).length : Int), ((u.length + 1 : Nat) : Int)))]
      · simpa [e0] using ih
      · simp only [step_law20_QueryParts_1, c0, if_true, natOf_nat, hx, bnd_some, grdEq_self, e1, hw]
    · have e0 : notT task x = true := by simpa [notT] using hd
      have e1 : (x.snd.snd.snd.snd.snd.snd.snd == task) = false := by simpa using hd
      have hcons : (x :: v).filter (notT task) = x :: v.filter (notT task) := by simp [e0]
      have hg : (l.filter (notT task))[(u.filter (notT task)).length]? = some x := by rw [hsp, hcons]; simp
      have e2 : decide (((l.filter (notT task)).length : Int) ≤ ((u.filter (notT task)).length : Int)) = false := by
        rw [hsp, hcons]; simp; omega
      rw [loopS_next (y := ((((u.filter (notT task)).length + 1 : Nat) : Int), ((u.length + 1 : Nat) : Int)))]
      · simpa [e0] using ih
      · simp only [step_law20_QueryParts_1, c0, if_true, natOf_nat, hx, bnd_some, grdEq_self, e1, e2, hg, Bool.false_eq_true, if_false, out_eta, decide_true, Bool.not_true, hw, hwl]
theorem law_QueryParts (l : List Ot) (now task : Int) (hl : (l.length : Int) ≤ maxI) : F_law20_QueryParts l now task = some true := by
  unfold F_law20_QueryParts
  rw [ref20_Few_eq hl, bnd_some, live20]
  cases hf : fewO l with
  | false => rfl
  | true =>
    obtain ⟨f1, f2⟩ := few20_of hf
    simp only [Bool.not_true, Bool.false_eq_true, if_false]
    have h0 := parts0 (l := l) (now := now) (task := task) (v6 := l) (by omega) l [] rfl
    have h1 := parts1 (l := l) (task := task) (at_ := ((lateF now 0 l).length : Int)) (v7 := lateF now 0 l) (by omega) l [] rfl
    simp only [lateF, List.filter_nil, List.length_nil, Int.natCast_zero] at h0 h1
    rw [Own_eq (by omega), bnd_some, Late_eq (by omega), bnd_some, h0, bnd_some]
    simp only
    rw [without_eq (by omega), bnd_some, h1, bnd_some]
    simp only [beq_self_eq_true, if_true, bnd_some]
end Go.Abs
