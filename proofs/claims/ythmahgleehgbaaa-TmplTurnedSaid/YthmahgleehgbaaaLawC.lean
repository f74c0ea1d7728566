/- Part of a proof: a machine of plain data, and what the functions come to on it. -/
import Derived.Test.YthmahgleehgbaaaLawB
import Derived.Test.YthmahgleehgbaaaSnC
import Derived.Test.YthmahgleehgbaaaSxB
set_option linter.unusedSimpArgs false
set_option linter.unusedVariables false
set_option linter.unusedSectionVars false
namespace Go.Abs
open Go
/-- a loop that goes through its states one by one -/
theorem loop_run {σ τ : Type} {step : σ → Option (σ ⊕ τ)} {t : τ} {s : Nat → σ} : ∀ (m : Nat), (∀ i, i < m → step (s i) = some (.inl (s (i + 1)))) → step (s m) = some (.inr t) → loopS step (s 0) = some t := by
  intro m
  suffices h : ∀ k, k ≤ m → (∀ i, i < m → step (s i) = some (.inl (s (i + 1)))) → step (s m) = some (.inr t) → loopS step (s (m - k)) = some t by
    intro h1 h2
    have := h m (Nat.le_refl _) h1 h2
    rwa [Nat.sub_self] at this
  intro k
  induction k with
  | zero => intro _ _ h2; exact loopS_out h2
  | succ k ih =>
    intro hk h1 h2
    rw [loopS_next (h1 (m - (k + 1)) (by omega)), show m - (k + 1) + 1 = m - k by omega]
    exact ih (by omega) h1 h2
theorem take_next {β : Type} {l : List β} {i : Nat} {x : β} (h : l[i]? = some x) : l.take (i + 1) = l.take i ++ [x] := by
  rw [List.take_add_one, h]; rfl
/-- a time -/
def timeS (n : Int) : Bool := inC n 1099511627776
def aliveS (now u : Int) : Bool := timeS now && decide (now < u)
def leftS (now u : Int) : Int := if aliveS now u then (if 604800 < u - now then 604800 else u - now) else 0
theorem age_within_eq (n m : Int) : F_age_within_int n m = some (inC n m) := by
  unfold F_age_within_int inC
  by_cases h : 0 ≤ n <;> simp [h]
theorem age_Live_eq (now u : Int) : F_age_Live now u = some (aliveS now u) := by
  unfold F_age_Live aliveS
  rw [age_within_eq, bnd_some]
  show (if timeS now = true then _ else _) = _
  cases timeS now <;> simp
theorem aliveS_iff {now u : Int} : aliveS now u = true ↔ 0 ≤ now ∧ now ≤ 1099511627776 ∧ now < u := by
  unfold aliveS timeS inC
  simp only [Bool.and_eq_true, decide_eq_true_eq]
  omega
theorem age_Left_eq {now u : Int} (hu : u ≤ maxI) : F_age_Left now u = some (leftS now u) := by
  have hm : maxI = 9223372036854775807 := rfl
  unfold F_age_Left leftS
  rw [age_Live_eq, bnd_some]
  cases h : aliveS now u with
  | false => simp
  | true =>
    have := aliveS_iff.1 h
    rw [wrap_id (by omega) (by omega)]
    simp
theorem leftS_le (now u : Int) : 0 ≤ leftS now u ∧ leftS now u ≤ 604800 := by
  unfold leftS
  split
  · rename_i h
    have := aliveS_iff.1 h
    split <;> omega
  · omega
abbrev Sp := Int × Int × Int
abbrev Pc := List Sp × Int × Bool
abbrev Tt := List UInt8 × Int × Int × Int × List UInt8 × List Pc
def spanC (n : Nat) (s : Sp) : Bool := decide (0 ≤ s.1) && decide (s.1 ≤ s.2.2) && decide (s.2.1 ≤ n) && decide (s.2.2 ≤ s.2.1) && decide (4 ≤ s.2.1 - s.2.2)
theorem spanC_iff {n : Nat} {s : Sp} : spanC n s = true ↔ 0 ≤ s.1 ∧ s.1 ≤ s.2.2 ∧ s.2.1 ≤ n ∧ s.2.2 + 4 ≤ s.2.1 := by
  unfold spanC
  simp only [Bool.and_eq_true, decide_eq_true_eq]
  omega
def pieceC (n : Nat) (p : Pc) : Bool := decide (p.1 ≠ []) && p.1.all (spanC n)
def checkT (t : Tt) : Bool := t.2.2.2.2.2.all (pieceC t.2.2.2.2.1.length)
def okT (t : Tt) : Prop := (t.2.2.2.2.1.length : Int) ≤ maxI ∧ (t.2.2.2.2.2.length : Int) ≤ maxI ∧ ∀ p ∈ t.2.2.2.2.2, (p.1.length : Int) ≤ maxI
theorem len0 (n : Nat) : ((n : Int) == 0) = decide (n = 0) := by
  rw [Bool.eq_iff_iff]; simp
theorem spans_loop {t : Tt} {x : Pc} (h1 : (t.2.2.2.2.1.length : Int) ≤ maxI) (h2 : (x.1.length : Int) ≤ maxI) (z : Int) : ∃ r, loopS (step_tmpl_Template_Check_1 t z x) 0 = some r ∧ (if x.1.all (spanC t.2.2.2.2.1.length) = true then r = .inr () else ∃ i : Nat, r = .inl false) := by
  have hm : maxI = 9223372036854775807 := rfl
  refine all_loop (bad := fun _ => false) x.1 ?_ (fun i s hs => ?_)
  · simp only [step_tmpl_Template_Check_1, grdEq_self]
    rw [if_neg (by simp)]
  · have hi := (List.getElem?_eq_some_iff.1 hs).1
    simp only [step_tmpl_Template_Check_1, natOf_nat, hs, bnd_some, grdEq_self]
    rw [if_pos (by simp; omega), wrap_id (x := (i : Int) + 1) (by omega) (by omega)]
    by_cases c1 : 0 ≤ s.1
    · by_cases c2 : s.1 ≤ s.2.2
      · by_cases c3 : s.2.1 ≤ t.2.2.2.2.1.length
        · by_cases c4 : s.2.2 ≤ s.2.1
          · rw [wrap_id (x := s.2.1 - s.2.2) (by omega) (by omega)]
            by_cases c5 : 4 ≤ s.2.1 - s.2.2 <;> simp [spanC, c1, c2, c3, c4, c5]
          · simp [spanC, c1, c2, c3, c4]
        · simp [spanC, c1, c2, c3]
      · simp [spanC, c1, c2]
    · simp [spanC, c1]
theorem tmpl_Check_eq {t : Tt} (h : okT t) : F_tmpl_Template_Check t = some (checkT t) := by
  have hm : maxI = 9223372036854775807 := rfl
  obtain ⟨h1, h2, h3⟩ := h
  unfold F_tmpl_Template_Check checkT
  obtain ⟨r, r1, r2⟩ := all_loop (ok := pieceC t.2.2.2.2.1.length) (bad := fun _ => false) (step := step_tmpl_Template_Check_0 t) t.2.2.2.2.2 (by
    simp only [step_tmpl_Template_Check_0, grdEq_self]
    rw [if_neg (by simp)]) (fun i x hx => by
    have hi := (List.getElem?_eq_some_iff.1 hx).1
    have hp := h3 x (List.mem_of_getElem? hx)
    simp only [step_tmpl_Template_Check_0, natOf_nat, hx, bnd_some, grdEq_self]
    rw [if_pos (by simp; omega), wrap_id (x := (i : Int) + 1) (by omega) (by omega)]
    obtain ⟨q, q1, q2⟩ := spans_loop (t := t) (x := x) h1 hp (i : Int)
    rw [len0]
    unfold pieceC
    by_cases c : x.1 = []
    · simp [c]
    · have c' : ¬ x.1.length = 0 := by simpa using c
      simp only [c, c', decide_false, Bool.false_eq_true, if_false, q1, bnd_some, ne_eq, not_false_eq_true, decide_true, Bool.true_and]
      by_cases hq : x.1.all (spanC t.2.2.2.2.1.length) = true
      · rw [if_pos hq] at q2
        subst q2
        simp only [hq, if_true]; rfl
      · rw [if_neg hq] at q2
        obtain ⟨_, rfl⟩ := q2
        rw [if_neg hq])
  rw [r1, bnd_some]
  by_cases h : t.2.2.2.2.2.all (pieceC t.2.2.2.2.1.length) = true
  · rw [if_pos h] at r2; subst r2; simp only [h]
  · rw [if_neg h] at r2; obtain ⟨_, rfl⟩ := r2
    simp only [Bool.not_eq_true] at h
    simp only [h]
end Go.Abs

namespace Go.Abs
open Go
/-- from a place on, and then what is ahead of it -/
def rot {β : Type} (l : List β) (a : Nat) : List β := l.drop a ++ l.take a
theorem rot_len {β : Type} (l : List β) (a : Nat) : (rot l a).length = l.length := by simp [rot]; omega
theorem rot_get {β : Type} {l : List β} {a k : Nat} (ha : a < l.length) (hk : k < l.length) : (rot l a)[k]? = l[(a + k) % l.length]? := by
  unfold rot
  by_cases h : a + k < l.length
  · rw [Nat.mod_eq_of_lt h, List.getElem?_append_left (by simp; omega), List.getElem?_drop]
  · have e : (a + k) % l.length = a + k - l.length := by
      rw [Nat.mod_eq_sub_mod (by omega), Nat.mod_eq_of_lt (by omega)]
    rw [e, List.getElem?_append_right (by simp; omega), List.getElem?_take]
    simp only [List.length_drop]
    rw [if_pos (by omega)]
    congr 1
    omega
theorem rot_mem {β : Type} {l : List β} {a : Nat} {x : β} (h : x ∈ rot l a) : x ∈ l := by
  unfold rot at h
  rcases List.mem_append.1 h with h | h
  · exact List.mem_of_mem_drop h
  · exact List.mem_of_mem_take h
theorem rot_perm {β : Type} (l : List β) (a : Nat) : (rot l a).Perm l := by
  have := List.perm_append_comm (l₁ := l.drop a) (l₂ := l.take a)
  rw [List.take_append_drop] at this
  exact this
theorem at_eq {turn : Int} {n : Nat} (h : 0 ≤ turn) (hn : 0 < n) : turn.tmod (n : Int) = ((turn.toNat % n : Nat) : Int) := by
  obtain ⟨m, rfl⟩ := Int.eq_ofNat_of_zero_le h
  rw [Int.tmod_eq_emod_of_nonneg (by omega)]
  rfl
def seg (s : List UInt8) (a b : Nat) : List UInt8 := List.drop a (List.take b s)
theorem seg_len {s : List UInt8} {a b : Nat} (h2 : b ≤ s.length) : (seg s a b).length = b - a := by
  unfold seg; simp; omega
theorem flat_len {β : Type} {g : β → List UInt8} {b : Nat} : ∀ (l : List β), (∀ x ∈ l, (g x).length ≤ b) → (l.flatMap g).length ≤ b * l.length
  | [], _ => by simp
  | x :: l, h => by
    have h1 := h x (by simp)
    have h2 := flat_len l (fun y hy => h y (by simp [hy]))
    rw [List.flatMap_cons, List.length_append, List.length_cons, Nat.mul_succ]
    omega
/-- what a record is, with another time -/
def spanB (text left : List UInt8) (s : Sp) : List UInt8 := seg text s.1.toNat s.2.2.toNat ++ left ++ seg text (s.2.2.toNat + 4) s.2.1.toNat
def partT (t : Tt) (now turn : Int) (p : Pc) : List UInt8 :=
  (rot p.1 (if p.2.2 then 0 else turn.toNat % p.1.length)).flatMap (spanB t.2.2.2.2.1 (put4 (leftS now p.2.1)))
def partS (t : Tt) (i now turn : Int) : List UInt8 :=
  if checkT t = false ∨ i < 0 ∨ turn < 0 then [] else
  match t.2.2.2.2.2[i.toNat]? with
  | none => []
  | some p => if aliveS now p.2.1 then partT t now turn p else []
/-- has a template little? -/
def fewT (t : Tt) : Prop := t.2.2.2.2.1.length ≤ 2000000 ∧ t.2.2.2.2.2.length ≤ 1000 ∧ (∀ p ∈ t.2.2.2.2.2, p.1.length ≤ 1000 ∧ p.2.1 ≤ maxI)
theorem okT_of {t : Tt} (h : fewT t) : okT t := by
  have hm : maxI = 9223372036854775807 := rfl
  obtain ⟨h1, h2, h3⟩ := h
  exact ⟨by omega, by omega, fun p hp => by have := (h3 p hp).1; omega⟩
theorem put4_len (n : Int) : (put4 n).length = 4 := rfl
theorem spanB_len {text left : List UInt8} {s : Sp} (hl : left.length = 4) (h : spanC text.length s = true) : (spanB text left s).length = s.2.1.toNat - s.1.toNat := by
  have := spanC_iff.1 h
  unfold spanB
  rw [List.length_append, List.length_append, seg_len (by omega), seg_len (by omega)]
  omega
theorem pieceC_iff {n : Nat} {p : Pc} (h : pieceC n p = true) : 0 < p.1.length ∧ ∀ s ∈ p.1, spanC n s = true := by
  unfold pieceC at h
  simp only [Bool.and_eq_true, decide_eq_true_eq, List.all_eq_true] at h
  exact ⟨List.length_pos_iff.2 h.1, h.2⟩
theorem ints_seg (s : List UInt8) (a b : Nat) : List.map (fun b : UInt8 => (b.toNat : Int)) (List.drop a (List.take b s)) = ints (seg s a b) := rfl
theorem ints_map (s : List UInt8) : List.map (fun b : UInt8 => (b.toNat : Int)) s = ints s := rfl
theorem ints_length (s : List UInt8) : (ints s).length = s.length := by simp [ints]
theorem ints_bound (s : List UInt8) : ∀ n : (Ty.int Go.IntKind.u8).den, n ∈ ints s → 0 ≤ n ∧ n < 256 := by
  intro n hn
  obtain ⟨b, _, rfl⟩ := List.mem_map.1 hn
  have := b.toNat_lt
  exact ⟨Int.natCast_nonneg _, Int.ofNat_lt.2 this⟩
theorem ints_back (s : List UInt8) : List.map (fun n : Int => UInt8.ofNat (Int.toNat n)) (ints s) = s := by
  unfold ints
  rw [List.map_map]
  conv => rhs; rw [← List.map_id s]
  apply List.map_congr_left
  intro b _
  simp
/-- of a piece that may be: the loop of the program -/
theorem part_loop {t : Tt} {x : Pc} (hf : fewT t) (hx : x ∈ t.2.2.2.2.2) (hc : pieceC t.2.2.2.2.1.length x = true) {a : Nat} (ha : a < x.1.length) {left : List UInt8} (hl : left.length = 4) :
    loopS (step_tmpl_Template_Part_0 t x (a : Int) left) (0, []) = some (ints ((rot x.1 a).flatMap (spanB t.2.2.2.2.1 left))) := by
  have hm : maxI = 9223372036854775807 := rfl
  obtain ⟨f1, f2, f3⟩ := hf
  obtain ⟨g1, g2⟩ := f3 x hx
  obtain ⟨c1, c2⟩ := pieceC_iff hc
  have hb : ∀ i, (((rot x.1 a).take i).flatMap (spanB t.2.2.2.2.1 left)).length ≤ 2000000000 := by
    intro i
    have := flat_len (g := spanB t.2.2.2.2.1 left) (b := 2000000) ((rot x.1 a).take i) (fun s hs => by
      have hs' := c2 s (rot_mem (List.mem_of_mem_take hs))
      rw [spanB_len hl hs']
      have := spanC_iff.1 hs'
      omega)
    have h2 : ((rot x.1 a).take i).length ≤ 1000 := by rw [List.length_take, rot_len]; omega
    have := Nat.mul_le_mul_left 2000000 h2
    omega
  have := loop_run (step := step_tmpl_Template_Part_0 t x (a : Int) left) (t := ints ((rot x.1 a).flatMap (spanB t.2.2.2.2.1 left))) (s := fun i => ((i : Int), ints (((rot x.1 a).take i).flatMap (spanB t.2.2.2.2.1 left)))) x.1.length (fun i hi => by
    have hb1 := hb i
    have hb2 := hb (i + 1)
    obtain ⟨s, hs⟩ : ∃ s, (rot x.1 a)[i]? = some s := ⟨(rot x.1 a)[i]'(by rw [rot_len]; exact hi), by simp⟩
    have hs2 := hs
    rw [rot_get ha hi] at hs2
    have hsc := c2 s (List.mem_of_getElem? hs2)
    have hsi := spanC_iff.1 hsc
    have htk : ((rot x.1 a).take (i + 1)).flatMap (spanB t.2.2.2.2.1 left) = ((rot x.1 a).take i).flatMap (spanB t.2.2.2.2.1 left) ++ spanB t.2.2.2.2.1 left s := by
      rw [take_next hs, List.flatMap_append]; simp
    rw [htk] at hb2 ⊢
    have hsl := spanB_len (left := left) hl hsc
    have hmod : ((a : Int) + (i : Int)).tmod (x.1.length : Int) = (((a + i) % x.1.length : Nat) : Int) := by
      rw [Int.tmod_eq_emod_of_nonneg (by omega)]; rfl
    simp only [step_tmpl_Template_Part_0, grdEq_self]
    rw [if_pos (by simp; omega), if_neg (by omega), wrap_id (x := (a : Int) + (i : Int)) (by omega) (by omega), hmod, natOf_nat, hs2, bnd_some]
    rw [show s.2.2 = ((s.2.2.toNat : Nat) : Int) by omega, natOf_nat, grdp (by omega)]
    rw [show s.1 = ((s.1.toNat : Nat) : Int) by omega, natOf_nat, grdp (by omega)]
    simp only [ints_seg, ints_map]
    have l1 : (seg t.2.2.2.2.1 s.1.toNat s.2.2.toNat).length ≤ 2000000 := by rw [seg_len (by omega)]; omega
    have l0 : (ints (List.drop s.1.toNat (List.take s.2.2.toNat t.2.2.2.2.1))).length ≤ 2000000 := by rw [ints_length]; exact l1
    refine Eq.trans (grdp (by simp only [List.length_append, ints_length] at l0 ⊢; unfold roomLim; omega)) ?_
    refine Eq.trans (grdp (by simp only [List.length_append, ints_length] at l0 ⊢; unfold roomLim; omega)) ?_
    rw [show s.2.1 = ((s.2.1.toNat : Nat) : Int) by omega, natOf_nat, grdp (by omega)]
    rw [wrap_id (x := ((s.2.2.toNat : Nat) : Int) + 4) (by omega) (by omega), show ((s.2.2.toNat : Nat) : Int) + 4 = ((s.2.2.toNat + 4 : Nat) : Int) by omega, natOf_nat, grdp (by omega)]
    have l2 : (seg t.2.2.2.2.1 (s.2.2.toNat + 4) s.2.1.toNat).length ≤ 2000000 := by rw [seg_len (by omega)]; omega
    have l3 : (ints (List.drop (s.2.2.toNat + 4) (List.take s.2.1.toNat t.2.2.2.2.1))).length ≤ 2000000 := by rw [ints_length]; exact l2
    refine Eq.trans (grdp (by simp only [List.length_append, ints_length] at l0 l3 ⊢; unfold roomLim; omega)) ?_
    rw [wrap_id (x := (i : Int) + 1) (by omega) (by omega)]
    simp only [spanB, ints_app, List.append_assoc]
    rfl) (by
    simp only [step_tmpl_Template_Part_0, grdEq_self]
    rw [if_neg (by simp), List.take_of_length_le (by rw [rot_len]; exact Nat.le_refl _)])
  simpa [ints] using this
theorem tmpl_Part_eq {t : Tt} (hf : fewT t) (i now turn : Int) : F_tmpl_Template_Part t i now turn = some (partS t i now turn) := by
  have hm : maxI = 9223372036854775807 := rfl
  unfold F_tmpl_Template_Part partS
  have e : F_tmpl_Template_Check (t.fst, t.snd.fst, t.snd.snd.fst, t.snd.snd.snd.fst, t.snd.snd.snd.snd.fst, t.snd.snd.snd.snd.snd) = some (checkT t) := tmpl_Check_eq (okT_of hf)
  simp only [e, bnd_some, grdEq_self]
  by_cases c1 : i < 0
  · simp [c1]; rfl
  · by_cases c2 : (t.2.2.2.2.2.length : Int) ≤ i
    · have : t.2.2.2.2.2[i.toNat]? = none := List.getElem?_eq_none (by omega)
      simp only [c1, c2, this, decide_true, decide_false, Bool.true_eq_false, if_true, if_false, bnd_some]
      simp
    · by_cases c3 : turn < 0
      · simp only [c1, c2, c3, decide_true, decide_false, Bool.true_eq_false, if_true, if_false, bnd_some]
        simp
      · cases c4 : checkT t with
        | false =>
          simp only [c1, c2, c3, decide_true, decide_false, Bool.true_eq_false, if_true, if_false, bnd_some, Bool.not_false]
          simp
        | true =>
          simp only [c1, c2, c3, decide_true, decide_false, Bool.true_eq_false, Bool.false_eq_true, if_true, if_false, bnd_some, Bool.not_true]
          obtain ⟨x, hx⟩ : ∃ x, t.2.2.2.2.2[i.toNat]? = some x := ⟨t.2.2.2.2.2[i.toNat]'(by omega), by simp⟩
          have hmem := List.mem_of_getElem? hx
          obtain ⟨g1, g2⟩ := hf.2.2 x hmem
          have hpc : pieceC t.2.2.2.2.1.length x = true := by
            unfold checkT at c4
            exact List.all_eq_true.1 c4 x hmem
          obtain ⟨p1, p2⟩ := pieceC_iff hpc
          rw [show i = ((i.toNat : Nat) : Int) by omega, natOf_nat]
          simp only [Int.toNat_natCast, hx, bnd_some, age_Live_eq]
          simp only [or_self, if_false]
          cases c5 : aliveS now x.2.1 with
          | false => simp
          | true =>
            simp only [Bool.not_true, Bool.false_eq_true, if_false, if_true]
            rw [if_neg (show ¬ ((x.fst.length : Nat) : Int) = 0 by omega)]
            have hat : (if x.2.2 = true then some (0 : Int) else some (turn.tmod (x.1.length : Int))) = some (((if x.2.2 then 0 else turn.toNat % x.1.length : Nat) : Nat) : Int) := by
              cases x.2.2
              · simp [at_eq (show 0 ≤ turn by omega) p1]
              · simp
            have ha : (if x.2.2 then 0 else turn.toNat % x.1.length : Nat) < x.1.length := by
              split
              · exact p1
              · exact Nat.mod_lt _ p1
            have hle := leftS_le now x.2.1
            rw [hat, bnd_some, age_Left_eq g2, bnd_some, octet_put4 hle.1 (by omega), bnd_some, part_loop hf hmem hpc ha (put4_len _), bnd_some]
            have hlen : ((rot x.1 (if x.2.2 then 0 else turn.toNat % x.1.length)).flatMap (spanB t.2.2.2.2.1 (put4 (leftS now x.2.1)))).length ≤ 2000000 * x.1.length := by
              have := flat_len (g := spanB t.2.2.2.2.1 (put4 (leftS now x.2.1))) (b := 2000000) (rot x.1 (if x.2.2 then 0 else turn.toNat % x.1.length)) (fun s hs => by
                have hs' := p2 s (rot_mem hs)
                rw [spanB_len (put4_len _) hs']
                have := spanC_iff.1 hs'
                have := hf.1
                omega)
              rwa [rot_len] at this
            have hl2 := Nat.mul_le_mul_left 2000000 g1
            rw [grdp (by rw [ints_length]; omega), grdp (ints_bound _), ints_back]
            rfl
end Go.Abs

namespace Go.Abs
open Go
theorem map_set {α : Type} {l : List α} {f : α → α} {i : Nat} {x : α} (h : l[i]? = some x) : ((l.take i).map f ++ l.drop i).set i (f x) = (l.take (i + 1)).map f ++ l.drop (i + 1) := by
  have hi := (List.getElem?_eq_some_iff.1 h).1
  have e : l.drop i = x :: l.drop (i + 1) := by
    rw [List.drop_eq_getElem_cons hi]
    congr 1
    have := List.getElem?_eq_getElem hi
    rw [h] at this
    exact (Option.some.inj this).symm
  rw [e, take_next h, List.set_append_right _ _ (by rw [List.length_map, List.length_take]; omega), List.map_append]
  simp [Nat.min_eq_left (Nat.le_of_lt hi)]
end Go.Abs

namespace Go.Abs
open Go
end Go.Abs

namespace Go.Abs
open Go
end Go.Abs

namespace Go.Abs
open Go
abbrev TP := List UInt8 × List Pc
end Go.Abs

namespace Go.Abs
open Go
theorem live18 : F_law18_live = some true := by kernel_rfl
end Go.Abs

namespace Go.Abs
open Go
end Go.Abs

namespace Go.Abs
open Go
def covW : Int → List Sp → Int → Prop
  | a, [], b => a = b
  | a, s :: l, b => s.1 = a ∧ 0 ≤ s.1 ∧ s.1 ≤ 4000000 ∧ s.1 ≤ s.2.1 ∧ s.1 + 5 ≤ s.2.2 ∧ covW s.2.1 l b
def covP : Int → List Pc → Int → Prop
  | a, [], b => a = b
  | a, p :: l, b => ∃ m, covW a p.1 m ∧ covP m l b
/-- of pieces that were made -/
structure Made (t : TP) (n : Nat) : Prop where
  cov : covP 0 t.2 (t.1.length : Int)
  len : t.1.length ≤ 136020 * n
  num : t.2.length = n
  few : ∀ p ∈ t.2, p.1.length ≤ 60
end Go.Abs

namespace Go.Abs
open Go
end Go.Abs

namespace Go.Abs
open Go
/-- pieces that fit their text -/
structure Fit (t : TP) : Prop where
  ok : ∀ p ∈ t.2, pieceC t.1.length p = true
  till : ∀ p ∈ t.2, p.2.1 ≤ 4000000000000
theorem partS_at {t : Tt} {i : Nat} {now turn : Int} {p : Pc} (hc : checkT t = true) (ht : 0 ≤ turn) (hp : t.2.2.2.2.2[i]? = some p) : partS t (i : Int) now turn = if aliveS now p.2.1 then partT t now turn p else [] := by
  unfold partS
  rw [if_neg (by rw [hc]; simp; omega), Int.toNat_natCast, hp]
end Go.Abs

namespace Go.Abs
open Go
def smallT (t : Tt) : Bool := t.2.2.2.2.2.all (fun p => decide (p.1.length ≤ 60) && decide (t.2.2.2.2.2.length ≤ 20)) && decide (t.2.2.2.2.1.length ≤ 20000) && decide (t.1.length ≤ 300)
def okTT (t : Tt) : Prop := (t.2.2.2.2.2.length : Int) ≤ maxI ∧ ∀ p ∈ t.2.2.2.2.2, (p.1.length : Int) ≤ maxI ∧ p.2.1 ≤ maxI
theorem ref18_Small_eq {t : Tt} (h : okTT t) : F_ref18_Small t = some (smallT t) := by
  have hm : maxI = 9223372036854775807 := rfl
  obtain ⟨h1, h2⟩ := h
  unfold F_ref18_Small smallT
  obtain ⟨r, r1, r2⟩ := all_loop (ok := fun p : Pc => decide (p.1.length ≤ 60) && decide (t.2.2.2.2.2.length ≤ 20)) (bad := fun _ => false) (step := step_ref18_Small_0 t) t.2.2.2.2.2 (by
    simp only [step_ref18_Small_0, grdEq_self]
    rw [if_neg (by simp)]) (fun i x hx => by
    have hi := (List.getElem?_eq_some_iff.1 hx).1
    simp only [step_ref18_Small_0, natOf_nat, hx, bnd_some, grdEq_self]
    rw [if_pos (by simp; omega), wrap_id (by omega) (by omega)]
    by_cases g1 : x.1.length ≤ 60
    · have e1 : ¬ (60 : Int) < (x.1.length : Int) := by omega
      by_cases g2 : t.2.2.2.2.2.length ≤ 20
      · have e2 : ¬ (20 : Int) < (t.2.2.2.2.2.length : Int) := by omega
        simp [g1, g2, e1, e2]
      · have e2 : (20 : Int) < (t.2.2.2.2.2.length : Int) := by omega
        simp [g1, g2, e1, e2]
    · have e1 : (60 : Int) < (x.1.length : Int) := by omega
      simp [g1, e1])
  rw [r1, bnd_some]
  have e1 : decide ((t.2.2.2.2.1.length : Int) ≤ 20000) = decide (t.2.2.2.2.1.length ≤ 20000) := by rw [Bool.eq_iff_iff]; simp; omega
  have e2 : decide ((t.1.length : Int) ≤ 300) = decide (t.1.length ≤ 300) := by rw [Bool.eq_iff_iff]; simp; omega
  by_cases h : t.2.2.2.2.2.all (fun p : Pc => decide (p.1.length ≤ 60) && decide (t.2.2.2.2.2.length ≤ 20)) = true
  · rw [if_pos h] at r2; subst r2
    simp only [h, e1, e2, Bool.true_and]
    cases decide (t.2.2.2.2.1.length ≤ 20000) <;> simp
  · rw [if_neg h] at r2; obtain ⟨_, rfl⟩ := r2
    simp only [Bool.not_eq_true] at h
    simp only [h, Bool.false_and]
theorem smallT_few {t : Tt} (h : okTT t) (hs : smallT t = true) : fewT t ∧ t.2.2.2.2.2.length ≤ 20 ∧ ∀ p ∈ t.2.2.2.2.2, p.1.length ≤ 60 := by
  unfold smallT at hs
  simp only [Bool.and_eq_true, List.all_eq_true, decide_eq_true_eq] at hs
  obtain ⟨⟨h1, h2⟩, h3⟩ := hs
  have hn : t.2.2.2.2.2.length ≤ 20 := by
    cases hd : t.2.2.2.2.2 with
    | nil => simp
    | cons x l => rw [← hd]; exact (h1 x (by rw [hd]; simp)).2
  exact ⟨⟨by omega, by omega, fun p hp => ⟨by have := (h1 p hp).1; omega, (h.2 p hp).2⟩⟩, hn, fun p hp => (h1 p hp).1⟩
theorem own_loop {t : Tt} {i : Nat} {p x5 x7 : Pc} {ps : List Pc} (hp : t.2.2.2.2.2[i]? = some p) (hl : p.1.length ≤ 60) : loopS (step_law18_Own_1 t (i : Int) x5 x7) (0, (ps, [])) = some (ps, p.1) := by
  have := loop_run (step := step_law18_Own_1 t (i : Int) x5 x7) (t := (ps, p.1)) (s := fun k => ((k : Int), (ps, p.1.take k))) p.1.length (fun k hk => by
    obtain ⟨x, hx⟩ : ∃ x, p.1[k]? = some x := ⟨p.1[k], by simp [hk]⟩
    simp only [step_law18_Own_1, grdEq_self, natOf_nat, hp, bnd_some, hx]
    rw [if_pos (by simp; omega), grdp (by unfold roomLim; simp; omega), wrap_id (by omega) (by omega), take_next hx]
    rfl) (by
    simp only [step_law18_Own_1, grdEq_self, natOf_nat, hp, bnd_some]
    rw [if_neg (by simp)]
    simp)
  simpa using this
theorem own_eq {t : Tt} (hn : t.2.2.2.2.2.length ≤ 20) (hl : ∀ p ∈ t.2.2.2.2.2, p.1.length ≤ 60) : F_law18_Own t = some t := by
  unfold F_law18_Own
  have := loop_run (step := step_law18_Own_0 t) (t := t.2.2.2.2.2) (s := fun i => ((i : Int), t.2.2.2.2.2.take i)) t.2.2.2.2.2.length (fun i hi => by
    obtain ⟨x, hx⟩ : ∃ x, t.2.2.2.2.2[i]? = some x := ⟨t.2.2.2.2.2[i], by simp [hi]⟩
    simp only [step_law18_Own_0, grdEq_self, natOf_nat, hx, bnd_some]
    rw [if_pos (by simp; omega), own_loop hx (hl x (List.mem_of_getElem? hx)), bnd_some]
    simp only
    rw [grdp (by unfold roomLim; simp; omega), wrap_id (by omega) (by omega), take_next hx]
    rfl) (by
    simp only [step_law18_Own_0, grdEq_self]
    rw [if_neg (by simp)]
    simp)
  simp only [List.take_zero, Int.natCast_zero] at this
  rw [this, bnd_some]
theorem partT_turn {t : Tt} {now turn : Int} {p : Pc} (h0 : 0 ≤ turn) : partT t now (turn + p.1.length) p = partT t now turn p := by
  unfold partT
  have : (turn + (p.1.length : Int)).toNat % p.1.length = turn.toNat % p.1.length := by
    rw [show (turn + (p.1.length : Int)).toNat = turn.toNat + p.1.length by omega, Nat.add_mod_right]
  rw [this]
theorem perm_flat {β : Type} {f : β → List UInt8} {l m : List β} (h : l.Perm m) : (l.flatMap f).length = (m.flatMap f).length := by
  induction h with
  | nil => rfl
  | cons x _ ih => rw [List.flatMap_cons, List.flatMap_cons, List.length_append, List.length_append, ih]
  | swap x y l => simp only [List.flatMap_cons, List.length_append]; omega
  | trans _ _ h1 h2 => exact h1.trans h2
theorem partT_len0 {t : Tt} {now turn turn2 : Int} {p : Pc} : (partT t now turn p).length = (partT t now turn2 p).length := by
  unfold partT
  exact perm_flat ((rot_perm _ _).trans (rot_perm _ _).symm)
theorem law_TmplTurned (t : Tt) (i : Int) (at_ : Int × Int) (hk : okTT t) : F_law18_TmplTurned t i at_ = some true := by
  have hm : maxI = 9223372036854775807 := rfl
  unfold F_law18_TmplTurned
  have e1 : F_ref18_Small (t.fst, t.snd.fst, t.snd.snd.fst, t.snd.snd.snd.fst, t.snd.snd.snd.snd.fst, t.snd.snd.snd.snd.snd) = some (smallT t) := ref18_Small_eq hk
  rw [e1, live18]
  simp only [bnd_some, grdEq_self]
  cases hs : smallT t with
  | false => simp [bnd_some]
  | true =>
    obtain ⟨hf, hn, hl⟩ := smallT_few hk hs
    have e2 : F_law18_Own (t.fst, t.snd.fst, t.snd.snd.fst, t.snd.snd.snd.fst, t.snd.snd.snd.snd.fst, t.snd.snd.snd.snd.snd) = some t := own_eq hn hl
    have e7 : ∀ a b : Int, F_tmpl_Template_Part (t.fst, t.snd.fst, t.snd.snd.fst, t.snd.snd.snd.fst, t.snd.snd.snd.snd.fst, t.snd.snd.snd.snd.snd) i a b = some (partS t i a b) := fun a b => tmpl_Part_eq hf _ _ _
    by_cases c1 : i < 0
    · simp [c1, bnd_some]
    · by_cases c2 : (t.2.2.2.2.2.length : Int) ≤ i
      · simp [c1, c2, bnd_some]
      · by_cases c3 : at_.2 < 0
        · simp [c1, c2, c3, bnd_some]
        · by_cases c4 : 1099511627776 < at_.2
          · simp [c1, c2, c3, c4, bnd_some]
          · simp only [c1, c2, c3, c4, decide_false, Bool.not_true, Bool.false_eq_true, if_true, if_false, bnd_some, e2, e7]
            obtain ⟨x, hx⟩ : ∃ x, t.2.2.2.2.2[i.toNat]? = some x := ⟨t.2.2.2.2.2[i.toNat]'(by omega), by simp⟩
            have hxl := hl x (List.mem_of_getElem? hx)
            rw [natOf_pos (by omega), hx]
            simp only [bnd_some]
            rw [wrap_id (x := at_.2 + (x.1.length : Int)) (by omega) (by omega)]
            have hi : i = ((i.toNat : Nat) : Int) := by omega
            cases hc : checkT t with
            | false =>
              have : ∀ a b : Int, partS t i a b = [] := fun a b => by unfold partS; rw [if_pos (.inl hc)]
              simp only [this]
              rfl
            | true =>
              rw [hi, partS_at hc (by omega) hx, partS_at hc (by omega) hx, partS_at hc (by omega) hx]
              cases aliveS at_.1 x.2.1 with
              | false => rfl
              | true =>
                simp only [if_true]
                rw [partT_turn (by omega), partT_len0 (turn := at_.2) (turn2 := 0)]
                simp
@[reducible] def tTt : Ty := (.agg (.cons .str (.cons (.int .i64) (.cons (.int .i64) (.cons (.int .i64) (.cons .str (.list (.agg (.cons (.list (.agg (.cons (.int .i64) (.cons (.int .i64) (.int .i64))))) (.cons (.int .i64) .bool))))))))))
theorem okTT_of {t : Tt} (w : wfd tTt t) : okTT t := by
  have hl : maxLen = 9223372036854775807 := rfl
  have hm : maxI = 9223372036854775807 := rfl
  obtain ⟨_, _, _, _, _, w1, w2⟩ := w
  rw [hl] at w1
  refine ⟨by omega, fun p hp => ?_⟩
  obtain ⟨⟨w3, _⟩, w4, _⟩ := w2 p hp
  rw [hl] at w3
  have hi : p.2.1 ≤ IntKind.i64.max := w4.2
  have hx : IntKind.i64.max = 9223372036854775807 := rfl
  omega
end Go.Abs
