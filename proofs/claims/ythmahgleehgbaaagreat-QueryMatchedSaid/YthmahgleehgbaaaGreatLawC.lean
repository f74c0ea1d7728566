/- Part of a proof: a machine of plain data, and what the functions come to on it. -/
import Derived.Test.YthmahgleehgbaaaGreatLawB
import Derived.Test.YthmahgleehgbaaaGreatSxB
set_option linter.unusedSimpArgs false
set_option linter.unusedVariables false
set_option linter.unusedSectionVars false
namespace Go.Abs
open Go
theorem live20 : F_law20_live = some true := by kernel_rfl
end Go.Abs

namespace Go.Abs
open Go
/-- a loop that goes through its states one by one -/
theorem loop_run {σ τ : Type} {step : σ → Option (σ ⊕ τ)} {t : τ} {s : Nat → σ} : ∀ (m : Nat), (∀ i, i < m → step (s i) = some (.inl (s (i + 1)))) → step (s m) = some (.inr t) → loopS step (s 0) = some t := by
  intro m
  suffices h : ∀ k, k ≤ m → (∀ i, i < m → step (s i) = some (.inl (s (i + 1)))) → step (s m) = some (.inr t) → loopS step (s (m - k)) = some t by
    intro h1 h2
    have := h m (Nat.le_refl _) h1 h2
    rwa [Nat.sub_self] at this
  intro k
  induction k with
  | zero => intro _ _ h2; exact loopS_out h2
  | succ k ih =>
    intro hk h1 h2
    rw [loopS_next (h1 (m - (k + 1)) (by omega)), show m - (k + 1) + 1 = m - k by omega]
    exact ih (by omega) h1 h2
/-- the first that is told, or the end -/
def scanF {β τ : Type} (f : Nat → β → Option τ) (e : τ) : Nat → List β → τ
  | _, [] => e
  | i, x :: l => match f i x with
    | some t => t
    | none => scanF f e (i + 1) l
theorem loop_scan {β τ : Type} {l : List β} {step : Int → Option (Int ⊕ τ)} (f : Nat → β → Option τ) (e : τ)
    (hs : ∀ (i : Nat) x, l[i]? = some x → step (i : Int) = some (match f i x with | some t => .inr t | none => .inl ((i + 1 : Nat) : Int))) (he : step (l.length : Int) = some (.inr e)) : loopS step 0 = some (scanF f e 0 l) := by
  suffices h : ∀ (v u : List β), l = u ++ v → loopS step (u.length : Int) = some (scanF f e u.length v) from h l [] rfl
  intro v
  induction v with
  | nil =>
    intro u hu
    rw [List.append_nil] at hu
    subst hu
    exact loopS_out he
  | cons x v ih =>
    intro u hu
    have hx := hs u.length x (by rw [hu]; simp)
    unfold scanF
    cases hf : f u.length x with
    | some t => rw [hf] at hx; exact loopS_out hx
    | none =>
      rw [hf] at hx
      rw [loopS_next hx]
      have := ih (u ++ [x]) (by rw [hu]; simp)
      simpa using this
abbrev Ot := Int × Int × List UInt8 × List UInt8 × Int × Int × Int × Int
/-- what is asked -/
def qO (o : Ot) : Qt := (o.2.2.2.1, o.2.2.2.2.1, o.2.2.2.2.2.1)
def okO (o : Ot) : Bool := (decide (o.2.2.1.length = 4) || decide (o.2.2.1.length = 16)) && inC o.1 65535 && inC o.2.1 65535 && okQ (qO o)
theorem lenI (n k : Nat) : ((n : Int) == (k : Int)) = decide (n = k) := by
  rw [Bool.eq_iff_iff]; simp; omega
theorem query_in_eq (n : Int) : F_query_in n = some (inC n 65535) := by
  unfold F_query_in inC
  by_cases h : 0 ≤ n <;> simp [h]
theorem query_Out_Check_eq {o : Ot} (hn : (o.2.2.2.1.length : Int) ≤ maxI) : F_query_Out_Check o = some (okO o) := by
  unfold F_query_Out_Check okO okQ qO
  simp only [query_in_eq, name_Check_eq hn, bnd_some, grdEq_self]
  rw [show ((o.snd.snd.fst.length : Int) == 4) = decide (o.snd.snd.fst.length = 4) from lenI _ 4, show ((o.snd.snd.fst.length : Int) == 16) = decide (o.snd.snd.fst.length = 16) from lenI _ 16]
  cases decide (o.snd.snd.fst.length = 4) <;> cases decide (o.snd.snd.fst.length = 16) <;> cases inC o.fst 65535 <;> cases inC o.snd.fst 65535 <;> cases nameS o.snd.snd.snd.fst <;> cases inC o.snd.snd.snd.snd.fst 65535 <;> rfl
theorem okO_iff {o : Ot} (h : okO o = true) : (o.2.2.1.length = 4 ∨ o.2.2.1.length = 16) ∧ (0 ≤ o.1 ∧ o.1 ≤ 65535) ∧ (0 ≤ o.2.1 ∧ o.2.1 ≤ 65535) ∧ okQ (qO o) = true := by
  unfold okO inC at h
  simp only [Bool.and_eq_true, Bool.or_eq_true, decide_eq_true_eq] at h
  exact ⟨h.1.1.1, h.1.1.2, h.1.2, h.2⟩
end Go.Abs

namespace Go.Abs
open Go
theorem and_mask (n k : Nat) (hn : n < 9223372036854775808) (hk : k < 60) : Go.bits .and .i64 (n : Int) ((2 ^ k - 1 : Nat) : Int) = ((n % 2 ^ k : Nat) : Int) := by
  have hp : 2 ^ k < 2 ^ 63 := Nat.pow_lt_pow_right (by omega) (by omega)
  rw [i64_and_nat n (2 ^ k - 1) hn (by omega), Nat.and_two_pow_sub_one_eq_mod]
def goodB (b : Int) : Bool := decide (0 ≤ b) && decide (b ≤ 65535)
def qrS (b : Int) : Int := if goodB b then b / 32768 % 2 else 0
def opS (b : Int) : Int := if goodB b then b / 2048 % 16 else 0
theorem mask1 : F_flag_place_mask (15, 1) = some 1 := by kernel_rfl
theorem mask4 : F_flag_place_mask (11, 4) = some 15 := by kernel_rfl
theorem may_eq {f b : Int} (hf : f = 0 ∨ f = 1) : F_flag_Field_may f b = some (goodB b) := by
  unfold F_flag_Field_may goodB
  by_cases h0 : 0 ≤ b
  · by_cases h1 : b ≤ 65535
    · rcases hf with rfl | rfl <;> simp [h0, h1]
    · simp [h0, h1]
  · simp [h0]
theorem of0_eq (b : Int) : F_flag_Field_Of 0 b = some (qrS b) := by
  unfold F_flag_Field_Of qrS
  rw [may_eq (.inl rfl), bnd_some]
  cases hg : goodB b with
  | false => rfl
  | true =>
    unfold goodB at hg
    simp only [Bool.and_eq_true, decide_eq_true_eq] at hg
    obtain ⟨n, rfl⟩ := Int.eq_ofNat_of_zero_le hg.1
    simp only [Bool.not_true, Bool.false_eq_true, if_false, beq_self_eq_true, if_true, mask1, bnd_some]
    have e : ((n : Int)).fdiv 32768 = ((n / 32768 : Nat) : Int) := by
      rw [Int.fdiv_eq_ediv_of_nonneg _ (by omega)]; rfl
    rw [e]
    have := and_mask (n / 32768) 1 (by omega) (by omega)
    rw [show ((2 ^ 1 - 1 : Nat) : Int) = 1 from rfl] at this
    rw [this]
    rfl
theorem of1_eq (b : Int) : F_flag_Field_Of 1 b = some (opS b) := by
  unfold F_flag_Field_Of opS
  rw [may_eq (.inr rfl), bnd_some]
  cases hg : goodB b with
  | false => rfl
  | true =>
    unfold goodB at hg
    simp only [Bool.and_eq_true, decide_eq_true_eq] at hg
    obtain ⟨n, rfl⟩ := Int.eq_ofNat_of_zero_le hg.1
    simp only [Bool.not_true, Bool.false_eq_true, if_false, beq_self_eq_true, if_true, mask4, bnd_some, show ((1 : Int) == 0) = false from rfl]
    have e : ((n : Int)).fdiv 2048 = ((n / 2048 : Nat) : Int) := by
      rw [Int.fdiv_eq_ediv_of_nonneg _ (by omega)]; rfl
    rw [e]
    have := and_mask (n / 2048) 4 (by omega) (by omega)
    rw [show ((2 ^ 4 - 1 : Nat) : Int) = 15 from rfl] at this
    rw [this]
    rfl
/-- is it one that a question may be asked by? -/
def isAns (m : Mt) : Bool := decide (qrS m.2.1 ≠ 0) && decide (opS m.2.1 = 0) && decide (m.2.2.1.length = 1)
/-- is a message an answer to a question, from there? -/
def ansO (server : List UInt8) (port : Int) (m : Mt) (o : Ot) : Bool := okO o && (o.2.2.1 == server) && (o.2.1 == port) && (o.1 == m.1) && (decide (some (qO o) = m.2.2.1[0]?))
def matchM (l : List Ot) (server : List UInt8) (port : Int) (d : Mt × Int) : Int × Mt × Int :=
  if d.2 ≠ 0 ∨ isAns d.1 = false then (-1, m0, 7)
  else scanF (fun i o => if ansO server port d.1 o then some ((i : Int), d.1, (0 : Int)) else none) (-1, m0, 13) 0 l
def matchS (l : List Ot) (server : List UInt8) (port : Int) (s : List UInt8) : Int × Mt × Int := matchM l server port (decS s)
theorem match_no {l : List Ot} {server : List UInt8} {port : Int} {d : Mt × Int} (h : d.2 ≠ 0 ∨ isAns d.1 = false) : matchM l server port d = (-1, m0, 7) := if_pos h
theorem match_yes {l : List Ot} {server : List UInt8} {port : Int} {d : Mt × Int} (h : d.2 = 0) (h2 : isAns d.1 = true) :
    matchM l server port d = scanF (fun i o => if ansO server port d.1 o then some ((i : Int), d.1, (0 : Int)) else none) (-1, m0, 13) 0 l := if_neg (by simp [h, h2])
theorem scanF_congr {β τ : Type} {f g : Nat → β → Option τ} {e : τ} : ∀ (l : List β) (i : Nat), (∀ j x, x ∈ l → f j x = g j x) → scanF f e i l = scanF g e i l
  | [], i, h => rfl
  | x :: l, i, h => by
    unfold scanF
    rw [h i x (by simp), scanF_congr l (i + 1) (fun j y hy => h j y (by simp [hy]))]
theorem scanF_map {β τ υ : Type} {f : Nat → β → Option τ} {e : τ} (g : τ → υ) : ∀ (l : List β) (i : Nat), g (scanF f e i l) = scanF (fun i x => (f i x).map g) (g e) i l
  | [], i => rfl
  | x :: l, i => by
    unfold scanF
    cases h : f i x with
    | some t => simp
    | none => simp only [Option.map_none]; exact scanF_map g l (i + 1)
theorem answers_eq {o : Ot} {m : Mt} (hn : (o.2.2.2.1.length : Int) ≤ maxI) {q : Qt} (hq : m.2.2.1 = [q]) :
    F_query_Out_answers o m = some (okO o && (o.1 == m.1) && decide (qO o = q)) := by
  unfold F_query_Out_answers
  have e : F_query_Out_Check (o.fst, o.snd.fst, o.snd.snd.fst, o.snd.snd.snd.fst, o.snd.snd.snd.snd.fst, o.snd.snd.snd.snd.snd.fst, o.snd.snd.snd.snd.snd.snd.fst, o.snd.snd.snd.snd.snd.snd.snd) = some (okO o) := query_Out_Check_eq hn
  rw [hq]
  simp only [List.getElem?_cons_zero, bnd_some, e]
  cases h : okO o with
  | false => rfl
  | true =>
    have hnm := (okQ_iff (okO_iff h).2.2.2).1
    have e2 : F_mix_Echoes o.snd.snd.snd.fst q.fst = some (o.snd.snd.snd.fst == q.fst) := by
      unfold F_mix_Echoes
      have : nameS o.snd.snd.snd.fst = true := hnm
      rw [name_Check_eq hn, bnd_some, this, if_pos rfl]
    obtain ⟨q1, q2, q3⟩ := q
    simp only [if_true, e2, bnd_some, Bool.true_and, qO, Prod.mk.injEq]
    by_cases h1 : o.fst = m.fst
    · by_cases h2 : o.snd.snd.snd.snd.fst = q2
      · by_cases h3 : o.snd.snd.snd.snd.snd.fst = q3
        · simp [h1, h2, h3]
          by_cases h4 : o.snd.snd.snd.fst = q1 <;> simp [h4]
        · simp [h1, h2, h3]
      · simp [h1, h2]
    · simp [h1]
theorem isAns_qs {m : Mt} (h : isAns m = true) : ∃ q, m.2.2.1 = [q] := by
  unfold isAns at h
  simp only [Bool.and_eq_true, decide_eq_true_eq] at h
  exact List.length_eq_one_iff.1 h.2
theorem query_Match_eq {l : List Ot} {server : List UInt8} {port : Int} {s : List UInt8} (hs : s.length ≤ 1000000) (hl : (l.length : Int) ≤ maxI) (hn : ∀ o ∈ l, (o.2.2.2.1.length : Int) ≤ maxI) :
    F_query_Match l server port s = some (matchS l server port s) := by
  have hm : maxI = 9223372036854775807 := rfl
  unfold F_query_Match matchS
  rw [msg_Decode_eq hs, bnd_some]
  generalize decS s = d
  obtain ⟨m, e⟩ := d
  simp only [of0_eq, of1_eq, bnd_some, grdEq_self]
  by_cases he : e = 0
  · subst he
    by_cases hi : isAns m = true
    · rw [match_yes rfl hi]
      obtain ⟨q, hq⟩ := isAns_qs hi
      have h1 : (qrS m.snd.fst == 0) = false := by unfold isAns at hi; simp only [Bool.and_eq_true, decide_eq_true_eq] at hi; simpa using hi.1.1
      have h2 : (opS m.snd.fst != 0) = false := by unfold isAns at hi; simp only [Bool.and_eq_true, decide_eq_true_eq] at hi; simpa using hi.1.2
      have h3 : ((m.snd.snd.fst.length : Int) != 1) = false := by rw [hq]; rfl
      simp only [bne_self_eq_false, h1, h2, h3, if_true, Bool.false_eq_true, if_false, bnd_some]
      have hloop := loop_scan (l := l) (step := step_query_Match_0 l server port m) (fun i o => if ansO server port m o then some (Sum.inl (β := Unit) (i : Int)) else none) (.inr ()) (fun i x hx => by
        have hil : i < l.length := (List.getElem?_eq_some_iff.1 hx).1
        have hmem : x ∈ l := List.mem_of_getElem? hx
        have c0 : decide ((i : Int) < (l.length : Int)) = true := by simp; omega
        have hw : Go.IntKind.i64.wrap ((i : Int) + 1) = ((i + 1 : Nat) : Int) := by rw [wrap_id (by omega) (by omega)]; rfl
        have ha : F_query_Out_answers (x.fst, x.snd.fst, x.snd.snd.fst, x.snd.snd.snd.fst, x.snd.snd.snd.snd.fst, x.snd.snd.snd.snd.snd.fst, x.snd.snd.snd.snd.snd.snd.fst, x.snd.snd.snd.snd.snd.snd.snd) (m.fst, m.snd.fst, m.snd.snd.fst, m.snd.snd.snd.fst, m.snd.snd.snd.snd.fst, m.snd.snd.snd.snd.snd) = some (okO x && (x.1 == m.1) && decide (qO x = q)) := answers_eq (hn x hmem) hq
        simp only [step_query_Match_0, c0, if_true, natOf_nat, hx, bnd_some, ha, grdEq_self, hw]
        unfold ansO
        rw [hq]
        simp only [List.getElem?_cons_zero, Option.some.injEq]
        cases (x.2.2.1 == server) <;> cases (x.2.1 == port) <;> cases okO x <;> cases (x.1 == m.1) <;> cases decide (qO x = q) <;> rfl) (by
        simp only [step_query_Match_0, grdEq_self]
        rw [if_neg (by simp)])
      rw [hloop, bnd_some]
      have := scanF_map (f := fun (i : Nat) o => if ansO server port m o then some (Sum.inl (β := Unit) (i : Int)) else none) (e := .inr ()) (fun r : Int ⊕ Unit => (match r with | .inl i => (i, m, (0 : Int)) | .inr _ => (-1, m0, 13) : Int × Mt × Int)) l 0
      have e2 : scanF (fun i o => if ansO server port m o then some ((i : Int), m, (0 : Int)) else none) (-1, m0, 13) 0 l = scanF (fun i x => (if ansO server port m x = true then some (Sum.inl (β := Unit) (i : Int)) else none).map (fun r : Int ⊕ Unit => (match r with | .inl i => (i, m, (0 : Int)) | .inr _ => (-1, m0, 13) : Int × Mt × Int))) (-1, m0, 13) 0 l := by
        apply scanF_congr
        intro j x _
        cases ansO server port m x <;> rfl
      rw [e2, ← this]
      have hpos : ∀ (v : List Ot) (i : Nat), ∀ r, scanF (fun i o => if ansO server port m o then some (Sum.inl (β := Unit) (i : Int)) else none) (.inr ()) i v = .inl r → 0 ≤ r := by
        intro v
        induction v with
        | nil => intro i r h; simp [scanF] at h
        | cons x v ih =>
          intro i r h
          unfold scanF at h
          cases ha : ansO server port m x with
          | true => rw [ha] at h; simp at h; omega
          | false => rw [ha] at h; exact ih _ r (by simpa using h)
      cases hsc : scanF (fun i o => if ansO server port m o then some (Sum.inl (β := Unit) (i : Int)) else none) (.inr ()) 0 l with
      | inl r =>
        have := hpos l 0 r hsc
        simp only
        rw [if_neg (by simp; omega)]
      | inr _ => rfl
    · have hi' : isAns m = false := by simpa using hi
      rw [match_no (.inr hi')]
      unfold isAns at hi'
      simp only [bne_self_eq_false, if_true]
      by_cases h1 : qrS m.snd.fst = 0
      · simp only [h1, beq_self_eq_true, Bool.true_eq_false, if_false, bnd_some, if_true]; rfl
      · by_cases h2 : opS m.snd.fst = 0
        · have h3 : ¬ m.snd.snd.fst.length = 1 := by simpa [h1, h2] using hi'
          have h1' : (qrS m.snd.fst == 0) = false := by simpa using h1
          have h2' : (opS m.snd.fst != 0) = false := by simpa using h2
          have h3' : ((m.snd.snd.fst.length : Int) != 1) = true := by simp; omega
          simp only [h1', h2', h3', if_true, bnd_some]; rfl
        · have h1' : (qrS m.snd.fst == 0) = false := by simpa using h1
          have h2' : (opS m.snd.fst != 0) = true := by simpa using h2
          simp only [h1', h2', if_true, Bool.true_eq_false, if_false, bnd_some]; rfl
  · have he' : (e != 0) = true := by simpa using he
    rw [match_no (.inl he)]
    simp only [he', Bool.true_eq_false, if_false, bnd_some, if_true]
    rfl
end Go.Abs

namespace Go.Abs
open Go
theorem take_step {α : Type} {l : List α} {i : Nat} {x : α} (h : l[i]? = some x) : l.take (i + 1) = l.take i ++ [x] := by
  rw [List.take_add_one, h]; rfl
def smallO (o : Ot) : Bool := decide (o.2.2.2.1.length ≤ 300) && decide (o.2.2.1.length ≤ 100)
def fewO (l : List Ot) : Bool := l.all smallO && decide (l.length ≤ 60)
theorem scan_all {β : Type} (p : β → Bool) : ∀ (l : List β) (i : Nat), scanF (fun _ x => if p x then none else some (Sum.inl (α := Bool) (β := Unit) false)) (.inr ()) i l = if l.all p then .inr () else .inl false
  | [], i => rfl
  | x :: l, i => by
    unfold scanF
    cases h : p x with
    | true => simp only [if_true, List.all_cons, h, Bool.true_and]; exact scan_all p l (i + 1)
    | false => simp [h]
theorem ref20_Few_eq {l : List Ot} (hl : (l.length : Int) ≤ maxI) : F_ref20_Few l = some (fewO l) := by
  have hm : maxI = 9223372036854775807 := rfl
  unfold F_ref20_Few
  rw [loop_scan (l := l) (step := step_ref20_Few_0 l) (fun _ o => if smallO o then none else some (.inl false)) (.inr ()) (fun i x hx => by
    have hil : i < l.length := (List.getElem?_eq_some_iff.1 hx).1
    have c0 : decide ((i : Int) < (l.length : Int)) = true := by simp; omega
    have hw : Go.IntKind.i64.wrap ((i : Int) + 1) = ((i + 1 : Nat) : Int) := by rw [wrap_id (by omega) (by omega)]; rfl
    simp only [step_ref20_Few_0, c0, if_true, natOf_nat, hx, bnd_some, grdEq_self, hw, smallO]
    by_cases h1 : x.snd.snd.snd.fst.length ≤ 300
    · have e1 : decide (300 < (x.snd.snd.snd.fst.length : Int)) = false := by simp; omega
      by_cases h2 : x.snd.snd.fst.length ≤ 100
      · have e2 : decide (100 < (x.snd.snd.fst.length : Int)) = false := by simp; omega
        simp [e1, e2, h1, h2]
      · have e2 : decide (100 < (x.snd.snd.fst.length : Int)) = true := by simp; omega
        simp [e1, e2, h1, h2]
    · have e1 : decide (300 < (x.snd.snd.snd.fst.length : Int)) = true := by simp; omega
      simp [e1, h1]) (by
    simp only [step_ref20_Few_0, grdEq_self]
    rw [if_neg (by simp)]), bnd_some, scan_all]
  unfold fewO
  cases h : l.all smallO with
  | true =>
    simp only [if_true, Bool.true_and]
    congr 1
    rw [Bool.eq_iff_iff]; simp; omega
  | false => rfl
theorem few20_of {l : List Ot} (h : fewO l = true) : l.length ≤ 60 ∧ (∀ o ∈ l, o.2.2.2.1.length ≤ 300 ∧ o.2.2.1.length ≤ 100) := by
  unfold fewO smallO at h
  simp only [Bool.and_eq_true, List.all_eq_true, decide_eq_true_eq] at h
  exact ⟨h.2, h.1⟩
theorem Own_eq {l : List Ot} (hl : l.length ≤ 1000) : F_law20_Own l = some l := by
  have hm : maxI = 9223372036854775807 := rfl
  unfold F_law20_Own
  have := loop_run (step := step_law20_Own_0 l) (t := l) (s := fun i => (l.take i, (i : Int))) l.length (fun i hi => by
    obtain ⟨x, hx⟩ : ∃ x, l[i]? = some x := ⟨l[i], by simp [hi]⟩
    have c0 : decide ((i : Int) < (l.length : Int)) = true := by simp; omega
    have hw : Go.IntKind.i64.wrap ((i : Int) + 1) = ((i + 1 : Nat) : Int) := by rw [wrap_id (by omega) (by omega)]; rfl
    simp only [step_law20_Own_0, c0, if_true, natOf_nat, hx, bnd_some, grdEq_self, hw]
    rw [grdp (by unfold roomLim; simp; omega), take_step hx]) (by
    simp only [step_law20_Own_0, grdEq_self]
    rw [if_neg (by simp)]
    simp)
  simp only [List.take_zero] at this
  rw [show ((0 : Int)) = ((0 : Nat) : Int) from rfl, this, bnd_some]
end Go.Abs

namespace Go.Abs
open Go
theorem len_of {l : List Ot} (w : wfd (.list tO) l) : (l.length : Int) ≤ maxI := by
  have hl : maxLen = 9223372036854775807 := rfl
  have hm : maxI = 9223372036854775807 := rfl
  have := w.1
  omega
end Go.Abs

namespace Go.Abs
open Go
theorem scan_first (server : List UInt8) (port : Int) (m : Mt) : ∀ (l : List Ot) (i : Nat),
    (∀ o ∈ l, ansO server port m o = false) ∧ scanF (fun i o => if ansO server port m o then some ((i : Int), m, (0 : Int)) else none) (-1, m0, 13) i l = (-1, m0, 13) ∨
    ∃ u x v, l = u ++ x :: v ∧ (∀ o ∈ u, ansO server port m o = false) ∧ ansO server port m x = true ∧ scanF (fun i o => if ansO server port m o then some ((i : Int), m, (0 : Int)) else none) (-1, m0, 13) i l = (((i + u.length : Nat) : Int), m, 0)
  | [], i => .inl ⟨by simp, rfl⟩
  | x :: l, i => by
    cases h : ansO server port m x with
    | true => exact .inr ⟨[], x, l, rfl, by simp, h, by simp [scanF, h]⟩
    | false =>
      rcases scan_first server port m l (i + 1) with ⟨h1, h2⟩ | ⟨u, y, v, h1, h2, h3, h4⟩
      · exact .inl ⟨List.forall_mem_cons.2 ⟨h, h1⟩, by simp only [scanF, h]; exact h2⟩
      · refine .inr ⟨x :: u, y, v, by rw [h1]; rfl, List.forall_mem_cons.2 ⟨h, h2⟩, h3, ?_⟩
        simp only [scanF, h]
        refine h4.trans ?_
        congr 2
        simp; omega
theorem match_cases (server : List UInt8) (port : Int) (s : List UInt8) :
    (∀ l, matchS l server port s = (-1, m0, 7)) ∨ ((decS s).2 = 0 ∧ isAns (decS s).1 = true ∧ ∀ l,
      (∀ o ∈ l, ansO server port (decS s).1 o = false) ∧ matchS l server port s = (-1, m0, 13) ∨
      ∃ u x v, l = u ++ x :: v ∧ (∀ o ∈ u, ansO server port (decS s).1 o = false) ∧ ansO server port (decS s).1 x = true ∧ matchS l server port s = ((u.length : Int), (decS s).1, 0)) := by
  by_cases h : (decS s).2 ≠ 0 ∨ isAns (decS s).1 = false
  · exact .inl fun l => match_no h
  · have h1 : (decS s).2 = 0 := by
      by_cases h1 : (decS s).2 = 0
      · exact h1
      · exact absurd (.inl h1) h
    have h2 : isAns (decS s).1 = true := by
      cases h2 : isAns (decS s).1 with
      | true => rfl
      | false => exact absurd (.inr h2) h
    refine .inr ⟨h1, h2, fun l => ?_⟩
    unfold matchS
    rw [match_yes h1 h2]
    have := scan_first server port (decS s).1 l 0
    simpa only [Nat.zero_add] using this
theorem law_QueryMatched (l : List Ot) (frm : Ot) (s : List UInt8) (hl : (l.length : Int) ≤ maxI) : F_law20_QueryMatched l frm s = some true := by
  have hm : maxI = 9223372036854775807 := rfl
  unfold F_law20_QueryMatched
  rw [ref20_Few_eq hl, bnd_some, live20]
  simp only [grdEq_self]
  cases hf : fewO l with
  | false => rfl
  | true =>
    obtain ⟨f1, f2⟩ := few20_of hf
    by_cases h2 : s.length ≤ 2000
    · by_cases h3 : frm.2.2.1.length ≤ 100
      · have e2 : decide (2000 < (s.length : Int)) = false := by simp; omega
        have e3 : decide (100 < (frm.snd.snd.fst.length : Int)) = false := by simp; omega
        have hs0 : F_ref08_Same (m0.fst, m0.snd.fst, m0.snd.snd.fst, m0.snd.snd.snd.fst, m0.snd.snd.snd.snd.fst, m0.snd.snd.snd.snd.snd) (0, 0, [], [], [], []) = some true := by
          have := ref08_Same_eq (a := m0) (b := m0) ⟨by simp [m0]; omega, by simp [m0]; omega, by simp [m0]; omega, by simp [m0]; omega⟩
          simp only [decide_true] at this
          exact this
        simp only [e2, e3, Bool.not_true, if_true, bnd_some, Bool.false_eq_true, if_false]
        rw [Own_eq (by omega), bnd_some, query_Match_eq (by omega) hl (fun o ho => by have := (f2 o ho).1; omega), bnd_some]
        rcases match_cases frm.snd.snd.fst frm.snd.fst s with h | ⟨g1, g2, h⟩
        · rw [h l]
          simp only [show ((7 : Int) != 0) = true from rfl, if_true, hs0, bnd_some]
        · rcases h l with ⟨_, h⟩ | ⟨u, x, v, e, hu, hx, h⟩
          · rw [h]
            simp only [show ((13 : Int) != 0) = true from rfl, if_true, hs0, bnd_some]
          · rw [h]
            have hul : u.length < l.length := by rw [e]; simp
            have hlx : l[u.length]? = some x := by rw [e]; simp
            have c1 : decide ((u.length : Int) < 0) = false := by simp
            have c2 : decide ((l.length : Int) ≤ (u.length : Int)) = false := by simp; omega
            obtain ⟨q, hq⟩ := isAns_qs g2
            generalize (decS s).1 = m at *
            have c3 : ((m.snd.snd.fst.length : Int) != 1) = false := by rw [hq]; rfl
            have hq0 : m.snd.snd.fst[0]? = some q := by rw [hq]; rfl
            unfold ansO at hx
            rw [hq0] at hx
            simp only [Bool.and_eq_true, beq_iff_eq, decide_eq_true_eq, Option.some.injEq] at hx
            obtain ⟨⟨⟨⟨x1, x2⟩, x3⟩, x4⟩, x5⟩ := hx
            have hbits : 32768 ≤ m.snd.fst ∧ m.snd.fst ≤ 65535 ∧ m.snd.fst / 2048 % 16 = 0 := by
              unfold isAns at g2
              simp only [Bool.and_eq_true, decide_eq_true_eq] at g2
              obtain ⟨⟨b1, b2⟩, _⟩ := g2
              unfold qrS goodB at b1
              unfold opS goodB at b2
              by_cases hb : 0 ≤ m.snd.fst ∧ m.snd.fst ≤ 65535
              · simp only [hb.1, hb.2, decide_true, Bool.and_self, if_true] at b1 b2
                exact ⟨by omega, hb.2, b2⟩
              · exfalso
                apply b1
                have : (decide (0 ≤ m.snd.fst) && decide (m.snd.fst ≤ 65535)) = false := by
                  rw [Bool.and_eq_false_iff]
                  simp only [decide_eq_false_iff_not]
                  omega
                rw [this]; rfl
            have ht : m.snd.fst.tdiv 2048 = m.snd.fst / 2048 := Int.tdiv_eq_ediv_of_nonneg (by omega)
            have ht2 : (m.snd.fst / 2048).tmod 16 = m.snd.fst / 2048 % 16 := Int.tmod_eq_emod_of_nonneg (by omega)
            have hqe : (q.fst == x.snd.snd.snd.fst && (q.snd.fst == x.snd.snd.snd.snd.fst && (q.snd.snd == x.snd.snd.snd.snd.snd.fst && true))) = true := by
              rw [← x5]
              simp [qO]
            simp only [bne_self_eq_false, Bool.false_eq_true, if_false, c1, c2, c3, if_true, bnd_some, natOf_nat, hlx, hq0, hqe, x2, x3, x4, beq_self_eq_true, ht]
            rw [wrap_id (by omega) (by omega), ht2, hbits.2.2]
            simp [hbits.1]
      · have e2 : decide (2000 < (s.length : Int)) = false := by simp; omega
        have e3 : decide (100 < (frm.snd.snd.fst.length : Int)) = true := by simp; omega
        simp only [e2, e3, Bool.not_true, if_true, bnd_some]
    · have e2 : decide (2000 < (s.length : Int)) = true := by simp; omega
      simp only [e2, Bool.not_true, if_true, Bool.true_eq_false, if_false, bnd_some]
end Go.Abs
