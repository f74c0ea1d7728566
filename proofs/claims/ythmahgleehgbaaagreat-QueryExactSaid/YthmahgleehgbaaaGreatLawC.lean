/- Part of a proof: a machine of plain data, and what the functions come to on it. -/
import Derived.Test.YthmahgleehgbaaaGreatLawB
import Derived.Test.YthmahgleehgbaaaGreatSxB
set_option linter.unusedSimpArgs false
set_option linter.unusedVariables false
set_option linter.unusedSectionVars false
namespace Go.Abs
open Go
theorem live20 : F_law20_live = some true := by kernel_rfl
end Go.Abs

namespace Go.Abs
open Go
/-- the first that is told, or the end -/
def scanF {β τ : Type} (f : Nat → β → Option τ) (e : τ) : Nat → List β → τ
  | _, [] => e
  | i, x :: l => match f i x with
    | some t => t
    | none => scanF f e (i + 1) l
theorem loop_scan {β τ : Type} {l : List β} {step : Int → Option (Int ⊕ τ)} (f : Nat → β → Option τ) (e : τ)
    (hs : ∀ (i : Nat) x, l[i]? = some x → step (i : Int) = some (match f i x with | some t => .inr t | none => .inl ((i + 1 : Nat) : Int))) (he : step (l.length : Int) = some (.inr e)) : loopS step 0 = some (scanF f e 0 l) := by
  suffices h : ∀ (v u : List β), l = u ++ v → loopS step (u.length : Int) = some (scanF f e u.length v) from h l [] rfl
  intro v
  induction v with
  | nil =>
    intro u hu
    rw [List.append_nil] at hu
    subst hu
    exact loopS_out he
  | cons x v ih =>
    intro u hu
    have hx := hs u.length x (by rw [hu]; simp)
    unfold scanF
    cases hf : f u.length x with
    | some t => rw [hf] at hx; exact loopS_out hx
    | none =>
      rw [hf] at hx
      rw [loopS_next hx]
      have := ih (u ++ [x]) (by rw [hu]; simp)
      simpa using this
abbrev Ot := Int × Int × List UInt8 × List UInt8 × Int × Int × Int × Int
/-- what is asked -/
def qO (o : Ot) : Qt := (o.2.2.2.1, o.2.2.2.2.1, o.2.2.2.2.2.1)
def okO (o : Ot) : Bool := (decide (o.2.2.1.length = 4) || decide (o.2.2.1.length = 16)) && inC o.1 65535 && inC o.2.1 65535 && okQ (qO o)
theorem lenI (n k : Nat) : ((n : Int) == (k : Int)) = decide (n = k) := by
  rw [Bool.eq_iff_iff]; simp; omega
theorem query_in_eq (n : Int) : F_query_in n = some (inC n 65535) := by
  unfold F_query_in inC
  by_cases h : 0 ≤ n <;> simp [h]
theorem query_Out_Check_eq {o : Ot} (hn : (o.2.2.2.1.length : Int) ≤ maxI) : F_query_Out_Check o = some (okO o) := by
  unfold F_query_Out_Check okO okQ qO
  simp only [query_in_eq, name_Check_eq hn, bnd_some, grdEq_self]
  rw [show ((o.snd.snd.fst.length : Int) == 4) = decide (o.snd.snd.fst.length = 4) from lenI _ 4, show ((o.snd.snd.fst.length : Int) == 16) = decide (o.snd.snd.fst.length = 16) from lenI _ 16]
  cases decide (o.snd.snd.fst.length = 4) <;> cases decide (o.snd.snd.fst.length = 16) <;> cases inC o.fst 65535 <;> cases inC o.snd.fst 65535 <;> cases nameS o.snd.snd.snd.fst <;> cases inC o.snd.snd.snd.snd.fst 65535 <;> rfl
/-- the record of what is asked with -/
def optR : RRt := ([0], 41, 1232, 0, [])
def askM (o : Ot) : Mt := (o.1, 0, [qO o], [], [], [optR])
def ansM (o : Ot) : Mt := (o.1, 33792, [qO o], [], [], [])
def bytesO (o : Ot) : List UInt8 := if okO o then (encM (askM o)).1 else []
theorem opt_eq : F_edns_Opt_Record (true, 1232, 0, 0, false) = some (optR, true) := by kernel_rfl
theorem okO_iff {o : Ot} (h : okO o = true) : (o.2.2.1.length = 4 ∨ o.2.2.1.length = 16) ∧ (0 ≤ o.1 ∧ o.1 ≤ 65535) ∧ (0 ≤ o.2.1 ∧ o.2.1 ≤ 65535) ∧ okQ (qO o) = true := by
  unfold okO inC at h
  simp only [Bool.and_eq_true, Bool.or_eq_true, decide_eq_true_eq] at h
  exact ⟨h.1.1.1, h.1.1.2, h.1.2, h.2⟩
theorem fine_one {a b : Int} {q : Qt} {l : List RRt} (hq : okQ q = true) (hl : l.length ≤ 1) (hr : ∀ r ∈ l, r.1.length ≤ 255) : fineM (a, b, [q], [], [], l) := by
  have hm : maxI = 9223372036854775807 := rfl
  have := (nameS_pos (okQ_iff hq).1).2
  refine ⟨⟨by simp; omega, by simp; omega, by simp; omega, by simp only; omega⟩, fun q' hq' => ?_, fun r hr => by simp at hr, fun r hr => by simp at hr, fun r hr' => ?_⟩
  · simp at hq'; subst hq'; omega
  · have := hr r hr'; omega
theorem query_Out_Bytes_eq {o : Ot} (hn : (o.2.2.2.1.length : Int) ≤ maxI) : F_query_Out_Bytes o = some (bytesO o) := by
  unfold F_query_Out_Bytes bytesO
  have e : F_query_Out_Check (o.fst, o.snd.fst, o.snd.snd.fst, o.snd.snd.snd.fst, o.snd.snd.snd.snd.fst, o.snd.snd.snd.snd.snd.fst, o.snd.snd.snd.snd.snd.snd.fst, o.snd.snd.snd.snd.snd.snd.snd) = some (okO o) := query_Out_Check_eq hn
  rw [e, bnd_some]
  cases h : okO o with
  | false => rfl
  | true =>
    have hf : fineM (askM o) := fine_one (okO_iff h).2.2.2 (by simp) (by simp [optR])
    simp only [Bool.not_true, Bool.false_eq_true, if_false, opt_eq, bnd_some, if_true]
    have e2 : F_msg_Encode (o.fst, 0, [(o.snd.snd.snd.fst, o.snd.snd.snd.snd.fst, o.snd.snd.snd.snd.snd.fst)], [], [], [(optR.fst, optR.snd.fst, optR.snd.snd.fst, optR.snd.snd.snd.fst, optR.snd.snd.snd.snd)]) = some (encM (askM o)) := msg_Encode_eq hf
    rw [e2, bnd_some]
theorem answer_eq (o : Ot) : F_law20_answer o = some (encM (ansM o)).1 := by
  have hm : maxI = 9223372036854775807 := rfl
  unfold F_law20_answer
  have e2 : F_ref08_Encode (o.fst, 33792, [(o.snd.snd.snd.fst, o.snd.snd.snd.snd.fst, o.snd.snd.snd.snd.snd.fst)], [], [], []) = some (encM (ansM o)) := ref08_Encode_eq ⟨by simp [ansM]; omega, by simp [ansM]; omega, by simp [ansM]; omega, by simp [ansM]; omega⟩
  rw [e2, bnd_some]
end Go.Abs

namespace Go.Abs
open Go
theorem and_mask (n k : Nat) (hn : n < 9223372036854775808) (hk : k < 60) : Go.bits .and .i64 (n : Int) ((2 ^ k - 1 : Nat) : Int) = ((n % 2 ^ k : Nat) : Int) := by
  have hp : 2 ^ k < 2 ^ 63 := Nat.pow_lt_pow_right (by omega) (by omega)
  rw [i64_and_nat n (2 ^ k - 1) hn (by omega), Nat.and_two_pow_sub_one_eq_mod]
def goodB (b : Int) : Bool := decide (0 ≤ b) && decide (b ≤ 65535)
def qrS (b : Int) : Int := if goodB b then b / 32768 % 2 else 0
def opS (b : Int) : Int := if goodB b then b / 2048 % 16 else 0
theorem mask1 : F_flag_place_mask (15, 1) = some 1 := by kernel_rfl
theorem mask4 : F_flag_place_mask (11, 4) = some 15 := by kernel_rfl
theorem may_eq {f b : Int} (hf : f = 0 ∨ f = 1) : F_flag_Field_may f b = some (goodB b) := by
  unfold F_flag_Field_may goodB
  by_cases h0 : 0 ≤ b
  · by_cases h1 : b ≤ 65535
    · rcases hf with rfl | rfl <;> simp [h0, h1]
    · simp [h0, h1]
  · simp [h0]
theorem of0_eq (b : Int) : F_flag_Field_Of 0 b = some (qrS b) := by
  unfold F_flag_Field_Of qrS
  rw [may_eq (.inl rfl), bnd_some]
  cases hg : goodB b with
  | false => rfl
  | true =>
    unfold goodB at hg
    simp only [Bool.and_eq_true, decide_eq_true_eq] at hg
    obtain ⟨n, rfl⟩ := Int.eq_ofNat_of_zero_le hg.1
    simp only [Bool.not_true, Bool.false_eq_true, if_false, beq_self_eq_true, if_true, mask1, bnd_some]
    have e : ((n : Int)).fdiv 32768 = ((n / 32768 : Nat) : Int) := by
      rw [Int.fdiv_eq_ediv_of_nonneg _ (by omega)]; rfl
    rw [e]
    have := and_mask (n / 32768) 1 (by omega) (by omega)
    rw [show ((2 ^ 1 - 1 : Nat) : Int) = 1 from rfl] at this
    rw [this]
    rfl
theorem of1_eq (b : Int) : F_flag_Field_Of 1 b = some (opS b) := by
  unfold F_flag_Field_Of opS
  rw [may_eq (.inr rfl), bnd_some]
  cases hg : goodB b with
  | false => rfl
  | true =>
    unfold goodB at hg
    simp only [Bool.and_eq_true, decide_eq_true_eq] at hg
    obtain ⟨n, rfl⟩ := Int.eq_ofNat_of_zero_le hg.1
    simp only [Bool.not_true, Bool.false_eq_true, if_false, beq_self_eq_true, if_true, mask4, bnd_some, show ((1 : Int) == 0) = false from rfl]
    have e : ((n : Int)).fdiv 2048 = ((n / 2048 : Nat) : Int) := by
      rw [Int.fdiv_eq_ediv_of_nonneg _ (by omega)]; rfl
    rw [e]
    have := and_mask (n / 2048) 4 (by omega) (by omega)
    rw [show ((2 ^ 4 - 1 : Nat) : Int) = 15 from rfl] at this
    rw [this]
    rfl
/-- is it one that a question may be asked by? -/
def isAns (m : Mt) : Bool := decide (qrS m.2.1 ≠ 0) && decide (opS m.2.1 = 0) && decide (m.2.2.1.length = 1)
/-- is a message an answer to a question, from there? -/
def ansO (server : List UInt8) (port : Int) (m : Mt) (o : Ot) : Bool := okO o && (o.2.2.1 == server) && (o.2.1 == port) && (o.1 == m.1) && (decide (some (qO o) = m.2.2.1[0]?))
def matchM (l : List Ot) (server : List UInt8) (port : Int) (d : Mt × Int) : Int × Mt × Int :=
  if d.2 ≠ 0 ∨ isAns d.1 = false then (-1, m0, 7)
  else scanF (fun i o => if ansO server port d.1 o then some ((i : Int), d.1, (0 : Int)) else none) (-1, m0, 13) 0 l
def matchS (l : List Ot) (server : List UInt8) (port : Int) (s : List UInt8) : Int × Mt × Int := matchM l server port (decS s)
theorem match_no {l : List Ot} {server : List UInt8} {port : Int} {d : Mt × Int} (h : d.2 ≠ 0 ∨ isAns d.1 = false) : matchM l server port d = (-1, m0, 7) := if_pos h
theorem match_yes {l : List Ot} {server : List UInt8} {port : Int} {d : Mt × Int} (h : d.2 = 0) (h2 : isAns d.1 = true) :
    matchM l server port d = scanF (fun i o => if ansO server port d.1 o then some ((i : Int), d.1, (0 : Int)) else none) (-1, m0, 13) 0 l := if_neg (by simp [h, h2])
theorem scanF_congr {β τ : Type} {f g : Nat → β → Option τ} {e : τ} : ∀ (l : List β) (i : Nat), (∀ j x, x ∈ l → f j x = g j x) → scanF f e i l = scanF g e i l
  | [], i, h => rfl
  | x :: l, i, h => by
    unfold scanF
    rw [h i x (by simp), scanF_congr l (i + 1) (fun j y hy => h j y (by simp [hy]))]
theorem scanF_map {β τ υ : Type} {f : Nat → β → Option τ} {e : τ} (g : τ → υ) : ∀ (l : List β) (i : Nat), g (scanF f e i l) = scanF (fun i x => (f i x).map g) (g e) i l
  | [], i => rfl
  | x :: l, i => by
    unfold scanF
    cases h : f i x with
    | some t => simp
    | none => simp only [Option.map_none]; exact scanF_map g l (i + 1)
theorem answers_eq {o : Ot} {m : Mt} (hn : (o.2.2.2.1.length : Int) ≤ maxI) {q : Qt} (hq : m.2.2.1 = [q]) :
    F_query_Out_answers o m = some (okO o && (o.1 == m.1) && decide (qO o = q)) := by
  unfold F_query_Out_answers
  have e : F_query_Out_Check (o.fst, o.snd.fst, o.snd.snd.fst, o.snd.snd.snd.fst, o.snd.snd.snd.snd.fst, o.snd.snd.snd.snd.snd.fst, o.snd.snd.snd.snd.snd.snd.fst, o.snd.snd.snd.snd.snd.snd.snd) = some (okO o) := query_Out_Check_eq hn
  rw [hq]
  simp only [List.getElem?_cons_zero, bnd_some, e]
  cases h : okO o with
  | false => rfl
  | true =>
    have hnm := (okQ_iff (okO_iff h).2.2.2).1
    have e2 : F_mix_Echoes o.snd.snd.snd.fst q.fst = some (o.snd.snd.snd.fst == q.fst) := by
      unfold F_mix_Echoes
      have : nameS o.snd.snd.snd.fst = true := hnm
      rw [name_Check_eq hn, bnd_some, this, if_pos rfl]
    obtain ⟨q1, q2, q3⟩ := q
    simp only [if_true, e2, bnd_some, Bool.true_and, qO, Prod.mk.injEq]
    by_cases h1 : o.fst = m.fst
    · by_cases h2 : o.snd.snd.snd.snd.fst = q2
      · by_cases h3 : o.snd.snd.snd.snd.snd.fst = q3
        · simp [h1, h2, h3]
          by_cases h4 : o.snd.snd.snd.fst = q1 <;> simp [h4]
        · simp [h1, h2, h3]
      · simp [h1, h2]
    · simp [h1]
theorem isAns_qs {m : Mt} (h : isAns m = true) : ∃ q, m.2.2.1 = [q] := by
  unfold isAns at h
  simp only [Bool.and_eq_true, decide_eq_true_eq] at h
  exact List.length_eq_one_iff.1 h.2
theorem query_Match_eq {l : List Ot} {server : List UInt8} {port : Int} {s : List UInt8} (hs : s.length ≤ 1000000) (hl : (l.length : Int) ≤ maxI) (hn : ∀ o ∈ l, (o.2.2.2.1.length : Int) ≤ maxI) :
    F_query_Match l server port s = some (matchS l server port s) := by
  have hm : maxI = 9223372036854775807 := rfl
  unfold F_query_Match matchS
  rw [msg_Decode_eq hs, bnd_some]
  generalize decS s = d
  obtain ⟨m, e⟩ := d
  simp only [of0_eq, of1_eq, bnd_some, grdEq_self]
  by_cases he : e = 0
  · subst he
    by_cases hi : isAns m = true
    · rw [match_yes rfl hi]
      obtain ⟨q, hq⟩ := isAns_qs hi
      have h1 : (qrS m.snd.fst == 0) = false := by unfold isAns at hi; simp only [Bool.and_eq_true, decide_eq_true_eq] at hi; simpa using hi.1.1
      have h2 : (opS m.snd.fst != 0) = false := by unfold isAns at hi; simp only [Bool.and_eq_true, decide_eq_true_eq] at hi; simpa using hi.1.2
      have h3 : ((m.snd.snd.fst.length : Int) != 1) = false := by rw [hq]; rfl
      simp only [bne_self_eq_false, h1, h2, h3, if_true, Bool.false_eq_true, if_false, bnd_some]
      have hloop := loop_scan (l := l) (step := step_query_Match_0 l server port m) (fun i o => if ansO server port m o then some (Sum.inl (β := Unit) (i : Int)) else none) (.inr ()) (fun i x hx => by
        have hil : i < l.length := (List.getElem?_eq_some_iff.1 hx).1
        have hmem : x ∈ l := List.mem_of_getElem? hx
        have c0 : decide ((i : Int) < (l.length : Int)) = true := by simp; omega
        have hw : Go.IntKind.i64.wrap ((i : Int) + 1) = ((i + 1 : Nat) : Int) := by rw [wrap_id (by omega) (by omega)]; rfl
        have ha : F_query_Out_answers (x.fst, x.snd.fst, x.snd.snd.fst, x.snd.snd.snd.fst, x.snd.snd.snd.snd.fst, x.snd.snd.snd.snd.snd.fst, x.snd.snd.snd.snd.snd.snd.fst, x.snd.snd.snd.snd.snd.snd.snd) (m.fst, m.snd.fst, m.snd.snd.fst, m.snd.snd.snd.fst, m.snd.snd.snd.snd.fst, m.snd.snd.snd.snd.snd) = some (okO x && (x.1 == m.1) && decide (qO x = q)) := answers_eq (hn x hmem) hq
        simp only [step_query_Match_0, c0, if_true, natOf_nat, hx, bnd_some, ha, grdEq_self, hw]
        unfold ansO
        rw [hq]
        simp only [List.getElem?_cons_zero, Option.some.injEq]
        cases (x.2.2.1 == server) <;> cases (x.2.1 == port) <;> cases okO x <;> cases (x.1 == m.1) <;> cases decide (qO x = q) <;> rfl) (by
        simp only [step_query_Match_0, grdEq_self]
        rw [if_neg (by simp)])
      rw [hloop, bnd_some]
      have := scanF_map (f := fun (i : Nat) o => if ansO server port m o then some (Sum.inl (β := Unit) (i : Int)) else none) (e := .inr ()) (fun r : Int ⊕ Unit => (match r with | .inl i => (i, m, (0 : Int)) | .inr _ => (-1, m0, 13) : Int × Mt × Int)) l 0
      have e2 : scanF (fun i o => if ansO server port m o then some ((i : Int), m, (0 : Int)) else none) (-1, m0, 13) 0 l = scanF (fun i x => (if ansO server port m x = true then some (Sum.inl (β := Unit) (i : Int)) else none).map (fun r : Int ⊕ Unit => (match r with | .inl i => (i, m, (0 : Int)) | .inr _ => (-1, m0, 13) : Int × Mt × Int))) (-1, m0, 13) 0 l := by
        apply scanF_congr
        intro j x _
        cases ansO server port m x <;> rfl
      rw [e2, ← this]
      have hpos : ∀ (v : List Ot) (i : Nat), ∀ r, scanF (fun i o => if ansO server port m o then some (Sum.inl (β := Unit) (i : Int)) else none) (.inr ()) i v = .inl r → 0 ≤ r := by
        intro v
        induction v with
        | nil => intro i r h; simp [scanF] at h
        | cons x v ih =>
          intro i r h
          unfold scanF at h
          cases ha : ansO server port m x with
          | true => rw [ha] at h; simp at h; omega
          | false => rw [ha] at h; exact ih _ r (by simpa using h)
      cases hsc : scanF (fun i o => if ansO server port m o then some (Sum.inl (β := Unit) (i : Int)) else none) (.inr ()) 0 l with
      | inl r =>
        have := hpos l 0 r hsc
        simp only
        rw [if_neg (by simp; omega)]
      | inr _ => rfl
    · have hi' : isAns m = false := by simpa using hi
      rw [match_no (.inr hi')]
      unfold isAns at hi'
      simp only [bne_self_eq_false, if_true]
      by_cases h1 : qrS m.snd.fst = 0
      · simp only [h1, beq_self_eq_true, Bool.true_eq_false, if_false, bnd_some, if_true]; rfl
      · by_cases h2 : opS m.snd.fst = 0
        · have h3 : ¬ m.snd.snd.fst.length = 1 := by simpa [h1, h2] using hi'
          have h1' : (qrS m.snd.fst == 0) = false := by simpa using h1
          have h2' : (opS m.snd.fst != 0) = false := by simpa using h2
          have h3' : ((m.snd.snd.fst.length : Int) != 1) = true := by simp; omega
          simp only [h1', h2', h3', if_true, bnd_some]; rfl
        · have h1' : (qrS m.snd.fst == 0) = false := by simpa using h1
          have h2' : (opS m.snd.fst != 0) = true := by simpa using h2
          simp only [h1', h2', if_true, Bool.true_eq_false, if_false, bnd_some]; rfl
  · have he' : (e != 0) = true := by simpa using he
    rw [match_no (.inl he)]
    simp only [he', Bool.true_eq_false, if_false, bnd_some, if_true]
    rfl
end Go.Abs

namespace Go.Abs
open Go
end Go.Abs

namespace Go.Abs
open Go
end Go.Abs

namespace Go.Abs
open Go
theorem scan_first (server : List UInt8) (port : Int) (m : Mt) : ∀ (l : List Ot) (i : Nat),
    (∀ o ∈ l, ansO server port m o = false) ∧ scanF (fun i o => if ansO server port m o then some ((i : Int), m, (0 : Int)) else none) (-1, m0, 13) i l = (-1, m0, 13) ∨
    ∃ u x v, l = u ++ x :: v ∧ (∀ o ∈ u, ansO server port m o = false) ∧ ansO server port m x = true ∧ scanF (fun i o => if ansO server port m o then some ((i : Int), m, (0 : Int)) else none) (-1, m0, 13) i l = (((i + u.length : Nat) : Int), m, 0)
  | [], i => .inl ⟨by simp, rfl⟩
  | x :: l, i => by
    cases h : ansO server port m x with
    | true => exact .inr ⟨[], x, l, rfl, by simp, h, by simp [scanF, h]⟩
    | false =>
      rcases scan_first server port m l (i + 1) with ⟨h1, h2⟩ | ⟨u, y, v, h1, h2, h3, h4⟩
      · exact .inl ⟨List.forall_mem_cons.2 ⟨h, h1⟩, by simp only [scanF, h]; exact h2⟩
      · refine .inr ⟨x :: u, y, v, by rw [h1]; rfl, List.forall_mem_cons.2 ⟨h, h2⟩, h3, ?_⟩
        simp only [scanF, h]
        refine h4.trans ?_
        congr 2
        simp; omega
theorem match_cases (server : List UInt8) (port : Int) (s : List UInt8) :
    (∀ l, matchS l server port s = (-1, m0, 7)) ∨ ((decS s).2 = 0 ∧ isAns (decS s).1 = true ∧ ∀ l,
      (∀ o ∈ l, ansO server port (decS s).1 o = false) ∧ matchS l server port s = (-1, m0, 13) ∨
      ∃ u x v, l = u ++ x :: v ∧ (∀ o ∈ u, ansO server port (decS s).1 o = false) ∧ ansO server port (decS s).1 x = true ∧ matchS l server port s = ((u.length : Int), (decS s).1, 0)) := by
  by_cases h : (decS s).2 ≠ 0 ∨ isAns (decS s).1 = false
  · exact .inl fun l => match_no h
  · have h1 : (decS s).2 = 0 := by
      by_cases h1 : (decS s).2 = 0
      · exact h1
      · exact absurd (.inl h1) h
    have h2 : isAns (decS s).1 = true := by
      cases h2 : isAns (decS s).1 with
      | true => rfl
      | false => exact absurd (.inr h2) h
    refine .inr ⟨h1, h2, fun l => ?_⟩
    unfold matchS
    rw [match_yes h1 h2]
    have := scan_first server port (decS s).1 l 0
    simpa only [Nat.zero_add] using this
theorem match_none {server : List UInt8} {port : Int} {s : List UInt8} (h1 : (decS s).2 = 0) (h2 : isAns (decS s).1 = true) {l : List Ot} (h : ∀ o ∈ l, ansO server port (decS s).1 o = false) : matchS l server port s = (-1, m0, 13) := by
  unfold matchS
  rw [match_yes h1 h2]
  rcases scan_first server port (decS s).1 l 0 with ⟨_, h3⟩ | ⟨u, x, v, e, _, hx, _⟩
  · exact h3
  · rw [h x (by rw [e]; simp)] at hx; simp at hx
theorem match_one {server : List UInt8} {port : Int} {s : List UInt8} (h1 : (decS s).2 = 0) (h2 : isAns (decS s).1 = true) {x : Ot} (h : ansO server port (decS s).1 x = true) : matchS [x] server port s = (0, (decS s).1, 0) := by
  unfold matchS
  rw [match_yes h1 h2]
  unfold scanF
  rw [h]
  rfl
end Go.Abs

namespace Go.Abs
open Go
abbrev ansA (id : Int) (q : Qt) : Mt := (id, 33792, [q], [], [], [])
theorem optR_ok : recC optR = true := by kernel_rfl
theorem check_one {id bits : Int} {q : Qt} {l : List RRt} (h1 : 0 ≤ id ∧ id ≤ 65535) (h2 : 0 ≤ bits ∧ bits ≤ 65535) (hq : okQ q = true) (hl : l.length ≤ 1) (hr : ∀ r ∈ l, recC r = true) : checkM (id, bits, [q], [], [], l) = true :=
  checkM_mk h1 h2 (by simp) (by simpa using hq) (by simp) (by simp) (by simp) (by simp) (by simp; omega) hr
theorem ask_enc {o : Ot} (h : okO o = true) : (encM (askM o)).2 = 0 := by
  obtain ⟨h0, h1, h2, hq⟩ := okO_iff h
  have hn := nameS_pos (okQ_iff hq).1
  have hc : checkM (askM o) = true := check_one h1 ⟨by omega, by omega⟩ hq (by simp) (by simpa using optR_ok)
  rw [encM_mk hc]
  have hrl : (recE (qO o).1 12 optR).length ≤ 300 := by
    unfold recE
    split
    · simp
    · have := writeS_len (qO o).1 optR.1 12
      simp [tailE, optR, put2, put4] at this ⊢
      omega
  simp only [wholeE, askM, baseM, List.length_append, headE_len, List.map_cons, List.map_nil, List.flatten_cons, List.flatten_nil, encs, List.length_nil, encQ, put2, List.length_cons]
  omega
theorem ans_enc {id : Int} {q : Qt} (h1 : 0 ≤ id ∧ id ≤ 65535) (hq : okQ q = true) : (encM (ansA id q)).2 = 0 := by
  have hn := nameS_pos (okQ_iff hq).1
  have hc : checkM (ansA id q) = true := check_one h1 ⟨by omega, by omega⟩ hq (by simp) (by simp)
  rw [encM_mk hc]
  simp only [wholeE, baseM, List.length_append, headE_len, List.map_cons, List.map_nil, List.flatten_cons, List.flatten_nil, encs, List.length_nil, encQ, put2, List.length_cons]
  omega
theorem ans_dec {id : Int} {q : Qt} (h1 : 0 ≤ id ∧ id ≤ 65535) (hq : okQ q = true) : decS (encM (ansA id q)).1 = (ansA id q, 0) := dec_enc (ans_enc h1 hq)
theorem ans_is {id : Int} {q : Qt} : isAns (ansA id q) = true := by
  have h1 : qrS 33792 = 1 := rfl
  have h2 : opS 33792 = 0 := rfl
  simp [isAns, h1, h2]
theorem enc_len (m : Mt) : (encM m).1.length ≤ 65535 := by
  by_cases h : (encM m).2 = 0
  · obtain ⟨_, hw, hl⟩ := encM_ok h
    rw [hw]; exact hl
  · rw [(encM_err h).1]; simp
/-- whether one question is answered -/
theorem match_ans {o : Ot} {id : Int} {q : Qt} {server : List UInt8} {port : Int} (h : okO o = true) (h1 : 0 ≤ id ∧ id ≤ 65535) (hq : okQ q = true) :
    matchS [o] server port (encM (ansA id q)).1 = if (o.2.2.1 == server && (o.2.1 == port) && (o.1 == id) && decide (qO o = q)) = true then (0, ansA id q, 0) else (-1, m0, 13) := by
  have hd := ans_dec h1 hq
  have h2 : (decS (encM (ansA id q)).1).2 = 0 := by rw [hd]
  have h3 : isAns (decS (encM (ansA id q)).1).1 = true := by rw [hd]; exact ans_is
  have ha : ansO server port (decS (encM (ansA id q)).1).1 o = (o.2.2.1 == server && (o.2.1 == port) && (o.1 == id) && decide (qO o = q)) := by
    rw [hd]
    unfold ansO
    rw [h]
    simp
  split
  · rename_i hc
    rw [match_one h2 h3 (by rw [ha]; exact hc), hd]
  · rename_i hc
    exact match_none h2 h3 (by simpa [ha] using hc)
theorem match_bad {o : Ot} {id : Int} {q : Qt} {server : List UInt8} {port : Int} (h1 : ¬ (0 ≤ id ∧ id ≤ 65535)) : (matchS [o] server port (encM (ansA id q)).1).2.2 ≠ 0 := by
  have hc : checkM (ansA id q) = false := by
    cases hc : checkM (ansA id q) with
    | false => rfl
    | true => exact absurd (checkM_iff hc).1 h1
  have he : (encM (ansA id q)).1 = [] := by unfold encM; rw [hc]; rfl
  rw [he]
  have hz : (decS []).2 ≠ 0 := by decide +kernel
  unfold matchS
  rw [match_no (.inl hz)]
  decide
theorem match_not {o : Ot} (h : okO o = false) (server : List UInt8) (port : Int) (s : List UInt8) : (matchS [o] server port s).2.2 ≠ 0 := by
  rcases match_cases server port s with h1 | ⟨g1, g2, h1⟩
  · rw [h1]; decide
  · rw [match_none g1 g2 (fun x hx => by simp only [List.mem_singleton] at hx; subst hx; unfold ansO; rw [h]; rfl)]
    decide
theorem letter_some (c : Int) : ∃ b, F_ref03_letter c = some b := by
  unfold F_ref03_letter
  split
  · split
    · split
      · exact ⟨_, rfl⟩
      · exact ⟨_, rfl⟩
    · exact ⟨_, rfl⟩
  · split
    · exact ⟨_, rfl⟩
    · exact ⟨_, rfl⟩
theorem mix_loop (bits : Int) : ∀ (d : Nat) (b : List Int) (k i : Nat), b.length ≤ 1000 → i + d = b.length → k ≤ i → ∃ r, loopS (step_ref03_Mix_0 bits) (b, (k : Int), (i : Int)) = some r
  | 0, b, k, i, hl, hd, hk => by
    refine ⟨b, loopS_out ?_⟩
    simp only [step_ref03_Mix_0, grdEq_self]
    rw [if_neg (by simp; omega)]
  | d + 1, b, k, i, hl, hd, hk => by
    obtain ⟨x, hx⟩ : ∃ x, b[i]? = some x := ⟨b[i]'(by omega), List.getElem?_eq_getElem (by omega)⟩
    have c0 : decide ((i : Int) < (b.length : Int)) = true := by simp; omega
    have hw : Go.IntKind.i64.wrap ((i : Int) + 1) = ((i + 1 : Nat) : Int) := by rw [wrap_id (by omega) (by omega)]; rfl
    have hwk : Go.IntKind.i64.wrap ((k : Int) + 1) = ((k + 1 : Nat) : Int) := by rw [wrap_id (by omega) (by omega)]; rfl
    have hm : ((k : Int)).tmod 40 = ((k % 40 : Nat) : Int) := Int.tmod_eq_emod_of_nonneg (by omega)
    obtain ⟨c, hc⟩ := letter_some x
    cases c with
    | false =>
      obtain ⟨r, hr⟩ := mix_loop bits d b k (i + 1) hl (by omega) (by omega)
      refine ⟨r, ?_⟩
      rw [loopS_next (y := (b, (k : Int), ((i + 1 : Nat) : Int)))]
      · exact hr
      · simp only [step_ref03_Mix_0, c0, if_true, natOf_nat, hx, bnd_some, grdEq_self, hc, Bool.false_eq_true, if_false, hw]
    | true =>
      by_cases hb : (Go.bits Go.BinOp.and Go.IntKind.i64 (bits.fdiv (2 ^ min (k % 40) 64)) 1 == 1) = true
      · obtain ⟨r, hr⟩ := mix_loop bits d (b.set i (Go.IntKind.u8.wrap (x - 32))) (k + 1) (i + 1) (by simpa using hl) (by simp; omega) (by omega)
        refine ⟨r, ?_⟩
        rw [loopS_next (y := (b.set i (Go.IntKind.u8.wrap (x - 32)), ((k + 1 : Nat) : Int), ((i + 1 : Nat) : Int)))]
        · exact hr
        · simp only [step_ref03_Mix_0, c0, if_true, natOf_nat, hx, bnd_some, grdEq_self, hc, hm, hb, hw, hwk]
      · obtain ⟨r, hr⟩ := mix_loop bits d b (k + 1) (i + 1) hl (by omega) (by omega)
        refine ⟨r, ?_⟩
        rw [loopS_next (y := (b, ((k + 1 : Nat) : Int), ((i + 1 : Nat) : Int)))]
        · exact hr
        · simp only [step_ref03_Mix_0, c0, if_true, natOf_nat, hx, bnd_some, grdEq_self, hc, hm, hb, Bool.false_eq_true, if_false, hw, hwk]
theorem mix_some {n : List UInt8} {bits : Int} (hn : n.length ≤ 300) : ∃ v, F_ref03_Mix n bits = some v := by
  have hm : maxI = 9223372036854775807 := rfl
  unfold F_ref03_Mix
  rw [ref02_Check_eq, bnd_some]
  simp only [grdEq_self]
  have hlow : (lowS n).length = n.length := by simp [lowS]
  obtain ⟨r, hr⟩ := mix_loop bits n.length ((lowS n).map fun b => (b.toNat : Int)) 0 0 (by simp [hlow]; omega) (by simp [hlow]) (Nat.le_refl _)
  simp only [Int.natCast_zero] at hr
  cases nameS n with
  | false => exact ⟨_, rfl⟩
  | true =>
    simp only [Bool.not_true, if_true]
    by_cases h1 : bits < 0
    · simp only [h1, decide_true, Bool.true_eq_false, if_false, bnd_some]
      exact ⟨_, rfl⟩
    · simp only [h1, decide_false, if_true]
      split
      · rw [bnd_some]; exact ⟨_, rfl⟩
      · rw [bnd_some]
        simp only
        rw [ref02_Small_eq (by omega), bnd_some, hr, bnd_some]
        exact ⟨_, rfl⟩
theorem law_QueryExact (o : Ot) (bits : Int) (other : Ot) : F_law20_QueryExact o bits other = some true := by
  have hm : maxI = 9223372036854775807 := rfl
  unfold F_law20_QueryExact
  rw [live20]
  simp only [grdEq_self]
  by_cases g1 : o.2.2.2.1.length ≤ 300
  rotate_left
  · have e1 : decide (300 < (o.snd.snd.snd.fst.length : Int)) = true := by simp; omega
    simp only [e1, Bool.true_eq_false, if_false, bnd_some, if_true]
  have e1 : decide (300 < (o.snd.snd.snd.fst.length : Int)) = false := by simp; omega
  by_cases g2 : other.2.2.2.1.length ≤ 300
  rotate_left
  · have e2 : decide (300 < (other.snd.snd.snd.fst.length : Int)) = true := by simp; omega
    simp only [e1, e2, Bool.true_eq_false, if_false, bnd_some, if_true]
  have e2 : decide (300 < (other.snd.snd.snd.fst.length : Int)) = false := by simp; omega
  by_cases g3 : o.2.2.1.length ≤ 100
  rotate_left
  · have e3 : decide (100 < (o.snd.snd.fst.length : Int)) = true := by simp; omega
    simp only [e1, e2, e3, Bool.true_eq_false, if_false, bnd_some, if_true]
  have e3 : decide (100 < (o.snd.snd.fst.length : Int)) = false := by simp; omega
  by_cases g4 : other.2.2.1.length ≤ 100
  rotate_left
  · have e4 : decide (100 < (other.snd.snd.fst.length : Int)) = true := by simp; omega
    simp only [e1, e2, e3, e4, if_true, bnd_some]
  have e4 : decide (100 < (other.snd.snd.fst.length : Int)) = false := by simp; omega
  simp only [e1, e2, e3, e4, if_true, bnd_some, Bool.false_eq_true, if_false]
  have hoe : (o.fst, o.snd.fst, o.snd.snd.fst, o.snd.snd.snd.fst, o.snd.snd.snd.snd.fst, o.snd.snd.snd.snd.snd.fst, o.snd.snd.snd.snd.snd.snd.fst, o.snd.snd.snd.snd.snd.snd.snd) = o := rfl
  rw [hoe]
  have hnl : (o.2.2.2.1.length : Int) ≤ maxI := by omega
  have hmm : ∀ (server : List UInt8) (port : Int) (m : Mt), F_query_Match [o] server port (encM m).1 = some (matchS [o] server port (encM m).1) := fun server port m =>
    query_Match_eq (Nat.le_trans (enc_len m) (by omega)) (by simp; omega) (fun x hx => by simp only [List.mem_singleton] at hx; subst hx; exact hnl)
  rw [query_Out_Check_eq hnl, bnd_some, answer_eq, query_Out_Bytes_eq hnl]
  simp only [bnd_some, hmm]
  cases h : okO o with
  | false =>
    have hb : bytesO o = [] := by unfold bytesO; rw [h]; rfl
    have hne := match_not h o.snd.snd.fst o.snd.fst (encM (ansM o)).1
    rw [hb]
    simp only [Bool.not_false, if_true, BEq.rfl]
    rw [if_pos (by simpa using hne)]
  | true =>
    obtain ⟨h0, h1, h2, hq⟩ := okO_iff h
    have hb : bytesO o = (encM (askM o)).1 := by unfold bytesO; rw [h]; rfl
    have hd := dec_enc (ask_enc h)
    have hA : ansM o = ansA o.1 (qO o) := rfl
    have m1 : matchS [o] o.snd.snd.fst o.snd.fst (encM (ansM o)).1 = (0, ansA o.1 (qO o), 0) := by
      rw [hA, match_ans h h1 hq, if_pos (by simp)]
    have m2 : (matchS [o] other.snd.snd.fst other.snd.fst (encM (ansM o)).1).2.2 = if o.2.2.1 = other.2.2.1 ∧ o.2.1 = other.2.1 then 0 else 13 := by
      rw [hA, match_ans h h1 hq]
      by_cases c1 : o.2.2.1 = other.2.2.1 <;> by_cases c2 : o.2.1 = other.2.1 <;> simp [c1, c2]
    rw [hb, ref08_Decode_eq (Nat.le_trans (enc_len _) (by omega)), bnd_some, hd, m1]
    simp only [Bool.not_true, Bool.false_eq_true, if_false, backM, askM, bne_self_eq_false, if_true, List.length_cons, List.length_nil, bnd_some]
    have k1 : (((0 + 1 : Nat) : Int) != 1) = false := rfl
    simp only [k1, Bool.false_eq_true, if_false, bnd_some, List.getElem?_cons_zero, qO, BEq.rfl, Bool.and_true, Bool.not_true, bne_self_eq_false, if_true]
    generalize matchS [o] other.snd.snd.fst other.snd.fst (encM (ansM o)).1 = r2 at *
    obtain ⟨r21, r22, r23⟩ := r2
    simp only at m2
    -- from elsewhere
    have t2 : (if (other.snd.snd.fst == o.snd.snd.fst) = true then
              if (!(r23 == 0) == (other.snd.fst == o.snd.fst)) = true then
                some (Sum.inl (β := Unit) false)
              else
                some (.inr (()))
            else
              if (!(r23 == 0) == false) = true then
                some (.inl false)
              else
                some (.inr (()))) = some (.inr ()) := by
      subst m2
      by_cases c1 : o.2.2.1 = other.2.2.1
      · by_cases c2 : o.2.1 = other.2.1
        · simp [c1, c2]
        · have c2' : ¬ other.2.1 = o.2.1 := fun e => c2 e.symm
          simp [c1, c2, c2']
      · have c1' : ¬ other.2.2.1 = o.2.2.1 := fun e => c1 e.symm
        simp [c1, c1']
    simp only [t2, bnd_some]
    -- in other letters
    obtain ⟨v, hv⟩ := mix_some (n := o.snd.snd.snd.fst) (bits := bits) g1
    simp only [hv, bnd_some, ref02_Check_eq]
    have t3 : (bnd (α := Bool) (if (!v == []) = true then some (nameS v) else some false) fun s179_35 =>
              if s179_35 = true then
                bnd (F_law20_answer (o.fst, o.snd.fst, o.snd.snd.fst, v, o.snd.snd.snd.snd.fst, o.snd.snd.snd.snd.snd.fst, o.snd.snd.snd.snd.snd.snd.fst, o.snd.snd.snd.snd.snd.snd.snd)) fun v36 =>
                bnd (F_query_Match [o] o.snd.snd.fst o.snd.fst v36) fun (v37, v38, v39) =>
                if (!(v39 == 0) == (v == o.snd.snd.snd.fst)) = true then
                  some (Sum.inl (β := Unit) false)
                else
                  some (.inr (()))
              else
                some (.inr (()))) = some (.inr ()) := by
      cases hvn : nameS v with
      | false => cases (!v == []) <;> rfl
      | true =>
        have hvq : okQ (v, (qO o).2) = true := by
          unfold okQ at hq ⊢
          simp only [Bool.and_eq_true] at hq ⊢
          exact ⟨⟨hvn, hq.1.2⟩, hq.2⟩
        have hAv : ansM (o.fst, o.snd.fst, o.snd.snd.fst, v, o.snd.snd.snd.snd.fst, o.snd.snd.snd.snd.snd.fst, o.snd.snd.snd.snd.snd.snd.fst, o.snd.snd.snd.snd.snd.snd.snd) = ansA o.1 (v, (qO o).2) := rfl
        rw [answer_eq, hAv]
        cases hve : (!v == []) with
        | false => rfl
        | true =>
          simp only [if_true, bnd_some, hmm]
          by_cases c : v = o.snd.snd.snd.fst
          · have m3 : matchS [o] o.snd.snd.fst o.snd.fst (encM (ansA o.1 (v, (qO o).2))).1 = (0, ansA o.1 (v, (qO o).2), 0) := by
              rw [match_ans h h1 hvq, if_pos (by simp [qO, c])]
            have c2 : (v == o.snd.snd.snd.fst) = true := by simpa using c
            simp [m3, c2]
          · have c' : ¬ qO o = (v, (qO o).2) := fun e => c (congrArg Prod.fst e).symm
            have m3 : matchS [o] o.snd.snd.fst o.snd.fst (encM (ansA o.1 (v, (qO o).2))).1 = (-1, m0, 13) := by
              rw [match_ans h h1 hvq, if_neg (by simp [c'])]
            have c2 : (v == o.snd.snd.snd.fst) = false := by simpa using c
            simp [m3, c2]
    rw [t3]
    simp only [bnd_some]
    -- with another number
    have hAi : ansM (other.fst, o.snd.fst, o.snd.snd.fst, o.snd.snd.snd.fst, o.snd.snd.snd.snd.fst, o.snd.snd.snd.snd.snd.fst, o.snd.snd.snd.snd.snd.snd.fst, o.snd.snd.snd.snd.snd.snd.snd) = ansA other.1 (qO o) := rfl
    rw [answer_eq, hAi, bnd_some, hmm, bnd_some]
    by_cases hi : 0 ≤ other.1 ∧ other.1 ≤ 65535
    · by_cases c : o.1 = other.1
      · have m4 : matchS [o] o.snd.snd.fst o.snd.fst (encM (ansA other.1 (qO o))).1 = (0, ansA other.1 (qO o), 0) := by
          rw [match_ans h hi hq, if_pos (by simp [c])]
        simp [m4, c]
      · have m4 : matchS [o] o.snd.snd.fst o.snd.fst (encM (ansA other.1 (qO o))).1 = (-1, m0, 13) := by
          rw [match_ans h hi hq, if_neg (by simp [c])]
        have c2 : (other.1 == o.1) = false := by
          have : ¬ other.1 = o.1 := fun e => c e.symm
          simpa using this
        simp [m4, c2]
    · have hb := match_bad (o := o) (q := qO o) (server := o.snd.snd.fst) (port := o.snd.fst) hi
      generalize matchS [o] o.snd.snd.fst o.snd.fst (encM (ansA other.fst (qO o))).1 = r3 at *
      obtain ⟨r31, r32, r33⟩ := r3
      simp only at hb
      have c2 : (other.1 == o.1) = false := by
        have : ¬ other.1 = o.1 := fun e => hi (by rw [e]; exact h1)
        simpa using this
      have c3 : (r33 == 0) = false := by simpa using hb
      simp only [c2, c3, if_true, BEq.rfl]
end Go.Abs
