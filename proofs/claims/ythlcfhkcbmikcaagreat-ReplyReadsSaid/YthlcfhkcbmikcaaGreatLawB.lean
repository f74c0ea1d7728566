/- Part of a proof. -/
import Derived.Test.YthlcfhkcbmikcaaGreatLawA
import Derived.Test.YthlcfhkcbmikcaaGreatSxB
set_option linter.unusedSimpArgs false
set_option linter.unusedVariables false
set_option linter.unusedSectionVars false
namespace Go.Abs
open Go
end Go.Abs

namespace Go.Abs
open Go
abbrev Qt := List UInt8 × Int × Int
abbrev Mt := Int × Int × List Qt × List RRt × List RRt × List RRt
def m0 : Mt := (0, 0, [], [], [], [])
def qS (s : List UInt8) (a : Int) : Qt × Int × Int :=
  if (readS s a).2.2 ≠ 0 then (([], 0, 0), 0, (readS s a).2.2)
  else match getS s (readS s a).2.1 2, getS s ((readS s a).2.1 + 2) 2 with
    | some k, some c => (((readS s a).1, k, c), (readS s a).2.1 + 4, 0)
    | _, _ => (([], 0, 0), 0, 2)
theorem getS2_b {s : List UInt8} {x v : Int} (h : getS s x 2 = some v) : 0 ≤ v ∧ v < 65536 := by
  obtain ⟨b0, b1, _, _⟩ := getS_bounds h
  obtain ⟨w, hw, w0, w1⟩ := getS_some (s := s) (a := x) (n := 2) b0 (by omega) (by omega) b1
  rw [h] at hw
  cases hw
  have p2 : (256 : Int) ^ (2 : Int).toNat = 65536 := by decide
  rw [p2] at w1
  exact ⟨w0, w1⟩
theorem qS_ends (s : List UInt8) (a : Int) : ((qS s a).2.2 = 0 → 0 ≤ a ∧ a < (qS s a).2.1 ∧ (qS s a).2.1 ≤ s.length) := by
  obtain ⟨e1, e2, e3⟩ := readS_ends s a
  unfold qS
  by_cases he : (readS s a).2.2 = 0
  · rw [if_neg (by simpa using he)]
    obtain ⟨b0, b1, b2⟩ := e2 he
    generalize (readS s a) = r at *
    cases hk : getS s r.2.1 2 with
    | none => simp
    | some k =>
      cases hc : getS s (r.2.1 + 2) 2 with
      | none => simp
      | some c =>
        have := getS_bounds hc
        simp
        omega
  · rw [if_pos he]
    intro h
    exact absurd h he
theorem msg_question_eq {s : List UInt8} (hs : (s.length : Int) ≤ maxI) (a : Int) : F_msg_question s a = some (qS s a) := by
  have hm : maxI = 9223372036854775807 := rfl
  obtain ⟨e1, e2, e3⟩ := readS_ends s a
  unfold F_msg_question qS
  rw [comp_Read_eq hs, bnd_some]
  generalize readS s a = r at *
  obtain ⟨nm, i, e⟩ := r
  simp only at *
  by_cases he : e = 0
  · subst he
    obtain ⟨b0, b1, b2⟩ := e2 rfl
    simp only [bne_self_eq_false, Bool.false_eq_true, if_false, ne_eq, not_true_eq_false, Get_eq hs, bnd_some]
    by_cases hi : i + 2 ≤ maxI
    · rw [wrap_id (x := i + 2) (by omega) (by omega)]
      cases hc : getS s (i + 2) 2 with
      | none => cases getS s i 2 <;> rfl
      | some c =>
        obtain ⟨c0, c1, _, _⟩ := getS_bounds hc
        obtain ⟨k, hk, _⟩ := getS_some (s := s) (a := i) (n := 2) (by omega) (by omega) (by omega) (by omega)
        simp only [hk, twoI, Bool.not_true, Bool.false_eq_true, if_false, wrap_id (x := i + 4) (by omega) (by omega)]
    · have hk : getS s i 2 = none := getS_none (by omega)
      have hc : getS s (i + 2) 2 = none := getS_none (by omega)
      have hw : getS s (IntKind.i64.wrap (i + 2)) 2 = none := by
        unfold getS takeS
        have : ¬ (0 ≤ IntKind.i64.wrap (i + 2)) := by
          simp only [IntKind.wrap, IntKind.bits, IntKind.signed]
          simp
          omega
        rw [if_pos (by omega), if_neg (fun h => this h.1)]
        rfl
      simp only [hk, hc, hw]
      rfl
  · have hne : (e != 0) = true := by simp [he]
    simp only [hne, if_true, ne_eq, he, not_false_eq_true]
def manyS {α : Type} (f : Int → α × Int × Int) : Nat → Int → List α × Int × Int
  | 0, a => ([], a, 0)
  | n + 1, a => if (f a).2.2 ≠ 0 then ([], 0, (f a).2.2) else if (manyS f n (f a).2.1).2.2 ≠ 0 then ([], 0, (manyS f n (f a).2.1).2.2) else ((f a).1 :: (manyS f n (f a).2.1).1, (manyS f n (f a).2.1).2.1, 0)
theorem manyS_bad {α : Type} {f : Int → α × Int × Int} {n : Nat} {a : Int} (h : (f a).2.2 ≠ 0) : manyS f (n + 1) a = ([], 0, (f a).2.2) := by
  show (if (f a).2.2 ≠ 0 then _ else _) = _
  rw [if_pos h]
theorem manyS_ok {α : Type} {f : Int → α × Int × Int} {n : Nat} {a : Int} (h : (f a).2.2 = 0) : manyS f (n + 1) a = if (manyS f n (f a).2.1).2.2 ≠ 0 then ([], 0, (manyS f n (f a).2.1).2.2) else ((f a).1 :: (manyS f n (f a).2.1).1, (manyS f n (f a).2.1).2.1, 0) := by
  show (if (f a).2.2 ≠ 0 then _ else _) = _
  rw [if_neg (by simpa using h)]
def cntS (s : List UInt8) (i : Int) : Nat := ((getS s i 2).getD 0).toNat
theorem cnt_le (s : List UInt8) (i : Int) : cntS s i ≤ 65535 := by
  unfold cntS
  cases h : getS s i 2 with
  | none => simp
  | some v => have := getS2_b h; simp; omega
theorem many_bad {α : Type} {f : Int → α × Int × Int} : ∀ (n : Nat) (a : Int), (manyS f n a).2.2 ≠ 0 → (manyS f n a).1 = [] ∧ (manyS f n a).2.1 = 0
  | 0, a, h => by simp [manyS] at h
  | n + 1, a, h => by
    rw [manyS] at h ⊢
    split
    · simp
    · split
      · simp
      · rename_i h1 h2
        rw [if_neg h1, if_neg h2] at h
        simp at h
theorem ref_section_loop {s : List UInt8} (hs : s.length ≤ 1000000) (m : Nat) (hm : m ≤ 65535) : ∀ (n : Nat) (k : Nat) (a : Int) (acc : List RRt), k + n = m → acc.length = k →
    loopS (step_ref08_section_0 s (m : Int)) (a, (acc, (k : Int))) = some (if (manyS (recS s) n a).2.2 ≠ 0 then .inl (0, (manyS (recS s) n a).2.2) else .inr ((manyS (recS s) n a).2.1, acc ++ (manyS (recS s) n a).1))
  | 0, k, a, acc, hk, ha => by
    refine loopS_out ?_
    simp only [step_ref08_section_0]
    rw [if_neg (by simp; omega)]
    simp [manyS]
  | n + 1, k, a, acc, hk, ha => by
    have c0 : decide ((k : Int) < (m : Int)) = true := by simp; omega
    by_cases he : (recS s a).2.2 = 0
    · have hx : ((recS s a).2.2 != 0) = false := by simp [he]
      rw [loopS_next (y := ((recS s a).2.1, (acc ++ [(recS s a).1], ((k + 1 : Nat) : Int))))]
      · rw [ref_section_loop hs m hm n (k + 1) _ _ (by omega) (by simp [ha])]
        rw [manyS_ok he]
        by_cases h2 : (manyS (recS s) n (recS s a).2.1).2.2 = 0
        · simp [h2]
        · simp [h2]
      · simp only [step_ref08_section_0, c0, if_true, ref06_Decode_eq hs, bnd_some, hx, Bool.false_eq_true, if_false, grdEq_self]
        rw [grdp (by unfold roomLim; simp; omega), wrap_id (by omega) (by omega)]
        rfl
    · have hx : ((recS s a).2.2 != 0) = true := by simp [he]
      refine loopS_out ?_
      simp only [step_ref08_section_0, c0, if_true, ref06_Decode_eq hs, bnd_some, hx]
      rw [manyS_bad he]
      simp [he]
theorem ref_section_eq {s : List UInt8} (hs : s.length ≤ 1000000) (a : Int) {m : Nat} (hm : m ≤ 65535) : F_ref08_section s a (m : Int) = some (manyS (recS s) m a) := by
  unfold F_ref08_section
  have := ref_section_loop hs m hm m 0 a [] (by omega) rfl
  simp only [Int.natCast_zero] at this
  rw [this, bnd_some]
  by_cases he : (manyS (recS s) m a).2.2 = 0
  · rw [if_neg (by simpa using he)]
    simp only [List.nil_append]
    rw [← he]
  · rw [if_pos he]
    obtain ⟨k1, k2⟩ := many_bad m a he
    simp only
    rw [← k1, ← k2]
theorem ref_questions_loop {s : List UInt8} (hs : s.length ≤ 1000000) (m : Nat) (hm : m ≤ 65535) : ∀ (n : Nat) (k : Nat) (a : Int) (acc : List Qt), k + n = m → acc.length = k →
    loopS (step_ref08_questions_0 s (m : Int)) (a, (acc, (k : Int))) = some (if (manyS (qS s) n a).2.2 ≠ 0 then .inl (0, (manyS (qS s) n a).2.2) else .inr ((manyS (qS s) n a).2.1, acc ++ (manyS (qS s) n a).1))
  | 0, k, a, acc, hk, ha => by
    refine loopS_out ?_
    simp only [step_ref08_questions_0]
    rw [if_neg (by simp; omega)]
    simp [manyS]
  | n + 1, k, a, acc, hk, ha => by
    have hmx : maxI = 9223372036854775807 := rfl
    have hs' : (s.length : Int) ≤ maxI := by omega
    have c0 : decide ((k : Int) < (m : Int)) = true := by simp; omega
    obtain ⟨e1, e2, e3⟩ := readS_ends s a
    have hqe := qS_ends s a
    by_cases hr : (readS s a).2.2 = 0
    · obtain ⟨b0, b1, b2⟩ := e2 hr
      have hxr : ((readS s a).2.2 != 0) = false := by simp [hr]
      cases hc : getS s ((readS s a).2.1 + 2) 2 with
      | none =>
        have hq : (qS s a).2.2 = 2 := by
          unfold qS
          rw [if_neg (by simpa using hr), hc]
          cases getS s (readS s a).2.1 2 <;> rfl
        have ht : takeS s (readS s a).2.1 4 = none := by
          cases h : takeS s (readS s a).2.1 4 with
          | none => rfl
          | some t =>
            have := takeS_bounds h
            obtain ⟨w, hw, _⟩ := getS_some (s := s) (a := (readS s a).2.1 + 2) (n := 2) (by omega) (by omega) (by omega) (by omega)
            rw [hc] at hw
            simp at hw
        refine loopS_out ?_
        simp only [step_ref08_questions_0, c0, if_true, ref04_Read_eq hs', bnd_some, hxr, Bool.false_eq_true, if_false, ref01_Take_eq hs', ht, two, Bool.not_false]
        rw [manyS_bad (by omega), hq]
        simp
      | some c =>
        obtain ⟨c0', c1', _, _⟩ := getS_bounds hc
        obtain ⟨kk, hkk, _⟩ := getS_some (s := s) (a := (readS s a).2.1) (n := 2) (by omega) (by omega) (by omega) (by omega)
        have hq : qS s a = (((readS s a).1, kk, c), (readS s a).2.1 + 4, 0) := by
          unfold qS
          rw [if_neg (by simpa using hr), hc, hkk]
        have ht : ∃ t, takeS s (readS s a).2.1 4 = some t := by unfold takeS; rw [if_pos (by omega)]; exact ⟨_, rfl⟩
        obtain ⟨t, ht⟩ := ht
        rw [loopS_next (y := ((readS s a).2.1 + 4, (acc ++ [((readS s a).1, kk, c)], ((k + 1 : Nat) : Int))))]
        · rw [ref_questions_loop hs m hm n (k + 1) _ _ (by omega) (by simp [ha])]
          rw [manyS_ok (by rw [hq]), hq]
          by_cases h2 : (manyS (qS s) n ((readS s a).2.1 + 4)).2.2 = 0
          · simp [h2]
          · simp [h2]
        · simp only [step_ref08_questions_0, c0, if_true, ref04_Read_eq hs', bnd_some, hxr, Bool.false_eq_true, if_false, ref01_Take_eq hs', ht, two, Bool.not_true, ref01_Get_eq hs', wrap_id (x := (readS s a).2.1 + 2) (by omega) (by omega), hkk, hc, twoI, grdEq_self]
          rw [grdp (by unfold roomLim; simp; omega), wrap_id (x := (readS s a).2.1 + 4) (by omega) (by omega), wrap_id (by omega) (by omega)]
          rfl
    · have hxr : ((readS s a).2.2 != 0) = true := by simp [hr]
      have hq : (qS s a).2.2 = (readS s a).2.2 := by
        unfold qS
        rw [if_pos hr]
      refine loopS_out ?_
      simp only [step_ref08_questions_0, c0, if_true, ref04_Read_eq hs', bnd_some, hxr]
      rw [manyS_bad (by rw [hq]; exact hr), hq]
      simp [hr]
theorem ref_questions_eq {s : List UInt8} (hs : s.length ≤ 1000000) (a : Int) {m : Nat} (hm : m ≤ 65535) : F_ref08_questions s a (m : Int) = some (manyS (qS s) m a) := by
  unfold F_ref08_questions
  have := ref_questions_loop hs m hm m 0 a [] (by omega) rfl
  simp only [Int.natCast_zero] at this
  rw [this, bnd_some]
  by_cases he : (manyS (qS s) m a).2.2 = 0
  · rw [if_neg (by simpa using he)]
    simp only [List.nil_append]
    rw [← he]
  · rw [if_pos he]
    obtain ⟨k1, k2⟩ := many_bad m a he
    simp only
    rw [← k1, ← k2]
def decS (s : List UInt8) : Mt × Int :=
  if 65535 < s.length then (m0, 6) else if s.length < 12 then (m0, 2)
  else if (manyS (qS s) (cntS s 4) 12).2.2 ≠ 0 then (m0, (manyS (qS s) (cntS s 4) 12).2.2)
  else if (manyS (recS s) (cntS s 6) (manyS (qS s) (cntS s 4) 12).2.1).2.2 ≠ 0 then (m0, (manyS (recS s) (cntS s 6) (manyS (qS s) (cntS s 4) 12).2.1).2.2)
  else if (manyS (recS s) (cntS s 8) (manyS (recS s) (cntS s 6) (manyS (qS s) (cntS s 4) 12).2.1).2.1).2.2 ≠ 0 then (m0, (manyS (recS s) (cntS s 8) (manyS (recS s) (cntS s 6) (manyS (qS s) (cntS s 4) 12).2.1).2.1).2.2)
  else if (manyS (recS s) (cntS s 10) (manyS (recS s) (cntS s 8) (manyS (recS s) (cntS s 6) (manyS (qS s) (cntS s 4) 12).2.1).2.1).2.1).2.2 ≠ 0 then (m0, (manyS (recS s) (cntS s 10) (manyS (recS s) (cntS s 8) (manyS (recS s) (cntS s 6) (manyS (qS s) (cntS s 4) 12).2.1).2.1).2.1).2.2)
  else if (manyS (recS s) (cntS s 10) (manyS (recS s) (cntS s 8) (manyS (recS s) (cntS s 6) (manyS (qS s) (cntS s 4) 12).2.1).2.1).2.1).2.1 ≠ s.length then (m0, 5)
  else (((getS s 0 2).getD 0, (getS s 2 2).getD 0, (manyS (qS s) (cntS s 4) 12).1, (manyS (recS s) (cntS s 6) (manyS (qS s) (cntS s 4) 12).2.1).1,
    (manyS (recS s) (cntS s 8) (manyS (recS s) (cntS s 6) (manyS (qS s) (cntS s 4) 12).2.1).2.1).1, (manyS (recS s) (cntS s 10) (manyS (recS s) (cntS s 8) (manyS (recS s) (cntS s 6) (manyS (qS s) (cntS s 4) 12).2.1).2.1).2.1).1), 0)
def headS (s : List UInt8) : Int × Int × Bool := if s.length < 12 then (0, 0, false) else ((getS s 0 2).getD 0, (getS s 2 2).getD 0, true)
theorem twoI_1 (o : Option Int) : (twoI o).1 = o.getD 0 := by cases o <;> rfl
theorem ref08_Head_eq {s : List UInt8} (hs : (s.length : Int) ≤ maxI) : F_ref08_Head s = some (headS s) := by
  unfold F_ref08_Head headS
  by_cases h : s.length < 12
  · rw [if_pos (by simp; omega), if_pos h]
  · rw [if_neg (by simp; omega), if_neg h]
    simp only [ref01_Get_eq hs, bnd_some, twoI_1]
theorem msg_Head_eq {s : List UInt8} (hs : (s.length : Int) ≤ maxI) : F_msg_Head s = some (headS s) := by
  unfold F_msg_Head headS
  by_cases h : s.length < 12
  · rw [if_pos (by simp; omega), if_pos h]
  · rw [if_neg (by simp; omega), if_neg h]
    simp only [Get_eq hs, bnd_some, twoI_1]
theorem cnt_get {s : List UInt8} {i : Int} : (twoI (getS s i 2)).1 = (cntS s i : Int) := by
  rw [twoI_1]
  unfold cntS
  cases h : getS s i 2 with
  | none => rfl
  | some v => have := getS2_b h; simp; omega
theorem ref08_Decode_eq {s : List UInt8} (hs : s.length ≤ 1000000) : F_ref08_Decode s = some (decS s) := by
  have hm : maxI = 9223372036854775807 := rfl
  have hs' : (s.length : Int) ≤ maxI := by omega
  unfold F_ref08_Decode decS
  by_cases h1 : 65535 < s.length
  · rw [if_pos (by simp; omega), if_pos h1]; rfl
  · rw [if_neg (by simp; omega), if_neg h1, ref08_Head_eq hs', bnd_some]
    unfold headS
    by_cases h2 : s.length < 12
    · simp only [h2, if_true, Bool.not_false]; rfl
    · simp only [h2, if_false, Bool.not_true, Bool.false_eq_true, ref01_Get_eq hs', bnd_some, cnt_get, ref_questions_eq hs _ (cnt_le s _), ref_section_eq hs _ (cnt_le s _)]
      generalize manyS (qS s) (cntS s 4) 12 = q
      obtain ⟨qs, a1, e1⟩ := q
      simp only
      by_cases g1 : e1 = 0
      · subst g1
        simp only [bne_self_eq_false, Bool.false_eq_true, if_false, ne_eq, not_true_eq_false]
        generalize manyS (recS s) (cntS s 6) a1 = q
        obtain ⟨an, a2, e2⟩ := q
        simp only
        by_cases g2 : e2 = 0
        · subst g2
          simp only [bne_self_eq_false, Bool.false_eq_true, if_false, ne_eq, not_true_eq_false]
          generalize manyS (recS s) (cntS s 8) a2 = q
          obtain ⟨ns, a3, e3⟩ := q
          simp only
          by_cases g3 : e3 = 0
          · subst g3
            simp only [bne_self_eq_false, Bool.false_eq_true, if_false, ne_eq, not_true_eq_false]
            generalize manyS (recS s) (cntS s 10) a3 = q
            obtain ⟨ar, a4, e4⟩ := q
            simp only
            by_cases g4 : e4 = 0
            · subst g4
              simp only [bne_self_eq_false, Bool.false_eq_true, if_false, ne_eq, not_true_eq_false]
              by_cases g5 : a4 = s.length
              · simp [g5]
              · simp [g5, m0]
            · simp [g4, m0]
          · simp [g3, m0]
        · simp [g2, m0]
      · simp [g1, m0]
end Go.Abs

namespace Go.Abs
open Go
theorem dec_loop0 {s : List UInt8} (hs : s.length ≤ 1000000) (v2 v3 : Int) (m : Nat) (hm : m ≤ 65535) : ∀ (n : Nat) (k : Nat) (a : Int) (acc : List Qt), k + n = m → acc.length = k →
    ∃ r, loopS (step_msg_Decode_0 s v2 v3 (m : Int)) (a, ((k : Int), acc)) = some r ∧ (if (manyS (qS s) n a).2.2 ≠ 0 then ∃ x, r = .inl ((manyS (qS s) n a).2.2, x) else r = .inr ((manyS (qS s) n a).2.1, acc ++ (manyS (qS s) n a).1))
  | 0, k, a, acc, hk, ha => by
    refine ⟨.inr (a, acc), loopS_out ?_, by simp [manyS]⟩
    simp only [step_msg_Decode_0, grdEq_self]
    rw [if_neg (by simp; omega)]
  | n + 1, k, a, acc, hk, ha => by
    have hmx : maxI = 9223372036854775807 := rfl
    have c0 : decide ((k : Int) < (m : Int)) = true := by simp; omega
    by_cases he : (qS s a).2.2 = 0
    · have hx : ((qS s a).2.2 != 0) = false := by simp [he]
      obtain ⟨r, r1, r2⟩ := dec_loop0 hs v2 v3 m hm n (k + 1) (qS s a).2.1 (acc ++ [(qS s a).1]) (by omega) (by simp [ha])
      refine ⟨r, ?_, ?_⟩
      · rw [loopS_next (y := ((qS s a).2.1, (((k + 1 : Nat) : Int), acc ++ [(qS s a).1])))]
        · exact r1
        · simp only [step_msg_Decode_0, c0, if_true, msg_question_eq (s := s) (by omega), bnd_some, hx, Bool.false_eq_true, if_false, grdEq_self]
          rw [grdp (by unfold roomLim; simp; omega), wrap_id (by omega) (by omega)]
          rfl
      · rw [manyS_ok he]
        by_cases h2 : (manyS (qS s) n (qS s a).2.1).2.2 = 0
        · rw [if_neg (by simpa using h2)] at r2
          simp [h2, r2]
        · rw [if_pos h2] at r2
          obtain ⟨x, hx⟩ := r2
          simp [h2, hx]
    · have hx : ((qS s a).2.2 != 0) = true := by simp [he]
      refine ⟨.inl ((qS s a).2.2, acc), loopS_out ?_, ?_⟩
      · simp only [step_msg_Decode_0, c0, if_true, msg_question_eq (s := s) (by omega), bnd_some, hx, grdEq_self]
      · rw [manyS_bad he, if_pos he]
        exact ⟨_, rfl⟩
theorem dec_loop1 {s : List UInt8} (hs : s.length ≤ 1000000) (v2 v3 : Int) (qs : List Qt) (m : Nat) (hm : m ≤ 65535) : ∀ (n : Nat) (k : Nat) (a : Int) (acc : List RRt), k + n = m → acc.length = k →
    ∃ r, loopS (step_msg_Decode_1 s v2 v3 (m : Int)) (a, ((k : Int), (qs, acc))) = some r ∧ (if (manyS (recS s) n a).2.2 ≠ 0 then ∃ x, r = .inl ((manyS (recS s) n a).2.2, x) else r = .inr ((manyS (recS s) n a).2.1, (qs, acc ++ (manyS (recS s) n a).1)))
  | 0, k, a, acc, hk, ha => by
    refine ⟨.inr (a, (qs, acc)), loopS_out ?_, by simp [manyS]⟩
    simp only [step_msg_Decode_1, grdEq_self]
    rw [if_neg (by simp; omega)]
  | n + 1, k, a, acc, hk, ha => by
    have c0 : decide ((k : Int) < (m : Int)) = true := by simp; omega
    by_cases he : (recS s a).2.2 = 0
    · have hx : ((recS s a).2.2 != 0) = false := by simp [he]
      obtain ⟨r, r1, r2⟩ := dec_loop1 hs v2 v3 qs m hm n (k + 1) (recS s a).2.1 (acc ++ [(recS s a).1]) (by omega) (by simp [ha])
      refine ⟨r, ?_, ?_⟩
      · rw [loopS_next (y := ((recS s a).2.1, (((k + 1 : Nat) : Int), (qs, acc ++ [(recS s a).1]))))]
        · exact r1
        · simp only [step_msg_Decode_1, c0, if_true, record_Decode_eq hs, bnd_some, hx, Bool.false_eq_true, if_false, grdEq_self]
          rw [grdp (by unfold roomLim; simp; omega), wrap_id (by omega) (by omega)]
          rfl
      · rw [manyS_ok he]
        by_cases h2 : (manyS (recS s) n (recS s a).2.1).2.2 = 0
        · rw [if_neg (by simpa using h2)] at r2
          simp [h2, r2]
        · rw [if_pos h2] at r2
          obtain ⟨x, hx⟩ := r2
          simp [h2, hx]
    · have hx : ((recS s a).2.2 != 0) = true := by simp [he]
      refine ⟨.inl ((recS s a).2.2, (qs, acc)), loopS_out ?_, ?_⟩
      · simp only [step_msg_Decode_1, c0, if_true, record_Decode_eq hs, bnd_some, hx, grdEq_self]
      · rw [manyS_bad he, if_pos he]
        exact ⟨_, rfl⟩
theorem dec_loop2 {s : List UInt8} (hs : s.length ≤ 1000000) (v2 v3 : Int) (qs : List Qt) (an : List RRt) (m : Nat) (hm : m ≤ 65535) : ∀ (n : Nat) (k : Nat) (a : Int) (acc : List RRt), k + n = m → acc.length = k →
    ∃ r, loopS (step_msg_Decode_2 s v2 v3 (m : Int)) (a, ((k : Int), (qs, (an, acc)))) = some r ∧ (if (manyS (recS s) n a).2.2 ≠ 0 then ∃ x, r = .inl ((manyS (recS s) n a).2.2, x) else r = .inr ((manyS (recS s) n a).2.1, (qs, (an, acc ++ (manyS (recS s) n a).1))))
  | 0, k, a, acc, hk, ha => by
    refine ⟨.inr (a, (qs, (an, acc))), loopS_out ?_, by simp [manyS]⟩
    simp only [step_msg_Decode_2, grdEq_self]
    rw [if_neg (by simp; omega)]
  | n + 1, k, a, acc, hk, ha => by
    have c0 : decide ((k : Int) < (m : Int)) = true := by simp; omega
    by_cases he : (recS s a).2.2 = 0
    · have hx : ((recS s a).2.2 != 0) = false := by simp [he]
      obtain ⟨r, r1, r2⟩ := dec_loop2 hs v2 v3 qs an m hm n (k + 1) (recS s a).2.1 (acc ++ [(recS s a).1]) (by omega) (by simp [ha])
      refine ⟨r, ?_, ?_⟩
      · rw [loopS_next (y := ((recS s a).2.1, (((k + 1 : Nat) : Int), (qs, (an, acc ++ [(recS s a).1])))))]
        · exact r1
        · simp only [step_msg_Decode_2, c0, if_true, record_Decode_eq hs, bnd_some, hx, Bool.false_eq_true, if_false, grdEq_self]
          rw [grdp (by unfold roomLim; simp; omega), wrap_id (by omega) (by omega)]
          rfl
      · rw [manyS_ok he]
        by_cases h2 : (manyS (recS s) n (recS s a).2.1).2.2 = 0
        · rw [if_neg (by simpa using h2)] at r2
          simp [h2, r2]
        · rw [if_pos h2] at r2
          obtain ⟨x, hx⟩ := r2
          simp [h2, hx]
    · have hx : ((recS s a).2.2 != 0) = true := by simp [he]
      refine ⟨.inl ((recS s a).2.2, (qs, (an, acc))), loopS_out ?_, ?_⟩
      · simp only [step_msg_Decode_2, c0, if_true, record_Decode_eq hs, bnd_some, hx, grdEq_self]
      · rw [manyS_bad he, if_pos he]
        exact ⟨_, rfl⟩
theorem dec_loop3 {s : List UInt8} (hs : s.length ≤ 1000000) (v2 v3 : Int) (qs : List Qt) (an ns : List RRt) (m : Nat) (hm : m ≤ 65535) : ∀ (n : Nat) (k : Nat) (a : Int) (acc : List RRt), k + n = m → acc.length = k →
    ∃ r, loopS (step_msg_Decode_3 s v2 v3 (m : Int)) (a, ((k : Int), (qs, (an, (ns, acc))))) = some r ∧ (if (manyS (recS s) n a).2.2 ≠ 0 then ∃ x, r = .inl ((manyS (recS s) n a).2.2, x) else r = .inr ((manyS (recS s) n a).2.1, (qs, (an, (ns, acc ++ (manyS (recS s) n a).1)))))
  | 0, k, a, acc, hk, ha => by
    refine ⟨.inr (a, (qs, (an, (ns, acc)))), loopS_out ?_, by simp [manyS]⟩
    simp only [step_msg_Decode_3, grdEq_self]
    rw [if_neg (by simp; omega)]
  | n + 1, k, a, acc, hk, ha => by
    have c0 : decide ((k : Int) < (m : Int)) = true := by simp; omega
    by_cases he : (recS s a).2.2 = 0
    · have hx : ((recS s a).2.2 != 0) = false := by simp [he]
      obtain ⟨r, r1, r2⟩ := dec_loop3 hs v2 v3 qs an ns m hm n (k + 1) (recS s a).2.1 (acc ++ [(recS s a).1]) (by omega) (by simp [ha])
      refine ⟨r, ?_, ?_⟩
      · rw [loopS_next (y := ((recS s a).2.1, (((k + 1 : Nat) : Int), (qs, (an, (ns, acc ++ [(recS s a).1]))))))]
        · exact r1
        · simp only [step_msg_Decode_3, c0, if_true, record_Decode_eq hs, bnd_some, hx, Bool.false_eq_true, if_false, grdEq_self]
          rw [grdp (by unfold roomLim; simp; omega), wrap_id (by omega) (by omega)]
          rfl
      · rw [manyS_ok he]
        by_cases h2 : (manyS (recS s) n (recS s a).2.1).2.2 = 0
        · rw [if_neg (by simpa using h2)] at r2
          simp [h2, r2]
        · rw [if_pos h2] at r2
          obtain ⟨x, hx⟩ := r2
          simp [h2, hx]
    · have hx : ((recS s a).2.2 != 0) = true := by simp [he]
      refine ⟨.inl ((recS s a).2.2, (qs, (an, (ns, acc)))), loopS_out ?_, ?_⟩
      · simp only [step_msg_Decode_3, c0, if_true, record_Decode_eq hs, bnd_some, hx, grdEq_self]
      · rw [manyS_bad he, if_pos he]
        exact ⟨_, rfl⟩
theorem msg_many_eq {s : List UInt8} (hs : (s.length : Int) ≤ maxI) {i : Nat} (hi : i ≤ 3) : F_msg_many s (i : Int) = some (cntS s (4 + 2 * (i : Int)) : Int) := by
  unfold F_msg_many
  rw [wrap_id (x := 2 * (i : Int)) (by omega) (by omega), wrap_id (x := 4 + 2 * (i : Int)) (by omega) (by omega), Get_eq hs, bnd_some, ← cnt_get]
theorem msg_Decode_eq {s : List UInt8} (hs : s.length ≤ 1000000) : F_msg_Decode s = some (decS s) := by
  have hm : maxI = 9223372036854775807 := rfl
  have hs' : (s.length : Int) ≤ maxI := by omega
  unfold F_msg_Decode decS
  rw [msg_Head_eq hs', bnd_some]
  by_cases h1 : 65535 < s.length
  · have : decide ((65535 : Int) < (s.length : Int)) = true := by simp; omega
    simp only [this, if_true, h1]; rfl
  · have c1 : decide ((65535 : Int) < (s.length : Int)) = false := by simp; omega
    unfold headS
    by_cases h2 : s.length < 12
    · simp only [c1, h1, h2, if_true, Bool.not_false, Bool.false_eq_true, if_false]; rfl
    · have n0 := msg_many_eq (s := s) hs' (i := 0) (by omega)
      have n1 := msg_many_eq (s := s) hs' (i := 1) (by omega)
      have n2 := msg_many_eq (s := s) hs' (i := 2) (by omega)
      have n3 := msg_many_eq (s := s) hs' (i := 3) (by omega)
      simp only [Int.natCast_zero, Int.natCast_one, Int.mul_zero, Int.mul_one, Int.add_zero, show (4 : Int) + 2 = 6 from rfl] at n0 n1
      rw [show 4 + 2 * ((2 : Nat) : Int) = 8 from rfl, show ((2 : Nat) : Int) = 2 from rfl] at n2
      rw [show 4 + 2 * ((3 : Nat) : Int) = 10 from rfl, show ((3 : Nat) : Int) = 3 from rfl] at n3
      simp only [c1, h1, h2, Bool.not_true, Bool.false_eq_true, if_false, n0, n1, n2, n3, bnd_some]
      obtain ⟨r, r1, r2⟩ := dec_loop0 hs ((getS s 0 2).getD 0) ((getS s 2 2).getD 0) (cntS s 4) (cnt_le s 4) (cntS s 4) 0 12 [] (by omega) rfl
      simp only [Int.natCast_zero] at r1
      rw [r1, bnd_some]
      by_cases g1 : (manyS (qS s) (cntS s 4) 12).2.2 = 0
      · rw [if_neg (by simpa using g1)] at r2
        subst r2
        simp only [List.nil_append]
        rw [if_neg (by simpa using g1)]
        obtain ⟨r, r1, r2⟩ := dec_loop1 hs ((getS s 0 2).getD 0) ((getS s 2 2).getD 0) (manyS (qS s) (cntS s 4) 12).1 (cntS s 6) (cnt_le s 6) (cntS s 6) 0 (manyS (qS s) (cntS s 4) 12).2.1 [] (by omega) rfl
        simp only [Int.natCast_zero] at r1
        rw [r1, bnd_some]
        by_cases g2 : (manyS (recS s) (cntS s 6) (manyS (qS s) (cntS s 4) 12).2.1).2.2 = 0
        · rw [if_neg (by simpa using g2)] at r2
          subst r2
          simp only [List.nil_append]
          rw [if_neg (by simpa using g2)]
          obtain ⟨r, r1, r2⟩ := dec_loop2 hs ((getS s 0 2).getD 0) ((getS s 2 2).getD 0) (manyS (qS s) (cntS s 4) 12).1 (manyS (recS s) (cntS s 6) (manyS (qS s) (cntS s 4) 12).2.1).1 (cntS s 8) (cnt_le s 8) (cntS s 8) 0 (manyS (recS s) (cntS s 6) (manyS (qS s) (cntS s 4) 12).2.1).2.1 [] (by omega) rfl
          simp only [Int.natCast_zero] at r1
          rw [r1, bnd_some]
          by_cases g3 : (manyS (recS s) (cntS s 8) (manyS (recS s) (cntS s 6) (manyS (qS s) (cntS s 4) 12).2.1).2.1).2.2 = 0
          · rw [if_neg (by simpa using g3)] at r2
            subst r2
            simp only [List.nil_append]
            rw [if_neg (by simpa using g3)]
            obtain ⟨r, r1, r2⟩ := dec_loop3 hs ((getS s 0 2).getD 0) ((getS s 2 2).getD 0) (manyS (qS s) (cntS s 4) 12).1 (manyS (recS s) (cntS s 6) (manyS (qS s) (cntS s 4) 12).2.1).1 (manyS (recS s) (cntS s 8) (manyS (recS s) (cntS s 6) (manyS (qS s) (cntS s 4) 12).2.1).2.1).1 (cntS s 10) (cnt_le s 10) (cntS s 10) 0 (manyS (recS s) (cntS s 8) (manyS (recS s) (cntS s 6) (manyS (qS s) (cntS s 4) 12).2.1).2.1).2.1 [] (by omega) rfl
            simp only [Int.natCast_zero] at r1
            rw [r1, bnd_some]
            by_cases g4 : (manyS (recS s) (cntS s 10) (manyS (recS s) (cntS s 8) (manyS (recS s) (cntS s 6) (manyS (qS s) (cntS s 4) 12).2.1).2.1).2.1).2.2 = 0
            · rw [if_neg (by simpa using g4)] at r2
              subst r2
              simp only [List.nil_append, g4, ne_eq, not_true_eq_false, if_false]
              generalize manyS (recS s) (cntS s 10) (manyS (recS s) (cntS s 8) (manyS (recS s) (cntS s 6) (manyS (qS s) (cntS s 4) 12).2.1).2.1).2.1 = z
              by_cases g5 : z.2.1 = s.length
              · have g6 : (z.2.1 != (s.length : Int)) = false := by simp [g5]
                simp only [g5, g6, Bool.false_eq_true, if_false, not_true_eq_false]
                rw [← g5]
                simp
              · have g6 : (z.2.1 != (s.length : Int)) = true := by simp [g5]
                simp only [g5, g6, if_true, not_false_eq_true]
                rfl
            · rw [if_pos g4] at r2
              obtain ⟨x, rfl⟩ := r2
              rw [if_pos g4]
              rfl
          · rw [if_pos g3] at r2
            obtain ⟨x, rfl⟩ := r2
            rw [if_pos g3]
            rfl
        · rw [if_pos g2] at r2
          obtain ⟨x, rfl⟩ := r2
          rw [if_pos g2]
          rfl
      · rw [if_pos g1] at r2
        obtain ⟨x, rfl⟩ := r2
        rw [if_pos g1]
        rfl
instance : DecidableEq Qt := inferInstanceAs (DecidableEq (List UInt8 × Int × Int))
instance : DecidableEq RRt := inferInstanceAs (DecidableEq (List UInt8 × Int × Int × Int × List UInt8))
abbrev Mt2 := List RRt × List RRt
instance : DecidableEq Mt2 := inferInstanceAs (DecidableEq (List RRt × List RRt))
abbrev Mt3 := List Qt × List RRt × Mt2
instance : DecidableEq Mt3 := inferInstanceAs (DecidableEq (List Qt × List RRt × Mt2))
instance : DecidableEq Mt := inferInstanceAs (DecidableEq (Int × Int × Mt3))
def fewM (m : Mt) : Prop := (m.2.2.1.length : Int) ≤ maxI ∧ (m.2.2.2.1.length : Int) ≤ maxI ∧ (m.2.2.2.2.1.length : Int) ≤ maxI ∧ (m.2.2.2.2.2.length : Int) ≤ maxI
theorem many_len {α : Type} {f : Int → α × Int × Int} : ∀ (n : Nat) (a : Int), (manyS f n a).1.length ≤ n
  | 0, a => by simp [manyS]
  | n + 1, a => by
    have := many_len (f := f) n (f a).2.1
    by_cases h : (f a).2.2 = 0
    · rw [manyS_ok h]
      split
      · simp
      · simp; omega
    · rw [manyS_bad h]; simp
theorem decS_few (s : List UInt8) : fewM (decS s).1 := by
  have hm : maxI = 9223372036854775807 := rfl
  have key : ∀ {n k : Nat}, n ≤ k → k ≤ 65535 → (n : Int) ≤ maxI := by intro n k h1 h2; omega
  have c4 := cnt_le s 4
  have c6 := cnt_le s 6
  have c8 := cnt_le s 8
  have c10 := cnt_le s 10
  have h0 : fewM m0 := ⟨by simp [m0, maxI], by simp [m0, maxI], by simp [m0, maxI], by simp [m0, maxI]⟩
  unfold decS
  split
  · exact h0
  split
  · exact h0
  split
  · exact h0
  split
  · exact h0
  split
  · exact h0
  split
  · exact h0
  split
  · exact h0
  exact ⟨key (many_len _ _) c4, key (many_len _ _) c6, key (many_len _ _) c8, key (many_len _ _) c10⟩
end Go.Abs

namespace Go.Abs
open Go
end Go.Abs

namespace Go.Abs
open Go
end Go.Abs

namespace Go.Abs
open Go
end Go.Abs

namespace Go.Abs
open Go
end Go.Abs

namespace Go.Abs
open Go
end Go.Abs

namespace Go.Abs
open Go
end Go.Abs
