/- Part of a proof: a machine of plain data, and what the functions come to on it. -/
import Derived.Test.YthmahgleehgbaaaGreatLawA
import Derived.Test.YthmahgleehgbaaaGreatSxB
set_option linter.unusedSimpArgs false
set_option linter.unusedVariables false
set_option linter.unusedSectionVars false
namespace Go.Abs
open Go
end Go.Abs

namespace Go.Abs
open Go
abbrev Qt := List UInt8 × Int × Int
abbrev Mt := Int × Int × List Qt × List RRt × List RRt × List RRt
def m0 : Mt := (0, 0, [], [], [], [])
def qS (s : List UInt8) (a : Int) : Qt × Int × Int :=
  if (readS s a).2.2 ≠ 0 then (([], 0, 0), 0, (readS s a).2.2)
  else match getS s (readS s a).2.1 2, getS s ((readS s a).2.1 + 2) 2 with
    | some k, some c => (((readS s a).1, k, c), (readS s a).2.1 + 4, 0)
    | _, _ => (([], 0, 0), 0, 2)
theorem getS2_b {s : List UInt8} {x v : Int} (h : getS s x 2 = some v) : 0 ≤ v ∧ v < 65536 := by
  obtain ⟨b0, b1, _, _⟩ := getS_bounds h
  obtain ⟨w, hw, w0, w1⟩ := getS_some (s := s) (a := x) (n := 2) b0 (by omega) (by omega) b1
  rw [h] at hw
  cases hw
  have p2 : (256 : Int) ^ (2 : Int).toNat = 65536 := by decide
  rw [p2] at w1
  exact ⟨w0, w1⟩
theorem msg_question_eq {s : List UInt8} (hs : (s.length : Int) ≤ maxI) (a : Int) : F_msg_question s a = some (qS s a) := by
  have hm : maxI = 9223372036854775807 := rfl
  obtain ⟨e1, e2, e3⟩ := readS_ends s a
  unfold F_msg_question qS
  rw [comp_Read_eq hs, bnd_some]
  generalize readS s a = r at *
  obtain ⟨nm, i, e⟩ := r
  simp only at *
  by_cases he : e = 0
  · subst he
    obtain ⟨b0, b1, b2⟩ := e2 rfl
    simp only [bne_self_eq_false, Bool.false_eq_true, if_false, ne_eq, not_true_eq_false, Get_eq hs, bnd_some]
    by_cases hi : i + 2 ≤ maxI
    · rw [wrap_id (x := i + 2) (by omega) (by omega)]
      cases hc : getS s (i + 2) 2 with
      | none => cases getS s i 2 <;> rfl
      | some c =>
        obtain ⟨c0, c1, _, _⟩ := getS_bounds hc
        obtain ⟨k, hk, _⟩ := getS_some (s := s) (a := i) (n := 2) (by omega) (by omega) (by omega) (by omega)
        simp only [hk, twoI, Bool.not_true, Bool.false_eq_true, if_false, wrap_id (x := i + 4) (by omega) (by omega)]
    · have hk : getS s i 2 = none := getS_none (by omega)
      have hc : getS s (i + 2) 2 = none := getS_none (by omega)
      have hw : getS s (Go.IntKind.i64.wrap (i + 2)) 2 = none := by
        unfold getS takeS
        have : ¬ (0 ≤ Go.IntKind.i64.wrap (i + 2)) := by
          simp only [IntKind.wrap, IntKind.bits, IntKind.signed]
          simp
          omega
        rw [if_pos (by omega), if_neg (fun h => this h.1)]
        rfl
      simp only [hk, hc, hw]
      rfl
  · have hne : (e != 0) = true := by simp [he]
    simp only [hne, if_true, ne_eq, he, not_false_eq_true]
/-- so many of a kind -/
def manyS {α : Type} (f : Int → α × Int × Int) : Nat → Int → List α × Int × Int
  | 0, a => ([], a, 0)
  | n + 1, a => if (f a).2.2 ≠ 0 then ([], 0, (f a).2.2) else if (manyS f n (f a).2.1).2.2 ≠ 0 then ([], 0, (manyS f n (f a).2.1).2.2) else ((f a).1 :: (manyS f n (f a).2.1).1, (manyS f n (f a).2.1).2.1, 0)
theorem manyS_bad {α : Type} {f : Int → α × Int × Int} {n : Nat} {a : Int} (h : (f a).2.2 ≠ 0) : manyS f (n + 1) a = ([], 0, (f a).2.2) := by
  show (if (f a).2.2 ≠ 0 then _ else _) = _
  rw [if_pos h]
theorem manyS_ok {α : Type} {f : Int → α × Int × Int} {n : Nat} {a : Int} (h : (f a).2.2 = 0) : manyS f (n + 1) a = if (manyS f n (f a).2.1).2.2 ≠ 0 then ([], 0, (manyS f n (f a).2.1).2.2) else ((f a).1 :: (manyS f n (f a).2.1).1, (manyS f n (f a).2.1).2.1, 0) := by
  show (if (f a).2.2 ≠ 0 then _ else _) = _
  rw [if_neg (by simpa using h)]
def cntS (s : List UInt8) (i : Int) : Nat := ((getS s i 2).getD 0).toNat
theorem cnt_le (s : List UInt8) (i : Int) : cntS s i ≤ 65535 := by
  unfold cntS
  cases h : getS s i 2 with
  | none => simp
  | some v => have := getS2_b h; simp; omega
/-- the message that bytes are -/
def decS (s : List UInt8) : Mt × Int :=
  if 65535 < s.length then (m0, 6) else if s.length < 12 then (m0, 2)
  else if (manyS (qS s) (cntS s 4) 12).2.2 ≠ 0 then (m0, (manyS (qS s) (cntS s 4) 12).2.2)
  else if (manyS (recS s) (cntS s 6) (manyS (qS s) (cntS s 4) 12).2.1).2.2 ≠ 0 then (m0, (manyS (recS s) (cntS s 6) (manyS (qS s) (cntS s 4) 12).2.1).2.2)
  else if (manyS (recS s) (cntS s 8) (manyS (recS s) (cntS s 6) (manyS (qS s) (cntS s 4) 12).2.1).2.1).2.2 ≠ 0 then (m0, (manyS (recS s) (cntS s 8) (manyS (recS s) (cntS s 6) (manyS (qS s) (cntS s 4) 12).2.1).2.1).2.2)
  else if (manyS (recS s) (cntS s 10) (manyS (recS s) (cntS s 8) (manyS (recS s) (cntS s 6) (manyS (qS s) (cntS s 4) 12).2.1).2.1).2.1).2.2 ≠ 0 then (m0, (manyS (recS s) (cntS s 10) (manyS (recS s) (cntS s 8) (manyS (recS s) (cntS s 6) (manyS (qS s) (cntS s 4) 12).2.1).2.1).2.1).2.2)
  else if (manyS (recS s) (cntS s 10) (manyS (recS s) (cntS s 8) (manyS (recS s) (cntS s 6) (manyS (qS s) (cntS s 4) 12).2.1).2.1).2.1).2.1 ≠ s.length then (m0, 5)
  else (((getS s 0 2).getD 0, (getS s 2 2).getD 0, (manyS (qS s) (cntS s 4) 12).1, (manyS (recS s) (cntS s 6) (manyS (qS s) (cntS s 4) 12).2.1).1,
    (manyS (recS s) (cntS s 8) (manyS (recS s) (cntS s 6) (manyS (qS s) (cntS s 4) 12).2.1).2.1).1, (manyS (recS s) (cntS s 10) (manyS (recS s) (cntS s 8) (manyS (recS s) (cntS s 6) (manyS (qS s) (cntS s 4) 12).2.1).2.1).2.1).1), 0)
def headS (s : List UInt8) : Int × Int × Bool := if s.length < 12 then (0, 0, false) else ((getS s 0 2).getD 0, (getS s 2 2).getD 0, true)
theorem twoI_1 (o : Option Int) : (twoI o).1 = o.getD 0 := by cases o <;> rfl
theorem msg_Head_eq {s : List UInt8} (hs : (s.length : Int) ≤ maxI) : F_msg_Head s = some (headS s) := by
  unfold F_msg_Head headS
  by_cases h : s.length < 12
  · rw [if_pos (by simp; omega), if_pos h]
  · rw [if_neg (by simp; omega), if_neg h]
    simp only [Get_eq hs, bnd_some, twoI_1]
theorem cnt_get {s : List UInt8} {i : Int} : (twoI (getS s i 2)).1 = (cntS s i : Int) := by
  rw [twoI_1]
  unfold cntS
  cases h : getS s i 2 with
  | none => rfl
  | some v => have := getS2_b h; simp; omega
end Go.Abs

namespace Go.Abs
open Go
theorem dec_loop0 {s : List UInt8} (hs : s.length ≤ 1000000) (v2 v3 : Int) (m : Nat) (hm : m ≤ 65535) : ∀ (n : Nat) (k : Nat) (a : Int) (acc : List Qt), k + n = m → acc.length = k →
    ∃ r, loopS (step_msg_Decode_0 s v2 v3 (m : Int)) (a, ((k : Int), acc)) = some r ∧ (if (manyS (qS s) n a).2.2 ≠ 0 then ∃ x, r = .inl ((manyS (qS s) n a).2.2, x) else r = .inr ((manyS (qS s) n a).2.1, acc ++ (manyS (qS s) n a).1))
  | 0, k, a, acc, hk, ha => by
    refine ⟨.inr (a, acc), loopS_out ?_, by simp [manyS]⟩
    simp only [step_msg_Decode_0, grdEq_self]
    rw [if_neg (by simp; omega)]
  | n + 1, k, a, acc, hk, ha => by
    have hmx : maxI = 9223372036854775807 := rfl
    have c0 : decide ((k : Int) < (m : Int)) = true := by simp; omega
    by_cases he : (qS s a).2.2 = 0
    · have hx : ((qS s a).2.2 != 0) = false := by simp [he]
      obtain ⟨r, r1, r2⟩ := dec_loop0 hs v2 v3 m hm n (k + 1) (qS s a).2.1 (acc ++ [(qS s a).1]) (by omega) (by simp [ha])
      refine ⟨r, ?_, ?_⟩
      · rw [loopS_next (y := ((qS s a).2.1, (((k + 1 : Nat) : Int), acc ++ [(qS s a).1])))]
        · exact r1
        · simp only [step_msg_Decode_0, c0, if_true, msg_question_eq (s := s) (by omega), bnd_some, hx, Bool.false_eq_true, if_false, grdEq_self]
          rw [grdp (by unfold roomLim; simp; omega), wrap_id (by omega) (by omega)]
          rfl
      · rw [manyS_ok he]
        by_cases h2 : (manyS (qS s) n (qS s a).2.1).2.2 = 0
        · rw [if_neg (by simpa using h2)] at r2
          simp [h2, r2]
        · rw [if_pos h2] at r2
          obtain ⟨x, hx⟩ := r2
          simp [h2, hx]
    · have hx : ((qS s a).2.2 != 0) = true := by simp [he]
      refine ⟨.inl ((qS s a).2.2, acc), loopS_out ?_, ?_⟩
      · simp only [step_msg_Decode_0, c0, if_true, msg_question_eq (s := s) (by omega), bnd_some, hx, grdEq_self]
      · rw [manyS_bad he, if_pos he]
        exact ⟨_, rfl⟩
theorem dec_loop1 {s : List UInt8} (hs : s.length ≤ 1000000) (v2 v3 : Int) (qs : List Qt) (m : Nat) (hm : m ≤ 65535) : ∀ (n : Nat) (k : Nat) (a : Int) (acc : List RRt), k + n = m → acc.length = k →
    ∃ r, loopS (step_msg_Decode_1 s v2 v3 (m : Int)) (a, ((k : Int), (qs, acc))) = some r ∧ (if (manyS (recS s) n a).2.2 ≠ 0 then ∃ x, r = .inl ((manyS (recS s) n a).2.2, x) else r = .inr ((manyS (recS s) n a).2.1, (qs, acc ++ (manyS (recS s) n a).1)))
  | 0, k, a, acc, hk, ha => by
    refine ⟨.inr (a, (qs, acc)), loopS_out ?_, by simp [manyS]⟩
    simp only [step_msg_Decode_1, grdEq_self]
    rw [if_neg (by simp; omega)]
  | n + 1, k, a, acc, hk, ha => by
    have c0 : decide ((k : Int) < (m : Int)) = true := by simp; omega
    by_cases he : (recS s a).2.2 = 0
    · have hx : ((recS s a).2.2 != 0) = false := by simp [he]
      obtain ⟨r, r1, r2⟩ := dec_loop1 hs v2 v3 qs m hm n (k + 1) (recS s a).2.1 (acc ++ [(recS s a).1]) (by omega) (by simp [ha])
      refine ⟨r, ?_, ?_⟩
      · rw [loopS_next (y := ((recS s a).2.1, (((k + 1 : Nat) : Int), (qs, acc ++ [(recS s a).1]))))]
        · exact r1
        · simp only [step_msg_Decode_1, c0, if_true, record_Decode_eq hs, bnd_some, hx, Bool.false_eq_true, if_false, grdEq_self]
          rw [grdp (by unfold roomLim; simp; omega), wrap_id (by omega) (by omega)]
          rfl
      · rw [manyS_ok he]
        by_cases h2 : (manyS (recS s) n (recS s a).2.1).2.2 = 0
        · rw [if_neg (by simpa using h2)] at r2
          simp [h2, r2]
        · rw [if_pos h2] at r2
          obtain ⟨x, hx⟩ := r2
          simp [h2, hx]
    · have hx : ((recS s a).2.2 != 0) = true := by simp [he]
      refine ⟨.inl ((recS s a).2.2, (qs, acc)), loopS_out ?_, ?_⟩
      · simp only [step_msg_Decode_1, c0, if_true, record_Decode_eq hs, bnd_some, hx, grdEq_self]
      · rw [manyS_bad he, if_pos he]
        exact ⟨_, rfl⟩
theorem dec_loop2 {s : List UInt8} (hs : s.length ≤ 1000000) (v2 v3 : Int) (qs : List Qt) (an : List RRt) (m : Nat) (hm : m ≤ 65535) : ∀ (n : Nat) (k : Nat) (a : Int) (acc : List RRt), k + n = m → acc.length = k →
    ∃ r, loopS (step_msg_Decode_2 s v2 v3 (m : Int)) (a, ((k : Int), (qs, (an, acc)))) = some r ∧ (if (manyS (recS s) n a).2.2 ≠ 0 then ∃ x, r = .inl ((manyS (recS s) n a).2.2, x) else r = .inr ((manyS (recS s) n a).2.1, (qs, (an, acc ++ (manyS (recS s) n a).1))))
  | 0, k, a, acc, hk, ha => by
    refine ⟨.inr (a, (qs, (an, acc))), loopS_out ?_, by simp [manyS]⟩
    simp only [step_msg_Decode_2, grdEq_self]
    rw [if_neg (by simp; omega)]
  | n + 1, k, a, acc, hk, ha => by
    have c0 : decide ((k : Int) < (m : Int)) = true := by simp; omega
    by_cases he : (recS s a).2.2 = 0
    · have hx : ((recS s a).2.2 != 0) = false := by simp [he]
      obtain ⟨r, r1, r2⟩ := dec_loop2 hs v2 v3 qs an m hm n (k + 1) (recS s a).2.1 (acc ++ [(recS s a).1]) (by omega) (by simp [ha])
      refine ⟨r, ?_, ?_⟩
      · rw [loopS_next (y := ((recS s a).2.1, (((k + 1 : Nat) : Int), (qs, (an, acc ++ [(recS s a).1])))))]
        · exact r1
        · simp only [step_msg_Decode_2, c0, if_true, record_Decode_eq hs, bnd_some, hx, Bool.false_eq_true, if_false, grdEq_self]
          rw [grdp (by unfold roomLim; simp; omega), wrap_id (by omega) (by omega)]
          rfl
      · rw [manyS_ok he]
        by_cases h2 : (manyS (recS s) n (recS s a).2.1).2.2 = 0
        · rw [if_neg (by simpa using h2)] at r2
          simp [h2, r2]
        · rw [if_pos h2] at r2
          obtain ⟨x, hx⟩ := r2
          simp [h2, hx]
    · have hx : ((recS s a).2.2 != 0) = true := by simp [he]
      refine ⟨.inl ((recS s a).2.2, (qs, (an, acc))), loopS_out ?_, ?_⟩
      · simp only [step_msg_Decode_2, c0, if_true, record_Decode_eq hs, bnd_some, hx, grdEq_self]
      · rw [manyS_bad he, if_pos he]
        exact ⟨_, rfl⟩
theorem dec_loop3 {s : List UInt8} (hs : s.length ≤ 1000000) (v2 v3 : Int) (qs : List Qt) (an ns : List RRt) (m : Nat) (hm : m ≤ 65535) : ∀ (n : Nat) (k : Nat) (a : Int) (acc : List RRt), k + n = m → acc.length = k →
    ∃ r, loopS (step_msg_Decode_3 s v2 v3 (m : Int)) (a, ((k : Int), (qs, (an, (ns, acc))))) = some r ∧ (if (manyS (recS s) n a).2.2 ≠ 0 then ∃ x, r = .inl ((manyS (recS s) n a).2.2, x) else r = .inr ((manyS (recS s) n a).2.1, (qs, (an, (ns, acc ++ (manyS (recS s) n a).1)))))
  | 0, k, a, acc, hk, ha => by
    refine ⟨.inr (a, (qs, (an, (ns, acc)))), loopS_out ?_, by simp [manyS]⟩
    simp only [step_msg_Decode_3, grdEq_self]
    rw [if_neg (by simp; omega)]
  | n + 1, k, a, acc, hk, ha => by
    have c0 : decide ((k : Int) < (m : Int)) = true := by simp; omega
    by_cases he : (recS s a).2.2 = 0
    · have hx : ((recS s a).2.2 != 0) = false := by simp [he]
      obtain ⟨r, r1, r2⟩ := dec_loop3 hs v2 v3 qs an ns m hm n (k + 1) (recS s a).2.1 (acc ++ [(recS s a).1]) (by omega) (by simp [ha])
      refine ⟨r, ?_, ?_⟩
      · rw [loopS_next (y := ((recS s a).2.1, (((k + 1 : Nat) : Int), (qs, (an, (ns, acc ++ [(recS s a).1]))))))]
        · exact r1
        · simp only [step_msg_Decode_3, c0, if_true, record_Decode_eq hs, bnd_some, hx, Bool.false_eq_true, if_false, grdEq_self]
          rw [grdp (by unfold roomLim; simp; omega), wrap_id (by omega) (by omega)]
          rfl
      · rw [manyS_ok he]
        by_cases h2 : (manyS (recS s) n (recS s a).2.1).2.2 = 0
        · rw [if_neg (by simpa using h2)] at r2
          simp [h2, r2]
        · rw [if_pos h2] at r2
          obtain ⟨x, hx⟩ := r2
          simp [h2, hx]
    · have hx : ((recS s a).2.2 != 0) = true := by simp [he]
      refine ⟨.inl ((recS s a).2.2, (qs, (an, (ns, acc)))), loopS_out ?_, ?_⟩
      · simp only [step_msg_Decode_3, c0, if_true, record_Decode_eq hs, bnd_some, hx, grdEq_self]
      · rw [manyS_bad he, if_pos he]
        exact ⟨_, rfl⟩
theorem msg_many_eq {s : List UInt8} (hs : (s.length : Int) ≤ maxI) {i : Nat} (hi : i ≤ 3) : F_msg_many s (i : Int) = some (cntS s (4 + 2 * (i : Int)) : Int) := by
  unfold F_msg_many
  rw [wrap_id (x := 2 * (i : Int)) (by omega) (by omega), wrap_id (x := 4 + 2 * (i : Int)) (by omega) (by omega), Get_eq hs, bnd_some, ← cnt_get]
theorem msg_Decode_eq {s : List UInt8} (hs : s.length ≤ 1000000) : F_msg_Decode s = some (decS s) := by
  have hm : maxI = 9223372036854775807 := rfl
  have hs' : (s.length : Int) ≤ maxI := by omega
  unfold F_msg_Decode decS
  rw [msg_Head_eq hs', bnd_some]
  by_cases h1 : 65535 < s.length
  · have : decide ((65535 : Int) < (s.length : Int)) = true := by simp; omega
    simp only [this, if_true, h1]; rfl
  · have c1 : decide ((65535 : Int) < (s.length : Int)) = false := by simp; omega
    unfold headS
    by_cases h2 : s.length < 12
    · simp only [c1, h1, h2, if_true, Bool.not_false, Bool.false_eq_true, if_false]; rfl
    · have n0 := msg_many_eq (s := s) hs' (i := 0) (by omega)
      have n1 := msg_many_eq (s := s) hs' (i := 1) (by omega)
      have n2 := msg_many_eq (s := s) hs' (i := 2) (by omega)
      have n3 := msg_many_eq (s := s) hs' (i := 3) (by omega)
      simp only [Int.natCast_zero, Int.natCast_one, Int.mul_zero, Int.mul_one, Int.add_zero, show (4 : Int) + 2 = 6 from rfl] at n0 n1
      rw [show 4 + 2 * ((2 : Nat) : Int) = 8 from rfl, show ((2 : Nat) : Int) = 2 from rfl] at n2
      rw [show 4 + 2 * ((3 : Nat) : Int) = 10 from rfl, show ((3 : Nat) : Int) = 3 from rfl] at n3
      simp only [c1, h1, h2, Bool.not_true, Bool.false_eq_true, if_false, n0, n1, n2, n3, bnd_some]
      obtain ⟨r, r1, r2⟩ := dec_loop0 hs ((getS s 0 2).getD 0) ((getS s 2 2).getD 0) (cntS s 4) (cnt_le s 4) (cntS s 4) 0 12 [] (by omega) rfl
      simp only [Int.natCast_zero] at r1
      rw [r1, bnd_some]
      by_cases g1 : (manyS (qS s) (cntS s 4) 12).2.2 = 0
      · rw [if_neg (by simpa using g1)] at r2
        subst r2
        simp only [List.nil_append]
        rw [if_neg (by simpa using g1)]
        obtain ⟨r, r1, r2⟩ := dec_loop1 hs ((getS s 0 2).getD 0) ((getS s 2 2).getD 0) (manyS (qS s) (cntS s 4) 12).1 (cntS s 6) (cnt_le s 6) (cntS s 6) 0 (manyS (qS s) (cntS s 4) 12).2.1 [] (by omega) rfl
        simp only [Int.natCast_zero] at r1
        rw [r1, bnd_some]
        by_cases g2 : (manyS (recS s) (cntS s 6) (manyS (qS s) (cntS s 4) 12).2.1).2.2 = 0
        · rw [if_neg (by simpa using g2)] at r2
          subst r2
          simp only [List.nil_append]
          rw [if_neg (by simpa using g2)]
          obtain ⟨r, r1, r2⟩ := dec_loop2 hs ((getS s 0 2).getD 0) ((getS s 2 2).getD 0) (manyS (qS s) (cntS s 4) 12).1 (manyS (recS s) (cntS s 6) (manyS (qS s) (cntS s 4) 12).2.1).1 (cntS s 8) (cnt_le s 8) (cntS s 8) 0 (manyS (recS s) (cntS s 6) (manyS (qS s) (cntS s 4) 12).2.1).2.1 [] (by omega) rfl
          simp only [Int.natCast_zero] at r1
          rw [r1, bnd_some]
          by_cases g3 : (manyS (recS s) (cntS s 8) (manyS (recS s) (cntS s 6) (manyS (qS s) (cntS s 4) 12).2.1).2.1).2.2 = 0
          · rw [if_neg (by simpa using g3)] at r2
            subst r2
            simp only [List.nil_append]
            rw [if_neg (by simpa using g3)]
            obtain ⟨r, r1, r2⟩ := dec_loop3 hs ((getS s 0 2).getD 0) ((getS s 2 2).getD 0) (manyS (qS s) (cntS s 4) 12).1 (manyS (recS s) (cntS s 6) (manyS (qS s) (cntS s 4) 12).2.1).1 (manyS (recS s) (cntS s 8) (manyS (recS s) (cntS s 6) (manyS (qS s) (cntS s 4) 12).2.1).2.1).1 (cntS s 10) (cnt_le s 10) (cntS s 10) 0 (manyS (recS s) (cntS s 8) (manyS (recS s) (cntS s 6) (manyS (qS s) (cntS s 4) 12).2.1).2.1).2.1 [] (by omega) rfl
            simp only [Int.natCast_zero] at r1
            rw [r1, bnd_some]
            by_cases g4 : (manyS (recS s) (cntS s 10) (manyS (recS s) (cntS s 8) (manyS (recS s) (cntS s 6) (manyS (qS s) (cntS s 4) 12).2.1).2.1).2.1).2.2 = 0
            · rw [if_neg (by simpa using g4)] at r2
              subst r2
              simp only [List.nil_append, g4, ne_eq, not_true_eq_false, if_false]
              generalize manyS (recS s) (cntS s 10) (manyS (recS s) (cntS s 8) (manyS (recS s) (cntS s 6) (manyS (qS s) (cntS s 4) 12).2.1).2.1).2.1 = z
              by_cases g5 : z.2.1 = s.length
              · have g6 : (z.2.1 != (s.length : Int)) = false := by simp [g5]
                simp only [g5, g6, Bool.false_eq_true, if_false, not_true_eq_false]
                rw [← g5]
                simp
              · have g6 : (z.2.1 != (s.length : Int)) = true := by simp [g5]
                simp only [g5, g6, if_true, not_false_eq_true]
                rfl
            · rw [if_pos g4] at r2
              obtain ⟨x, rfl⟩ := r2
              rw [if_pos g4]
              rfl
          · rw [if_pos g3] at r2
            obtain ⟨x, rfl⟩ := r2
            rw [if_pos g3]
            rfl
        · rw [if_pos g2] at r2
          obtain ⟨x, rfl⟩ := r2
          rw [if_pos g2]
          rfl
      · rw [if_pos g1] at r2
        obtain ⟨x, rfl⟩ := r2
        rw [if_pos g1]
        rfl
instance : DecidableEq Qt := inferInstanceAs (DecidableEq (List UInt8 × Int × Int))
instance : DecidableEq RRt := inferInstanceAs (DecidableEq (List UInt8 × Int × Int × Int × List UInt8))
abbrev Mt2 := List RRt × List RRt
instance : DecidableEq Mt2 := inferInstanceAs (DecidableEq (List RRt × List RRt))
abbrev Mt3 := List Qt × List RRt × Mt2
instance : DecidableEq Mt3 := inferInstanceAs (DecidableEq (List Qt × List RRt × Mt2))
instance : DecidableEq Mt := inferInstanceAs (DecidableEq (Int × Int × Mt3))
theorem rr_beq (x y : RRt) : (x.1 == y.1 && (x.2.1 == y.2.1 && (x.2.2.1 == y.2.2.1 && (x.2.2.2.1 == y.2.2.2.1 && (x.2.2.2.2 == y.2.2.2.2 && true))))) = decide (x = y) := by
  obtain ⟨a, b, c, d, e⟩ := x
  obtain ⟨a', b', c', d', e'⟩ := y
  rw [Bool.eq_iff_iff]
  simp
theorem q_beq (x y : Qt) : (x.1 == y.1 && (x.2.1 == y.2.1 && (x.2.2 == y.2.2 && true))) = decide (x = y) := by
  obtain ⟨a, b, c⟩ := x
  obtain ⟨a', b', c'⟩ := y
  rw [Bool.eq_iff_iff]
  simp
theorem same_loop {α : Type} [DecidableEq α] {step : List α → List α → Int → Option (Int ⊕ (Bool ⊕ Unit))}
    (hend : ∀ a b : List α, step a b (a.length : Int) = some (.inr (.inr ())))
    (hst : ∀ (a b : List α) (i : Nat) (x y : α), i < a.length → (a.length : Int) ≤ maxI → a[i]? = some x → b[i]? = some y → step a b (i : Int) = if x = y then some (.inl ((i + 1 : Nat) : Int)) else some (.inr (.inl false))) :
    ∀ (a b u : List α), a.length = b.length → ((u ++ a).length : Int) ≤ maxI → loopS (step (u ++ a) (u ++ b)) (u.length : Int) = some (if a = b then .inr () else .inl false)
  | [], [], u, _, _ => by
    refine loopS_out ?_
    rw [if_pos rfl, List.append_nil]
    exact hend u u
  | [], _ :: _, _, h, _ => by simp at h
  | _ :: _, [], _, h, _ => by simp at h
  | x :: a, y :: b, u, h, hl => by
    have hs := hst (u ++ x :: a) (u ++ y :: b) u.length x y (by simp) hl (by simp) (by simp)
    by_cases hxy : x = y
    · subst hxy
      rw [if_pos rfl] at hs
      rw [loopS_next hs]
      have := same_loop hend hst a b (u ++ [x]) (by simpa using h) (by simpa using hl)
      simp only [List.append_assoc, List.singleton_append, List.length_append, List.length_cons, List.length_nil] at this
      rw [this]
      simp
    · rw [if_neg hxy] at hs
      refine (loopS_out hs).trans ?_
      rw [if_neg (by simp [hxy])]
theorem ref06_Same_eq {a b : List RRt} (h : (a.length : Int) ≤ maxI) : F_ref06_Same a b = some (decide (a = b)) := by
  unfold F_ref06_Same
  by_cases hl : a.length = b.length
  · have e : ((a.length : Int) != (b.length : Int)) = false := by simp [hl]
    have := same_loop (step := fun a b => step_ref06_Same_0 a b) (fun a b => by simp [step_ref06_Same_0]) (fun a b i x y hi hL hx hy => by
      simp only [step_ref06_Same_0, natOf_nat, hx, hy, bnd_some, rr_beq, grdEq_self]
      have hmx : maxI = 9223372036854775807 := rfl
      rw [if_pos (by simp; omega), wrap_id (by omega) (by omega)]
      by_cases hxy : x = y <;> simp [hxy]) a b [] hl (by simpa using h)
    simp only [List.nil_append, List.length_nil, Int.natCast_zero] at this
    rw [e, this]
    by_cases hab : a = b <;> simp [hab, bnd_some]
  · have e : ((a.length : Int) != (b.length : Int)) = true := by simp; omega
    rw [e]
    have : ¬ a = b := fun h => hl (by rw [h])
    simp [this]
def fewM (m : Mt) : Prop := (m.2.2.1.length : Int) ≤ maxI ∧ (m.2.2.2.1.length : Int) ≤ maxI ∧ (m.2.2.2.2.1.length : Int) ≤ maxI ∧ (m.2.2.2.2.2.length : Int) ≤ maxI
theorem ref08_Same_loop {m k : Mt} : ∀ (a b u : List Qt), m.2.2.1 = u ++ a → k.2.2.1 = u ++ b → a.length = b.length → ((u ++ a).length : Int) ≤ maxI → loopS (step_ref08_Same_0 m k) (u.length : Int) = some (if a = b then .inr () else .inl false)
  | [], [], u, ha, hb, _, _ => by
    refine loopS_out ?_
    rw [if_pos rfl]
    simp only [step_ref08_Same_0, grdEq_self, ha]
    rw [if_neg (by simp)]
  | [], _ :: _, _, _, _, h, _ => by simp at h
  | _ :: _, [], _, _, _, h, _ => by simp at h
  | x :: a, y :: b, u, ha, hb, h, hl => by
    have gx : m.2.2.1[u.length]? = some x := by rw [ha]; simp
    have gy : k.2.2.1[u.length]? = some y := by rw [hb]; simp
    have c0 : decide ((u.length : Int) < (m.2.2.1.length : Int)) = true := by rw [ha]; simp; omega
    have hmx : maxI = 9223372036854775807 := rfl
    have hlu : (u.length : Int) < maxI := by simp at hl; omega
    by_cases hxy : x = y
    · subst hxy
      rw [loopS_next (y := ((u ++ [x]).length : Int))]
      · rw [ref08_Same_loop a b (u ++ [x]) (by rw [ha]; simp) (by rw [hb]; simp) (by simpa using h) (by simpa using hl)]
        simp
      · simp only [step_ref08_Same_0, c0, if_true, natOf_nat, gx, gy, bnd_some, q_beq, grdEq_self, decide_true, Bool.not_true, Bool.false_eq_true, if_false]
        rw [wrap_id (by omega) (by omega)]
        simp
    · refine (loopS_out (y := .inl false) ?_).trans ?_
      · simp only [step_ref08_Same_0, c0, if_true, natOf_nat, gx, gy, bnd_some, q_beq, grdEq_self, hxy, decide_false, Bool.not_false]
      · rw [if_neg (by simp [hxy])]
theorem ref08_Same_eq {a b : Mt} (h : fewM a) : F_ref08_Same a b = some (decide (a = b)) := by
  obtain ⟨h1, h2, h3, h4⟩ := h
  unfold F_ref08_Same
  simp only [ref06_Same_eq h2, ref06_Same_eq h3, ref06_Same_eq h4, bnd_some, grdEq_self]
  by_cases g1 : a.1 = b.1
  · by_cases g2 : a.2.1 = b.2.1
    · by_cases gl : a.2.2.1.length = b.2.2.1.length
      · have e1 : (a.1 != b.1) = false := by simp [g1]
        have e2 : (a.2.1 != b.2.1) = false := by simp [g2]
        have e3 : ((a.2.2.1.length : Int) != (b.2.2.1.length : Int)) = false := by simp [gl]
        have hL := ref08_Same_loop (m := a) (k := b) a.2.2.1 b.2.2.1 [] rfl rfl gl (by simpa using h1)
        simp only [List.length_nil, Int.natCast_zero] at hL
        simp only [e1, e2, e3, if_true, Bool.false_eq_true, if_false, bnd_some, hL]
        obtain ⟨a1, a2, a3, a4, a5, a6⟩ := a
        obtain ⟨b1, b2, b3, b4, b5, b6⟩ := b
        simp only at g1 g2
        subst g1 g2
        simp only [Prod.mk.injEq, true_and]
        by_cases g3 : a3 = b3
        · simp only [g3, if_true, true_and]
          by_cases g4 : a4 = b4
          · by_cases g5 : a5 = b5 <;> simp [g4, g5]
          · simp [g4]
        · simp [g3]
      · have e1 : (a.1 != b.1) = false := by simp [g1]
        have e2 : (a.2.1 != b.2.1) = false := by simp [g2]
        have e3 : ((a.2.2.1.length : Int) != (b.2.2.1.length : Int)) = true := by simp; omega
        have : ¬ a = b := fun h => gl (by rw [h])
        simp [e1, e2, e3, this, bnd_some]
    · have e1 : (a.1 != b.1) = false := by simp [g1]
      have e2 : (a.2.1 != b.2.1) = true := by simp [g2]
      have : ¬ a = b := fun h => g2 (by rw [h])
      simp [e1, e2, this, bnd_some]
  · have e1 : (a.1 != b.1) = true := by simp [g1]
    have : ¬ a = b := fun h => g1 (by rw [h])
    simp [e1, this, bnd_some]
end Go.Abs

namespace Go.Abs
open Go
def okQ (q : Qt) : Bool := nameS q.1 && inC q.2.1 65535 && inC q.2.2 65535
theorem okQ_iff {q : Qt} (h : okQ q = true) : nameS q.1 = true ∧ (0 ≤ q.2.1 ∧ q.2.1 ≤ 65535) ∧ (0 ≤ q.2.2 ∧ q.2.2 ≤ 65535) := by
  unfold okQ inC at h
  simp only [Bool.and_eq_true, decide_eq_true_eq] at h
  exact ⟨h.1.1, h.1.2, h.2⟩
end Go.Abs

namespace Go.Abs
open Go
end Go.Abs

namespace Go.Abs
open Go
end Go.Abs

namespace Go.Abs
open Go
end Go.Abs

namespace Go.Abs
open Go
end Go.Abs

namespace Go.Abs
open Go
end Go.Abs
