/- Part of a proof. -/
import Derived.Test.YthlcfhkcbmikcaaGreatLawA
import Derived.Test.YthlcfhkcbmikcaaGreatSxB
set_option linter.unusedSimpArgs false
set_option linter.unusedVariables false
set_option linter.unusedSectionVars false
namespace Go.Abs
open Go
end Go.Abs

namespace Go.Abs
open Go
abbrev Qt := List UInt8 × Int × Int
abbrev Mt := Int × Int × List Qt × List RRt × List RRt × List RRt
def m0 : Mt := (0, 0, [], [], [], [])
def qS (s : List UInt8) (a : Int) : Qt × Int × Int :=
  if (readS s a).2.2 ≠ 0 then (([], 0, 0), 0, (readS s a).2.2)
  else match getS s (readS s a).2.1 2, getS s ((readS s a).2.1 + 2) 2 with
    | some k, some c => (((readS s a).1, k, c), (readS s a).2.1 + 4, 0)
    | _, _ => (([], 0, 0), 0, 2)
theorem getS2_b {s : List UInt8} {x v : Int} (h : getS s x 2 = some v) : 0 ≤ v ∧ v < 65536 := by
  obtain ⟨b0, b1, _, _⟩ := getS_bounds h
  obtain ⟨w, hw, w0, w1⟩ := getS_some (s := s) (a := x) (n := 2) b0 (by omega) (by omega) b1
  rw [h] at hw
  cases hw
  have p2 : (256 : Int) ^ (2 : Int).toNat = 65536 := by decide
  rw [p2] at w1
  exact ⟨w0, w1⟩
theorem msg_question_eq {s : List UInt8} (hs : (s.length : Int) ≤ maxI) (a : Int) : F_msg_question s a = some (qS s a) := by
  have hm : maxI = 9223372036854775807 := rfl
  obtain ⟨e1, e2, e3⟩ := readS_ends s a
  unfold F_msg_question qS
  rw [comp_Read_eq hs, bnd_some]
  generalize readS s a = r at *
  obtain ⟨nm, i, e⟩ := r
  simp only at *
  by_cases he : e = 0
  · subst he
    obtain ⟨b0, b1, b2⟩ := e2 rfl
    simp only [bne_self_eq_false, Bool.false_eq_true, if_false, ne_eq, not_true_eq_false, Get_eq hs, bnd_some]
    by_cases hi : i + 2 ≤ maxI
    · rw [wrap_id (x := i + 2) (by omega) (by omega)]
      cases hc : getS s (i + 2) 2 with
      | none => cases getS s i 2 <;> rfl
      | some c =>
        obtain ⟨c0, c1, _, _⟩ := getS_bounds hc
        obtain ⟨k, hk, _⟩ := getS_some (s := s) (a := i) (n := 2) (by omega) (by omega) (by omega) (by omega)
        simp only [hk, twoI, Bool.not_true, Bool.false_eq_true, if_false, wrap_id (x := i + 4) (by omega) (by omega)]
    · have hk : getS s i 2 = none := getS_none (by omega)
      have hc : getS s (i + 2) 2 = none := getS_none (by omega)
      have hw : getS s (IntKind.i64.wrap (i + 2)) 2 = none := by
        unfold getS takeS
        have : ¬ (0 ≤ IntKind.i64.wrap (i + 2)) := by
          simp only [IntKind.wrap, IntKind.bits, IntKind.signed]
          simp
          omega
        rw [if_pos (by omega), if_neg (fun h => this h.1)]
        rfl
      simp only [hk, hc, hw]
      rfl
  · have hne : (e != 0) = true := by simp [he]
    simp only [hne, if_true, ne_eq, he, not_false_eq_true]
def manyS {α : Type} (f : Int → α × Int × Int) : Nat → Int → List α × Int × Int
  | 0, a => ([], a, 0)
  | n + 1, a => if (f a).2.2 ≠ 0 then ([], 0, (f a).2.2) else if (manyS f n (f a).2.1).2.2 ≠ 0 then ([], 0, (manyS f n (f a).2.1).2.2) else ((f a).1 :: (manyS f n (f a).2.1).1, (manyS f n (f a).2.1).2.1, 0)
theorem manyS_bad {α : Type} {f : Int → α × Int × Int} {n : Nat} {a : Int} (h : (f a).2.2 ≠ 0) : manyS f (n + 1) a = ([], 0, (f a).2.2) := by
  show (if (f a).2.2 ≠ 0 then _ else _) = _
  rw [if_pos h]
theorem manyS_ok {α : Type} {f : Int → α × Int × Int} {n : Nat} {a : Int} (h : (f a).2.2 = 0) : manyS f (n + 1) a = if (manyS f n (f a).2.1).2.2 ≠ 0 then ([], 0, (manyS f n (f a).2.1).2.2) else ((f a).1 :: (manyS f n (f a).2.1).1, (manyS f n (f a).2.1).2.1, 0) := by
  show (if (f a).2.2 ≠ 0 then _ else _) = _
  rw [if_neg (by simpa using h)]
def cntS (s : List UInt8) (i : Int) : Nat := ((getS s i 2).getD 0).toNat
theorem cnt_le (s : List UInt8) (i : Int) : cntS s i ≤ 65535 := by
  unfold cntS
  cases h : getS s i 2 with
  | none => simp
  | some v => have := getS2_b h; simp; omega
def decS (s : List UInt8) : Mt × Int :=
  if 65535 < s.length then (m0, 6) else if s.length < 12 then (m0, 2)
  else if (manyS (qS s) (cntS s 4) 12).2.2 ≠ 0 then (m0, (manyS (qS s) (cntS s 4) 12).2.2)
  else if (manyS (recS s) (cntS s 6) (manyS (qS s) (cntS s 4) 12).2.1).2.2 ≠ 0 then (m0, (manyS (recS s) (cntS s 6) (manyS (qS s) (cntS s 4) 12).2.1).2.2)
  else if (manyS (recS s) (cntS s 8) (manyS (recS s) (cntS s 6) (manyS (qS s) (cntS s 4) 12).2.1).2.1).2.2 ≠ 0 then (m0, (manyS (recS s) (cntS s 8) (manyS (recS s) (cntS s 6) (manyS (qS s) (cntS s 4) 12).2.1).2.1).2.2)
  else if (manyS (recS s) (cntS s 10) (manyS (recS s) (cntS s 8) (manyS (recS s) (cntS s 6) (manyS (qS s) (cntS s 4) 12).2.1).2.1).2.1).2.2 ≠ 0 then (m0, (manyS (recS s) (cntS s 10) (manyS (recS s) (cntS s 8) (manyS (recS s) (cntS s 6) (manyS (qS s) (cntS s 4) 12).2.1).2.1).2.1).2.2)
  else if (manyS (recS s) (cntS s 10) (manyS (recS s) (cntS s 8) (manyS (recS s) (cntS s 6) (manyS (qS s) (cntS s 4) 12).2.1).2.1).2.1).2.1 ≠ s.length then (m0, 5)
  else (((getS s 0 2).getD 0, (getS s 2 2).getD 0, (manyS (qS s) (cntS s 4) 12).1, (manyS (recS s) (cntS s 6) (manyS (qS s) (cntS s 4) 12).2.1).1,
    (manyS (recS s) (cntS s 8) (manyS (recS s) (cntS s 6) (manyS (qS s) (cntS s 4) 12).2.1).2.1).1, (manyS (recS s) (cntS s 10) (manyS (recS s) (cntS s 8) (manyS (recS s) (cntS s 6) (manyS (qS s) (cntS s 4) 12).2.1).2.1).2.1).1), 0)
def headS (s : List UInt8) : Int × Int × Bool := if s.length < 12 then (0, 0, false) else ((getS s 0 2).getD 0, (getS s 2 2).getD 0, true)
theorem twoI_1 (o : Option Int) : (twoI o).1 = o.getD 0 := by cases o <;> rfl
theorem msg_Head_eq {s : List UInt8} (hs : (s.length : Int) ≤ maxI) : F_msg_Head s = some (headS s) := by
  unfold F_msg_Head headS
  by_cases h : s.length < 12
  · rw [if_pos (by simp; omega), if_pos h]
  · rw [if_neg (by simp; omega), if_neg h]
    simp only [Get_eq hs, bnd_some, twoI_1]
theorem cnt_get {s : List UInt8} {i : Int} : (twoI (getS s i 2)).1 = (cntS s i : Int) := by
  rw [twoI_1]
  unfold cntS
  cases h : getS s i 2 with
  | none => rfl
  | some v => have := getS2_b h; simp; omega
end Go.Abs

namespace Go.Abs
open Go
theorem dec_loop0 {s : List UInt8} (hs : s.length ≤ 1000000) (v2 v3 : Int) (m : Nat) (hm : m ≤ 65535) : ∀ (n : Nat) (k : Nat) (a : Int) (acc : List Qt), k + n = m → acc.length = k →
    ∃ r, loopS (step_msg_Decode_0 s v2 v3 (m : Int)) (a, ((k : Int), acc)) = some r ∧ (if (manyS (qS s) n a).2.2 ≠ 0 then ∃ x, r = .inl ((manyS (qS s) n a).2.2, x) else r = .inr ((manyS (qS s) n a).2.1, acc ++ (manyS (qS s) n a).1))
  | 0, k, a, acc, hk, ha => by
    refine ⟨.inr (a, acc), loopS_out ?_, by simp [manyS]⟩
    simp only [step_msg_Decode_0, grdEq_self]
    rw [if_neg (by simp; omega)]
  | n + 1, k, a, acc, hk, ha => by
    have hmx : maxI = 9223372036854775807 := rfl
    have c0 : decide ((k : Int) < (m : Int)) = true := by simp; omega
    by_cases he : (qS s a).2.2 = 0
    · have hx : ((qS s a).2.2 != 0) = false := by simp [he]
      obtain ⟨r, r1, r2⟩ := dec_loop0 hs v2 v3 m hm n (k + 1) (qS s a).2.1 (acc ++ [(qS s a).1]) (by omega) (by simp [ha])
      refine ⟨r, ?_, ?_⟩
      · rw [loopS_next (y := ((qS s a).2.1, (((k + 1 : Nat) : Int), acc ++ [(qS s a).1])))]
        · exact r1
        · simp only [step_msg_Decode_0, c0, if_true, msg_question_eq (s := s) (by omega), bnd_some, hx, Bool.false_eq_true, if_false, grdEq_self]
          rw [grdp (by unfold roomLim; simp; omega), wrap_id (by omega) (by omega)]
          rfl
      · rw [manyS_ok he]
        by_cases h2 : (manyS (qS s) n (qS s a).2.1).2.2 = 0
        · rw [if_neg (by simpa using h2)] at r2
          simp [h2, r2]
        · rw [if_pos h2] at r2
          obtain ⟨x, hx⟩ := r2
          simp [h2, hx]
    · have hx : ((qS s a).2.2 != 0) = true := by simp [he]
      refine ⟨.inl ((qS s a).2.2, acc), loopS_out ?_, ?_⟩
      · simp only [step_msg_Decode_0, c0, if_true, msg_question_eq (s := s) (by omega), bnd_some, hx, grdEq_self]
      · rw [manyS_bad he, if_pos he]
        exact ⟨_, rfl⟩
theorem dec_loop1 {s : List UInt8} (hs : s.length ≤ 1000000) (v2 v3 : Int) (qs : List Qt) (m : Nat) (hm : m ≤ 65535) : ∀ (n : Nat) (k : Nat) (a : Int) (acc : List RRt), k + n = m → acc.length = k →
    ∃ r, loopS (step_msg_Decode_1 s v2 v3 (m : Int)) (a, ((k : Int), (qs, acc))) = some r ∧ (if (manyS (recS s) n a).2.2 ≠ 0 then ∃ x, r = .inl ((manyS (recS s) n a).2.2, x) else r = .inr ((manyS (recS s) n a).2.1, (qs, acc ++ (manyS (recS s) n a).1)))
  | 0, k, a, acc, hk, ha => by
    refine ⟨.inr (a, (qs, acc)), loopS_out ?_, by simp [manyS]⟩
    simp only [step_msg_Decode_1, grdEq_self]
    rw [if_neg (by simp; omega)]
  | n + 1, k, a, acc, hk, ha => by
    have c0 : decide ((k : Int) < (m : Int)) = true := by simp; omega
    by_cases he : (recS s a).2.2 = 0
    · have hx : ((recS s a).2.2 != 0) = false := by simp [he]
      obtain ⟨r, r1, r2⟩ := dec_loop1 hs v2 v3 qs m hm n (k + 1) (recS s a).2.1 (acc ++ [(recS s a).1]) (by omega) (by simp [ha])
      refine ⟨r, ?_, ?_⟩
      · rw [loopS_next (y := ((recS s a).2.1, (((k + 1 : Nat) : Int), (qs, acc ++ [(recS s a).1]))))]
        · exact r1
        · simp only [step_msg_Decode_1, c0, if_true, record_Decode_eq hs, bnd_some, hx, Bool.false_eq_true, if_false, grdEq_self]
          rw [grdp (by unfold roomLim; simp; omega), wrap_id (by omega) (by omega)]
          rfl
      · rw [manyS_ok he]
        by_cases h2 : (manyS (recS s) n (recS s a).2.1).2.2 = 0
        · rw [if_neg (by simpa using h2)] at r2
          simp [h2, r2]
        · rw [if_pos h2] at r2
          obtain ⟨x, hx⟩ := r2
          simp [h2, hx]
    · have hx : ((recS s a).2.2 != 0) = true := by simp [he]
      refine ⟨.inl ((recS s a).2.2, (qs, acc)), loopS_out ?_, ?_⟩
      · simp only [step_msg_Decode_1, c0, if_true, record_Decode_eq hs, bnd_some, hx, grdEq_self]
      · rw [manyS_bad he, if_pos he]
        exact ⟨_, rfl⟩
theorem dec_loop2 {s : List UInt8} (hs : s.length ≤ 1000000) (v2 v3 : Int) (qs : List Qt) (an : List RRt) (m : Nat) (hm : m ≤ 65535) : ∀ (n : Nat) (k : Nat) (a : Int) (acc : List RRt), k + n = m → acc.length = k →
    ∃ r, loopS (step_msg_Decode_2 s v2 v3 (m : Int)) (a, ((k : Int), (qs, (an, acc)))) = some r ∧ (if (manyS (recS s) n a).2.2 ≠ 0 then ∃ x, r = .inl ((manyS (recS s) n a).2.2, x) else r = .inr ((manyS (recS s) n a).2.1, (qs, (an, acc ++ (manyS (recS s) n a).1))))
  | 0, k, a, acc, hk, ha => by
    refine ⟨.inr (a, (qs, (an, acc))), loopS_out ?_, by simp [manyS]⟩
    simp only [step_msg_Decode_2, grdEq_self]
    rw [if_neg (by simp; omega)]
  | n + 1, k, a, acc, hk, ha => by
    have c0 : decide ((k : Int) < (m : Int)) = true := by simp; omega
    by_cases he : (recS s a).2.2 = 0
    · have hx : ((recS s a).2.2 != 0) = false := by simp [he]
      obtain ⟨r, r1, r2⟩ := dec_loop2 hs v2 v3 qs an m hm n (k + 1) (recS s a).2.1 (acc ++ [(recS s a).1]) (by omega) (by simp [ha])
      refine ⟨r, ?_, ?_⟩
      · rw [loopS_next (y := ((recS s a).2.1, (((k + 1 : Nat) : Int), (qs, (an, acc ++ [(recS s a).1])))))]
        · exact r1
        · simp only [step_msg_Decode_2, c0, if_true, record_Decode_eq hs, bnd_some, hx, Bool.false_eq_true, if_false, grdEq_self]
          rw [grdp (by unfold roomLim; simp; omega), wrap_id (by omega) (by omega)]
          rfl
      · rw [manyS_ok he]
        by_cases h2 : (manyS (recS s) n (recS s a).2.1).2.2 = 0
        · rw [if_neg (by simpa using h2)] at r2
          simp [h2, r2]
        · rw [if_pos h2] at r2
          obtain ⟨x, hx⟩ := r2
          simp [h2, hx]
    · have hx : ((recS s a).2.2 != 0) = true := by simp [he]
      refine ⟨.inl ((recS s a).2.2, (qs, (an, acc))), loopS_out ?_, ?_⟩
      · simp only [step_msg_Decode_2, c0, if_true, record_Decode_eq hs, bnd_some, hx, grdEq_self]
      · rw [manyS_bad he, if_pos he]
        exact ⟨_, rfl⟩
theorem dec_loop3 {s : List UInt8} (hs : s.length ≤ 1000000) (v2 v3 : Int) (qs : List Qt) (an ns : List RRt) (m : Nat) (hm : m ≤ 65535) : ∀ (n : Nat) (k : Nat) (a : Int) (acc : List RRt), k + n = m → acc.length = k →
    ∃ r, loopS (step_msg_Decode_3 s v2 v3 (m : Int)) (a, ((k : Int), (qs, (an, (ns, acc))))) = some r ∧ (if (manyS (recS s) n a).2.2 ≠ 0 then ∃ x, r = .inl ((manyS (recS s) n a).2.2, x) else r = .inr ((manyS (recS s) n a).2.1, (qs, (an, (ns, acc ++ (manyS (recS s) n a).1)))))
  | 0, k, a, acc, hk, ha => by
    refine ⟨.inr (a, (qs, (an, (ns, acc)))), loopS_out ?_, by simp [manyS]⟩
    simp only [step_msg_Decode_3, grdEq_self]
    rw [if_neg (by simp; omega)]
  | n + 1, k, a, acc, hk, ha => by
    have c0 : decide ((k : Int) < (m : Int)) = true := by simp; omega
    by_cases he : (recS s a).2.2 = 0
    · have hx : ((recS s a).2.2 != 0) = false := by simp [he]
      obtain ⟨r, r1, r2⟩ := dec_loop3 hs v2 v3 qs an ns m hm n (k + 1) (recS s a).2.1 (acc ++ [(recS s a).1]) (by omega) (by simp [ha])
      refine ⟨r, ?_, ?_⟩
      · rw [loopS_next (y := ((recS s a).2.1, (((k + 1 : Nat) : Int), (qs, (an, (ns, acc ++ [(recS s a).1]))))))]
        · exact r1
        · simp only [step_msg_Decode_3, c0, if_true, record_Decode_eq hs, bnd_some, hx, Bool.false_eq_true, if_false, grdEq_self]
          rw [grdp (by unfold roomLim; simp; omega), wrap_id (by omega) (by omega)]
          rfl
      · rw [manyS_ok he]
        by_cases h2 : (manyS (recS s) n (recS s a).2.1).2.2 = 0
        · rw [if_neg (by simpa using h2)] at r2
          simp [h2, r2]
        · rw [if_pos h2] at r2
          obtain ⟨x, hx⟩ := r2
          simp [h2, hx]
    · have hx : ((recS s a).2.2 != 0) = true := by simp [he]
      refine ⟨.inl ((recS s a).2.2, (qs, (an, (ns, acc)))), loopS_out ?_, ?_⟩
      · simp only [step_msg_Decode_3, c0, if_true, record_Decode_eq hs, bnd_some, hx, grdEq_self]
      · rw [manyS_bad he, if_pos he]
        exact ⟨_, rfl⟩
theorem msg_many_eq {s : List UInt8} (hs : (s.length : Int) ≤ maxI) {i : Nat} (hi : i ≤ 3) : F_msg_many s (i : Int) = some (cntS s (4 + 2 * (i : Int)) : Int) := by
  unfold F_msg_many
  rw [wrap_id (x := 2 * (i : Int)) (by omega) (by omega), wrap_id (x := 4 + 2 * (i : Int)) (by omega) (by omega), Get_eq hs, bnd_some, ← cnt_get]
theorem msg_Decode_eq {s : List UInt8} (hs : s.length ≤ 1000000) : F_msg_Decode s = some (decS s) := by
  have hm : maxI = 9223372036854775807 := rfl
  have hs' : (s.length : Int) ≤ maxI := by omega
  unfold F_msg_Decode decS
  rw [msg_Head_eq hs', bnd_some]
  by_cases h1 : 65535 < s.length
  · have : decide ((65535 : Int) < (s.length : Int)) = true := by simp; omega
    simp only [this, if_true, h1]; rfl
  · have c1 : decide ((65535 : Int) < (s.length : Int)) = false := by simp; omega
    unfold headS
    by_cases h2 : s.length < 12
    · simp only [c1, h1, h2, if_true, Bool.not_false, Bool.false_eq_true, if_false]; rfl
    · have n0 := msg_many_eq (s := s) hs' (i := 0) (by omega)
      have n1 := msg_many_eq (s := s) hs' (i := 1) (by omega)
      have n2 := msg_many_eq (s := s) hs' (i := 2) (by omega)
      have n3 := msg_many_eq (s := s) hs' (i := 3) (by omega)
      simp only [Int.natCast_zero, Int.natCast_one, Int.mul_zero, Int.mul_one, Int.add_zero, show (4 : Int) + 2 = 6 from rfl] at n0 n1
      rw [show 4 + 2 * ((2 : Nat) : Int) = 8 from rfl, show ((2 : Nat) : Int) = 2 from rfl] at n2
      rw [show 4 + 2 * ((3 : Nat) : Int) = 10 from rfl, show ((3 : Nat) : Int) = 3 from rfl] at n3
      simp only [c1, h1, h2, Bool.not_true, Bool.false_eq_true, if_false, n0, n1, n2, n3, bnd_some]
      obtain ⟨r, r1, r2⟩ := dec_loop0 hs ((getS s 0 2).getD 0) ((getS s 2 2).getD 0) (cntS s 4) (cnt_le s 4) (cntS s 4) 0 12 [] (by omega) rfl
      simp only [Int.natCast_zero] at r1
      rw [r1, bnd_some]
      by_cases g1 : (manyS (qS s) (cntS s 4) 12).2.2 = 0
      · rw [if_neg (by simpa using g1)] at r2
        subst r2
        simp only [List.nil_append]
        rw [if_neg (by simpa using g1)]
        obtain ⟨r, r1, r2⟩ := dec_loop1 hs ((getS s 0 2).getD 0) ((getS s 2 2).getD 0) (manyS (qS s) (cntS s 4) 12).1 (cntS s 6) (cnt_le s 6) (cntS s 6) 0 (manyS (qS s) (cntS s 4) 12).2.1 [] (by omega) rfl
        simp only [Int.natCast_zero] at r1
        rw [r1, bnd_some]
        by_cases g2 : (manyS (recS s) (cntS s 6) (manyS (qS s) (cntS s 4) 12).2.1).2.2 = 0
        · rw [if_neg (by simpa using g2)] at r2
          subst r2
          simp only [List.nil_append]
          rw [if_neg (by simpa using g2)]
          obtain ⟨r, r1, r2⟩ := dec_loop2 hs ((getS s 0 2).getD 0) ((getS s 2 2).getD 0) (manyS (qS s) (cntS s 4) 12).1 (manyS (recS s) (cntS s 6) (manyS (qS s) (cntS s 4) 12).2.1).1 (cntS s 8) (cnt_le s 8) (cntS s 8) 0 (manyS (recS s) (cntS s 6) (manyS (qS s) (cntS s 4) 12).2.1).2.1 [] (by omega) rfl
          simp only [Int.natCast_zero] at r1
          rw [r1, bnd_some]
          by_cases g3 : (manyS (recS s) (cntS s 8) (manyS (recS s) (cntS s 6) (manyS (qS s) (cntS s 4) 12).2.1).2.1).2.2 = 0
          · rw [if_neg (by simpa using g3)] at r2
            subst r2
            simp only [List.nil_append]
            rw [if_neg (by simpa using g3)]
            obtain ⟨r, r1, r2⟩ := dec_loop3 hs ((getS s 0 2).getD 0) ((getS s 2 2).getD 0) (manyS (qS s) (cntS s 4) 12).1 (manyS (recS s) (cntS s 6) (manyS (qS s) (cntS s 4) 12).2.1).1 (manyS (recS s) (cntS s 8) (manyS (recS s) (cntS s 6) (manyS (qS s) (cntS s 4) 12).2.1).2.1).1 (cntS s 10) (cnt_le s 10) (cntS s 10) 0 (manyS (recS s) (cntS s 8) (manyS (recS s) (cntS s 6) (manyS (qS s) (cntS s 4) 12).2.1).2.1).2.1 [] (by omega) rfl
            simp only [Int.natCast_zero] at r1
            rw [r1, bnd_some]
            by_cases g4 : (manyS (recS s) (cntS s 10) (manyS (recS s) (cntS s 8) (manyS (recS s) (cntS s 6) (manyS (qS s) (cntS s 4) 12).2.1).2.1).2.1).2.2 = 0
            · rw [if_neg (by simpa using g4)] at r2
              subst r2
              simp only [List.nil_append, g4, ne_eq, not_true_eq_false, if_false]
              generalize manyS (recS s) (cntS s 10) (manyS (recS s) (cntS s 8) (manyS (recS s) (cntS s 6) (manyS (qS s) (cntS s 4) 12).2.1).2.1).2.1 = z
              by_cases g5 : z.2.1 = s.length
              · have g6 : (z.2.1 != (s.length : Int)) = false := by simp [g5]
                simp only [g5, g6, Bool.false_eq_true, if_false, not_true_eq_false]
                rw [← g5]
                simp
              · have g6 : (z.2.1 != (s.length : Int)) = true := by simp [g5]
                simp only [g5, g6, if_true, not_false_eq_true]
                rfl
            · rw [if_pos g4] at r2
              obtain ⟨x, rfl⟩ := r2
              rw [if_pos g4]
              rfl
          · rw [if_pos g3] at r2
            obtain ⟨x, rfl⟩ := r2
            rw [if_pos g3]
            rfl
        · rw [if_pos g2] at r2
          obtain ⟨x, rfl⟩ := r2
          rw [if_pos g2]
          rfl
      · rw [if_pos g1] at r2
        obtain ⟨x, rfl⟩ := r2
        rw [if_pos g1]
        rfl
instance : DecidableEq Qt := inferInstanceAs (DecidableEq (List UInt8 × Int × Int))
instance : DecidableEq RRt := inferInstanceAs (DecidableEq (List UInt8 × Int × Int × Int × List UInt8))
abbrev Mt2 := List RRt × List RRt
instance : DecidableEq Mt2 := inferInstanceAs (DecidableEq (List RRt × List RRt))
abbrev Mt3 := List Qt × List RRt × Mt2
instance : DecidableEq Mt3 := inferInstanceAs (DecidableEq (List Qt × List RRt × Mt2))
instance : DecidableEq Mt := inferInstanceAs (DecidableEq (Int × Int × Mt3))
def fewM (m : Mt) : Prop := (m.2.2.1.length : Int) ≤ maxI ∧ (m.2.2.2.1.length : Int) ≤ maxI ∧ (m.2.2.2.2.1.length : Int) ≤ maxI ∧ (m.2.2.2.2.2.length : Int) ≤ maxI
theorem many_len {α : Type} {f : Int → α × Int × Int} : ∀ (n : Nat) (a : Int), (manyS f n a).1.length ≤ n
  | 0, a => by simp [manyS]
  | n + 1, a => by
    have := many_len (f := f) n (f a).2.1
    by_cases h : (f a).2.2 = 0
    · rw [manyS_ok h]
      split
      · simp
      · simp; omega
    · rw [manyS_bad h]; simp
theorem decS_few (s : List UInt8) : fewM (decS s).1 := by
  have hm : maxI = 9223372036854775807 := rfl
  have key : ∀ {n k : Nat}, n ≤ k → k ≤ 65535 → (n : Int) ≤ maxI := by intro n k h1 h2; omega
  have c4 := cnt_le s 4
  have c6 := cnt_le s 6
  have c8 := cnt_le s 8
  have c10 := cnt_le s 10
  have h0 : fewM m0 := ⟨by simp [m0, maxI], by simp [m0, maxI], by simp [m0, maxI], by simp [m0, maxI]⟩
  unfold decS
  split
  · exact h0
  split
  · exact h0
  split
  · exact h0
  split
  · exact h0
  split
  · exact h0
  split
  · exact h0
  split
  · exact h0
  exact ⟨key (many_len _ _) c4, key (many_len _ _) c6, key (many_len _ _) c8, key (many_len _ _) c10⟩
end Go.Abs

namespace Go.Abs
open Go
def okQ (q : Qt) : Bool := nameS q.1 && inC q.2.1 65535 && inC q.2.2 65535
def checkM (m : Mt) : Bool := inC m.1 65535 && inC m.2.1 65535 && inC (m.2.2.1.length : Int) 65535 && m.2.2.1.all okQ && inC (m.2.2.2.1.length : Int) 65535 && m.2.2.2.1.all recC && inC (m.2.2.2.2.1.length : Int) 65535 && m.2.2.2.2.1.all recC && inC (m.2.2.2.2.2.length : Int) 65535 && m.2.2.2.2.2.all recC
theorem checkM_iff {m : Mt} (h : checkM m = true) : (0 ≤ m.1 ∧ m.1 ≤ 65535) ∧ (0 ≤ m.2.1 ∧ m.2.1 ≤ 65535) ∧ m.2.2.1.length ≤ 65535 ∧ (∀ q ∈ m.2.2.1, okQ q = true) ∧ m.2.2.2.1.length ≤ 65535 ∧ (∀ r ∈ m.2.2.2.1, recC r = true) ∧
    m.2.2.2.2.1.length ≤ 65535 ∧ (∀ r ∈ m.2.2.2.2.1, recC r = true) ∧ m.2.2.2.2.2.length ≤ 65535 ∧ (∀ r ∈ m.2.2.2.2.2, recC r = true) := by
  unfold checkM inC at h
  simp only [Bool.and_eq_true, decide_eq_true_eq, List.all_eq_true] at h
  obtain ⟨⟨⟨⟨⟨⟨⟨⟨⟨h1, h2⟩, h3⟩, h4⟩, h5⟩, h6⟩, h7⟩, h8⟩, h9⟩, h10⟩ := h
  exact ⟨h1, h2, by omega, h4, by omega, h6, by omega, h8, by omega, h10⟩
theorem okQ_iff {q : Qt} (h : okQ q = true) : nameS q.1 = true ∧ (0 ≤ q.2.1 ∧ q.2.1 ≤ 65535) ∧ (0 ≤ q.2.2 ∧ q.2.2 ≤ 65535) := by
  unfold okQ inC at h
  simp only [Bool.and_eq_true, decide_eq_true_eq] at h
  exact ⟨h.1.1, h.1.2, h.2⟩
end Go.Abs

namespace Go.Abs
open Go
end Go.Abs

namespace Go.Abs
open Go
end Go.Abs

namespace Go.Abs
open Go
theorem many_all {α : Type} {f : Int → α × Int × Int} {P : α → Prop} (hP : ∀ a, (f a).2.2 = 0 → P (f a).1) : ∀ (n : Nat) (a : Int), (manyS f n a).2.2 = 0 → ∀ x ∈ (manyS f n a).1, P x
  | 0, a, _ => by simp [manyS]
  | n + 1, a, h => by
    by_cases h1 : (f a).2.2 = 0
    · rw [manyS_ok h1] at h ⊢
      by_cases h2 : (manyS f n (f a).2.1).2.2 = 0
      · rw [if_neg (by simpa using h2)]
        intro x hx
        rcases List.mem_cons.1 hx with rfl | hx
        · exact hP a h1
        · exact many_all hP n _ h2 x hx
      · rw [if_pos h2] at h
        exact absurd h h2
    · rw [manyS_bad h1] at h
      exact absurd h h1
theorem qS_may {s : List UInt8} {a : Int} (h : (qS s a).2.2 = 0) : okQ (qS s a).1 = true := by
  unfold qS at h ⊢
  by_cases hr : (readS s a).2.2 = 0
  · rw [if_neg (by simpa using hr)] at h ⊢
    cases hk : getS s (readS s a).2.1 2 with
    | none => rw [hk] at h; simp at h
    | some k =>
      cases hc : getS s ((readS s a).2.1 + 2) 2 with
      | none => rw [hk, hc] at h; simp at h
      | some c =>
        have := getS2_b hk
        have := getS2_b hc
        simp only [okQ, inC, readS_name hr]
        simp
        omega
  · rw [if_pos hr] at h
    exact absurd h hr
theorem decS_ok {s : List UInt8} (h : (decS s).2 = 0) : 12 ≤ s.length ∧ s.length ≤ 65535 ∧
    (manyS (qS s) (cntS s 4) 12).2.2 = 0 ∧ (manyS (recS s) (cntS s 6) (manyS (qS s) (cntS s 4) 12).2.1).2.2 = 0 ∧
    (manyS (recS s) (cntS s 8) (manyS (recS s) (cntS s 6) (manyS (qS s) (cntS s 4) 12).2.1).2.1).2.2 = 0 ∧
    (manyS (recS s) (cntS s 10) (manyS (recS s) (cntS s 8) (manyS (recS s) (cntS s 6) (manyS (qS s) (cntS s 4) 12).2.1).2.1).2.1).2.2 = 0 ∧
    (manyS (recS s) (cntS s 10) (manyS (recS s) (cntS s 8) (manyS (recS s) (cntS s 6) (manyS (qS s) (cntS s 4) 12).2.1).2.1).2.1).2.1 = s.length ∧
    (decS s).1 = ((getS s 0 2).getD 0, (getS s 2 2).getD 0, (manyS (qS s) (cntS s 4) 12).1, (manyS (recS s) (cntS s 6) (manyS (qS s) (cntS s 4) 12).2.1).1,
    (manyS (recS s) (cntS s 8) (manyS (recS s) (cntS s 6) (manyS (qS s) (cntS s 4) 12).2.1).2.1).1, (manyS (recS s) (cntS s 10) (manyS (recS s) (cntS s 8) (manyS (recS s) (cntS s 6) (manyS (qS s) (cntS s 4) 12).2.1).2.1).2.1).1) := by
  unfold decS at h ⊢
  split at h
  · simp at h
  split at h
  · simp at h
  split at h
  · rename_i h3; exact absurd h h3
  split at h
  · rename_i h3; exact absurd h h3
  split at h
  · rename_i h3; exact absurd h h3
  split at h
  · rename_i h3; exact absurd h h3
  split at h
  · simp at h
  rename_i h1 h2 h3 h4 h5 h6 h7
  rw [if_neg h1, if_neg h2, if_neg h3, if_neg h4, if_neg h5, if_neg h6, if_neg h7]
  exact ⟨by omega, by omega, Decidable.not_not.1 h3, Decidable.not_not.1 h4, Decidable.not_not.1 h5, Decidable.not_not.1 h6, Decidable.not_not.1 h7, rfl⟩
theorem checkM_mk {m : Mt} (h1 : 0 ≤ m.1 ∧ m.1 ≤ 65535) (h2 : 0 ≤ m.2.1 ∧ m.2.1 ≤ 65535) (h3 : m.2.2.1.length ≤ 65535) (h4 : ∀ q ∈ m.2.2.1, okQ q = true) (h5 : m.2.2.2.1.length ≤ 65535) (h6 : ∀ r ∈ m.2.2.2.1, recC r = true)
    (h7 : m.2.2.2.2.1.length ≤ 65535) (h8 : ∀ r ∈ m.2.2.2.2.1, recC r = true) (h9 : m.2.2.2.2.2.length ≤ 65535) (h10 : ∀ r ∈ m.2.2.2.2.2, recC r = true) : checkM m = true := by
  have i : ∀ {n : Int}, 0 ≤ n ∧ n ≤ 65535 → inC n 65535 = true := fun h => by unfold inC; rw [decide_eq_true h.1, decide_eq_true h.2]; rfl
  have g : ∀ {n : Nat}, n ≤ 65535 → inC (n : Int) 65535 = true := fun h => i (by omega)
  unfold checkM
  rw [i h1, i h2, g h3, g h5, g h7, g h9, List.all_eq_true.2 h4, List.all_eq_true.2 h6, List.all_eq_true.2 h8, List.all_eq_true.2 h10]
  rfl
theorem getD_b (s : List UInt8) (i : Int) : 0 ≤ (getS s i 2).getD 0 ∧ (getS s i 2).getD 0 ≤ 65535 := by
  cases h : getS s i 2 with
  | none => simp
  | some v => have := getS2_b h; simp; omega
theorem decS_may {s : List UInt8} (h : (decS s).2 = 0) : checkM (decS s).1 = true := by
  obtain ⟨l1, l2, k1, k2, k3, k4, k5, e⟩ := decS_ok h
  rw [e]
  have b0 := getD_b s 0
  have b2 := getD_b s 2
  have q1 := many_all (P := fun q => okQ q = true) (fun a h => qS_may h) _ _ k1
  have r1 := many_all (P := fun r => recC r = true) (fun a h => (recS_may.2 h).1) _ _ k2
  have r2 := many_all (P := fun r => recC r = true) (fun a h => (recS_may.2 h).1) _ _ k3
  have r3 := many_all (P := fun r => recC r = true) (fun a h => (recS_may.2 h).1) _ _ k4
  have c4 := Nat.le_trans (many_len (f := qS s) (cntS s 4) 12) (cnt_le s 4)
  have c6 := Nat.le_trans (many_len (f := recS s) (cntS s 6) (manyS (qS s) (cntS s 4) 12).2.1) (cnt_le s 6)
  have c8 := Nat.le_trans (many_len (f := recS s) (cntS s 8) (manyS (recS s) (cntS s 6) (manyS (qS s) (cntS s 4) 12).2.1).2.1) (cnt_le s 8)
  have c10 := Nat.le_trans (many_len (f := recS s) (cntS s 10) (manyS (recS s) (cntS s 8) (manyS (recS s) (cntS s 6) (manyS (qS s) (cntS s 4) 12).2.1).2.1).2.1) (cnt_le s 10)
  exact checkM_mk b0 b2 c4 q1 c6 r1 c8 r2 c10 r3
end Go.Abs

namespace Go.Abs
open Go
end Go.Abs

namespace Go.Abs
open Go
end Go.Abs
