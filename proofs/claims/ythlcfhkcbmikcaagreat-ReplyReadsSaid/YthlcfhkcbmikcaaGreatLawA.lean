/- Part of a proof. -/
import Derived.Test.YthlcfhkcbmikcaaGreatSxB
import Derived.Test.YthlcfhkcbmikcaaGreatSnD
set_option linter.unusedSimpArgs false
set_option linter.unusedVariables false
set_option linter.unusedSectionVars false
namespace Go.Abs
open Go
theorem ofInt_i64 (a : Nat) (ha : a < 18446744073709551616) : (BitVec.ofInt 64 (a : Int)).toNat = a := by
  rw [BitVec.ofInt_natCast, BitVec.toNat_ofNat]; exact Nat.mod_eq_of_lt (by omega)
theorem i64_or_nat (a b : Nat) (ha : a < 9223372036854775808) (hb : b < 9223372036854775808) : bits .or .i64 (a : Int) (b : Int) = ((a ||| b : Nat) : Int) := by
  have hx : a ||| b < 2 ^ 63 := Nat.or_lt_two_pow (by omega) (by omega)
  show IntKind.i64.wrap ((BitVec.ofInt 64 (a : Int) ||| BitVec.ofInt 64 (b : Int)).toNat : Int) = _
  rw [BitVec.toNat_or, ofInt_i64 a (by omega), ofInt_i64 b (by omega)]
  exact wrap64 (by omega) (by omega)
theorem i64_and_nat (a b : Nat) (ha : a < 9223372036854775808) (hb : b < 9223372036854775808) : bits .and .i64 (a : Int) (b : Int) = ((a &&& b : Nat) : Int) := by
  have hx : a &&& b < 2 ^ 63 := Nat.and_lt_two_pow _ (by omega)
  show IntKind.i64.wrap ((BitVec.ofInt 64 (a : Int) &&& BitVec.ofInt 64 (b : Int)).toNat : Int) = _
  rw [BitVec.toNat_and, ofInt_i64 a (by omega), ofInt_i64 b (by omega)]
  exact wrap64 (by omega) (by omega)
theorem or_byte (a b : Nat) (hb : b < 256) : a * 256 ||| b = a * 256 + b := by
  have := Nat.shiftLeft_add_eq_or_of_lt (b := b) (i := 8) (by omega) a
  rw [Nat.shiftLeft_eq] at this
  exact this.symm
theorem i64_or_byteN {n m : Nat} (ha : n < 36028797018963968) (hb : m < 256) : bits .or .i64 ((n * 256 : Nat) : Int) (m : Int) = ((n * 256 + m : Nat) : Int) := by
  have h1 : n * 256 < 9223372036854775808 := by omega
  have h2 : m < 9223372036854775808 := by omega
  rw [i64_or_nat _ _ h1 h2, or_byte n m hb]
theorem i64_or_byte {a b : Int} (ha : 0 ≤ a) (ha2 : a < 36028797018963968) (hb : 0 ≤ b) (hb2 : b < 256) : bits .or .i64 (a * 256) b = a * 256 + b := by
  obtain ⟨n, rfl⟩ := Int.eq_ofNat_of_zero_le ha
  obtain ⟨m, rfl⟩ := Int.eq_ofNat_of_zero_le hb
  have h := i64_or_byteN (n := n) (m := m) (by omega) (by omega)
  rw [Int.natCast_add, Int.natCast_mul] at h
  exact h
theorem byte_lt (b : UInt8) : (b.toNat : Int) < 256 := by have := b.toNat_lt; omega
theorem byte_nn (b : UInt8) : (0 : Int) ≤ (b.toNat : Int) := by omega
theorem wrap_byte (b : UInt8) : IntKind.i64.wrap (b.toNat : Int) = (b.toNat : Int) := wrap_id (by omega) (by have := b.toNat_lt; omega)
theorem bytes_back (s : List UInt8) : List.map (fun n : Int => UInt8.ofNat n.toNat) (List.map (fun b : UInt8 => (b.toNat : Int)) s) = s := by
  rw [List.map_map]
  conv => rhs; rw [← List.map_id s]
  apply List.map_congr_left
  intro b _
  simp
def takeS (s : List UInt8) (a n : Int) : Option (List UInt8) := if 0 ≤ a ∧ 0 ≤ n ∧ a ≤ s.length ∧ n ≤ s.length - a then some ((s.drop a.toNat).take n.toNat) else none
@[reducible] def two (o : Option (List UInt8)) : List UInt8 × Bool := match o with
  | some x => (x, true)
  | none => ([], false)
def beN (l : List UInt8) : Int := l.foldl (fun n b => 256 * n + (b.toNat : Int)) 0
def getS (s : List UInt8) (a n : Int) : Option Int := if 1 ≤ n ∧ n ≤ 4 then (takeS s a n).map beN else none
@[reducible] def twoI (o : Option Int) : Int × Bool := match o with
  | some x => (x, true)
  | none => (0, false)
theorem takeS_len {s : List UInt8} {a n : Int} {t : List UInt8} (h : takeS s a n = some t) : (t.length : Int) = n := by
  unfold takeS at h
  split at h
  · simp only [Option.some.injEq] at h; subst h
    simp
    omega
  · simp at h
theorem grdp {β : Type} {c : Prop} {i : Decidable c} {b : Option β} (h : c) : @grd β c i b = b := by unfold grd; rw [if_pos h]
end Go.Abs

namespace Go.Abs
open Go
def maxI : Int := 9223372036854775807
theorem ref01_Take_eq {s : List UInt8} (hs : (s.length : Int) ≤ maxI) (a n : Int) : F_ref01_Take s a n = some (two (takeS s a n)) := by
  unfold maxI at hs
  unfold F_ref01_Take takeS
  by_cases h1 : a < 0
  · rw [if_neg (by simpa using h1), if_neg (by omega)]
  rw [if_pos (by simpa using h1)]
  by_cases h2 : n < 0
  · rw [if_neg (by simpa using h2), if_neg (by omega)]
  rw [if_pos (by simpa using h2)]
  by_cases h3 : (s.length : Int) < a
  · rw [if_neg (by simpa using h3), if_neg (by omega)]
  rw [if_pos (by simpa using h3), wrap_id (by omega) (by omega)]
  by_cases h4 : (s.length : Int) - a < n
  · rw [if_pos (by simpa using h4), if_neg (by omega)]
  rw [if_neg (by simpa using h4), wrap_id (by omega) (by omega), natOf_pos (by omega), grd_pos (by omega), natOf_pos (by omega), grd_pos (by omega), if_pos (by omega)]
  simp only [two, List.drop_take]
  congr 3
  omega
theorem get_loop_ref (n : Int) (t : List UInt8) (hn : (t.length : Int) = n) (h4 : n ≤ 4) : loopS (step_ref01_Get_0 n t) (0, 0) = some (beN t) := by
  have hl : t.length ≤ 4 := by omega
  have key : ∀ (k : Nat) (i : Nat) (m : Int), t.length - i = k → i ≤ t.length → 0 ≤ m → m < 256 ^ i → loopS (step_ref01_Get_0 n t) (m, (i : Int)) = some ((t.drop i).foldl (fun n b => 256 * n + (b.toNat : Int)) m) := by
    intro k
    induction k with
    | zero =>
      intro i m hk hi h0 h1
      have : t.drop i = [] := List.drop_eq_nil_of_le (by omega)
      rw [this]
      refine loopS_out ?_
      simp only [step_ref01_Get_0]
      rw [if_neg (by simp; omega)]
      rfl
    | succ k ih =>
      intro i m hk hi h0 h1
      have hlt : i < t.length := by omega
      have hb := byte_lt t[i]
      have hb0 := byte_nn t[i]
      have hp : (256 : Int) ^ i ≤ 16777216 := by
        rcases (by omega : i = 0 ∨ i = 1 ∨ i = 2 ∨ i = 3) with rfl | rfl | rfl | rfl <;> decide
      rw [List.drop_eq_getElem_cons hlt, List.foldl_cons]
      rw [loopS_next (y := (256 * m + (t[i].toNat : Int), ((i + 1 : Nat) : Int)))]
      · refine ih (i + 1) _ (by omega) (by omega) (by omega) ?_
        rw [Int.pow_succ]
        omega
      · simp only [step_ref01_Get_0]
        rw [if_pos (by simp; omega), natOf_nat, List.getElem?_eq_getElem hlt, bnd_some, grdEq_self, grdEq_self, wrap_byte, wrap_id (x := 256 * m) (by omega) (by omega), wrap_id (by omega) (by omega), wrap_id (x := (i : Int) + 1) (by omega) (by omega)]
        rfl
  have := key t.length 0 0 (by omega) (by omega) (by omega) (by simp)
  simpa [beN] using this
theorem ref01_Get_eq {s : List UInt8} (hs : (s.length : Int) ≤ maxI) (a n : Int) : F_ref01_Get s a n = some (twoI (getS s a n)) := by
  unfold F_ref01_Get getS
  rw [ref01_Take_eq hs, bnd_some]
  cases ht : takeS s a n with
  | none => simp [two, bnd, twoI]
  | some t =>
    have hlen := takeS_len ht
    simp only [two]
    by_cases h1 : n < 1
    · rw [if_neg (show ¬ (1 ≤ n ∧ n ≤ 4) by omega)]
      simp [h1, bnd, twoI]
    · by_cases h4 : 4 < n
      · rw [if_neg (show ¬ (1 ≤ n ∧ n ≤ 4) by omega)]
        simp [h1, h4, bnd, twoI]
      · have e1 : decide (n < 1) = false := by simpa using h1
        have e4 : decide (4 < n) = false := by simpa using h4
        rw [if_pos (show 1 ≤ n ∧ n ≤ 4 by omega)]
        simp only [e1, e4, Bool.not_true, if_true, Bool.false_eq_true, if_false, grdEq_self, bnd_some]
        rw [get_loop_ref n t hlen (by omega), bnd_some]
        rfl
theorem sized_eq (n : Int) : F_octet_sized n = some (decide (1 ≤ n ∧ n ≤ 4)) := by
  unfold F_octet_sized
  by_cases h : 1 ≤ n
  · simp [h]
  · simp [h]
theorem Take_eq {s : List UInt8} (hs : (s.length : Int) ≤ maxI) (a n : Int) : F_octet_Take s a n = some (two (takeS s a n)) := by
  unfold maxI at hs
  unfold F_octet_Take takeS
  by_cases h1 : a < 0
  · rw [if_neg (by simpa using h1), if_neg (by omega)]
  rw [if_pos (by simpa using h1)]
  by_cases h2 : n < 0
  · rw [if_neg (by simpa using h2), if_neg (by omega)]
  rw [if_pos (by simpa using h2)]
  by_cases h3 : (s.length : Int) < a
  · rw [if_neg (by simpa using h3), if_neg (by omega)]
  rw [if_pos (by simpa using h3), wrap_id (by omega) (by omega)]
  by_cases h4 : (s.length : Int) - a < n
  · rw [if_pos (by simpa using h4), if_neg (by omega)]
  rw [if_neg (by simpa using h4), natOf_pos (by omega), grd_pos (by omega), natOf_pos (by omega), grd_pos (by simp; omega), if_pos (by omega)]
theorem get_loop (n : Int) (t : List UInt8) (hn : (t.length : Int) = n) (h4 : n ≤ 4) : loopS (step_octet_Get_0 n t) (0, 0) = some (beN t) := by
  have hl : t.length ≤ 4 := by omega
  have key : ∀ (k : Nat) (i : Nat) (m : Int), t.length - i = k → i ≤ t.length → 0 ≤ m → m < 256 ^ i → loopS (step_octet_Get_0 n t) (m, (i : Int)) = some ((t.drop i).foldl (fun n b => 256 * n + (b.toNat : Int)) m) := by
    intro k
    induction k with
    | zero =>
      intro i m hk hi h0 h1
      have : t.drop i = [] := List.drop_eq_nil_of_le (by omega)
      rw [this]
      refine loopS_out ?_
      simp only [step_octet_Get_0]
      rw [if_neg (by simp; omega)]
      rfl
    | succ k ih =>
      intro i m hk hi h0 h1
      have hlt : i < t.length := by omega
      have hb := byte_lt t[i]
      have hb0 := byte_nn t[i]
      have hp : (256 : Int) ^ i ≤ 16777216 := by
        rcases (by omega : i = 0 ∨ i = 1 ∨ i = 2 ∨ i = 3) with rfl | rfl | rfl | rfl <;> decide
      rw [List.drop_eq_getElem_cons hlt, List.foldl_cons]
      rw [loopS_next (y := (256 * m + (t[i].toNat : Int), ((i + 1 : Nat) : Int)))]
      · refine ih (i + 1) _ (by omega) (by omega) (by omega) ?_
        rw [Int.pow_succ]
        omega
      · simp only [step_octet_Get_0]
        rw [if_pos (by simp; omega), natOf_nat, List.getElem?_eq_getElem hlt, bnd_some, grdEq_self, grdEq_self, wrap_byte, wrap_id (x := m * 256) (by omega) (by omega), i64_or_byte (by omega) (by omega) (by omega) (by omega), wrap_id (x := (i : Int) + 1) (by omega) (by omega), Int.mul_comm m 256]
        rfl
  have := key t.length 0 0 (by omega) (by omega) (by omega) (by simp)
  simpa [beN] using this
theorem Get_eq {s : List UInt8} (hs : (s.length : Int) ≤ maxI) (a n : Int) : F_octet_Get s a n = some (twoI (getS s a n)) := by
  unfold F_octet_Get getS
  rw [Take_eq hs, bnd_some]
  cases ht : takeS s a n with
  | none => simp [two, bnd, twoI]
  | some t =>
    have hlen := takeS_len ht
    simp only [two, sized_eq, bnd_some]
    by_cases h1 : 1 ≤ n ∧ n ≤ 4
    · simp only [h1, and_self, decide_true, Bool.not_true, if_true, Bool.false_eq_true, if_false, grdEq_self, bnd_some]
      rw [get_loop n t hlen (by omega), bnd_some]
      rfl
    · simp [h1, bnd, twoI]
end Go.Abs

namespace Go.Abs
open Go
theorem getS_bounds {s : List UInt8} {a n : Int} {k : Int} (h : getS s a n = some k) : 0 ≤ a ∧ a + n ≤ s.length ∧ 1 ≤ n ∧ n ≤ 4 := by
  unfold getS takeS at h
  split at h
  · split at h
    · omega
    · simp at h
  · simp at h
theorem takeS_bounds {s : List UInt8} {a n : Int} {t : List UInt8} (h : takeS s a n = some t) : 0 ≤ a ∧ a + n ≤ s.length ∧ 0 ≤ n := by
  unfold takeS at h
  split at h
  · omega
  · simp at h
theorem getS1 {s : List UInt8} {a k : Int} (h : getS s a 1 = some k) : 0 ≤ k ∧ k < 256 ∧ ∃ b, s[a.toNat]? = some b ∧ k = (b.toNat : Int) := by
  obtain ⟨h0, h1, _, _⟩ := getS_bounds h
  unfold getS takeS at h
  rw [if_pos (by omega), if_pos (by omega)] at h
  have hlt : a.toNat < s.length := by omega
  simp only [Option.map_some, Option.some.injEq] at h
  rw [List.drop_eq_getElem_cons hlt] at h
  have e : (1 : Int).toNat = 1 := rfl
  rw [e, List.take_succ_cons, List.take_zero] at h
  simp only [beN, List.foldl_cons, List.foldl_nil] at h
  have := byte_lt s[a.toNat]
  exact ⟨by omega, by omega, s[a.toNat], by simp [hlt], by omega⟩
theorem getS2 {s : List UInt8} {a k p : Int} (h : getS s a 1 = some k) (h2 : getS s a 2 = some p) : 256 * k ≤ p ∧ p < 256 * k + 256 := by
  obtain ⟨_, _, b, hb, rfl⟩ := getS1 h
  obtain ⟨h0, h1, _, _⟩ := getS_bounds h2
  unfold getS takeS at h2
  rw [if_pos (by omega), if_pos (by omega)] at h2
  have hlt : a.toNat < s.length := by omega
  have hlt2 : a.toNat + 1 < s.length := by omega
  simp only [Option.map_some, Option.some.injEq] at h2
  rw [List.drop_eq_getElem_cons hlt, List.drop_eq_getElem_cons hlt2] at h2
  have e : (2 : Int).toNat = 2 := rfl
  rw [e, List.take_succ_cons, List.take_succ_cons, List.take_zero] at h2
  simp only [beN, List.foldl_cons, List.foldl_nil] at h2
  have hbb : s[a.toNat] = b := by simpa [hlt] using hb
  rw [hbb] at h2
  have := byte_lt s[a.toNat + 1]
  have := byte_nn s[a.toNat + 1]
  omega
def readW (msg : List UInt8) (at_ least next : Int) (out : List UInt8) : List UInt8 × Int × Int :=
  match getS msg at_ 1 with
  | none => ([], 0, 2)
  | some k =>
    if k = 0 then (out ++ [0], (if next < 0 then at_ + 1 else next), 0)
    else if 192 ≤ k then
      match getS msg at_ 2 with
      | none => ([], 0, 2)
      | some p => if h : 0 ≤ p - 49152 ∧ p - 49152 < least then readW msg (p - 49152) (p - 49152) (if next < 0 then at_ + 2 else next) out else ([], 0, 3)
    else if 63 < k then ([], 0, 3)
    else match takeS msg at_ (k + 1) with
      | none => ([], 0, 2)
      | some l => if h : out.length + l.length < 255 ∧ 0 < l.length then readW msg (at_ + l.length) least next (out ++ l) else ([], 0, 3)
termination_by (least.toNat, 255 - out.length)
decreasing_by
  · apply Prod.Lex.left; omega
  · apply Prod.Lex.right; simp; omega
def readS (msg : List UInt8) (at_ : Int) : List UInt8 × Int × Int := readW msg at_ at_ (-1) []
theorem ref_bad (e : Int) : F_ref04_bad e = some ([], (0, e)) := rfl
theorem ref_read {msg : List UInt8} (hs : (msg.length : Int) ≤ maxI) (at_ least next : Int) (out : List UInt8) (ho : out.length < 255) :
    loopS (step_ref04_Read_0 msg) (at_, (out, (next, least))) = some (readW msg at_ least next out) := by
  have hm : maxI = 9223372036854775807 := rfl
  fun_induction readW msg at_ least next out with
  | case1 at_ least next out h1 =>
    refine loopS_out ?_
    simp only [step_ref04_Read_0, ref01_Get_eq hs, bnd_some, h1, twoI, ref_bad]
    rfl
  | case2 at_ least next out h1 =>
    obtain ⟨b0, b1, _, _⟩ := getS_bounds h1
    refine loopS_out ?_
    simp only [step_ref04_Read_0, ref01_Get_eq hs, bnd_some, h1, twoI, ref_bad, wrap_id (x := at_ + 1) (by omega) (by omega), grd_pos (c := out.length + 1 ≤ maxStr) (by unfold maxStr; omega)]
    by_cases hn : next < 0 <;> simp [hn]
  | case3 at_ least next out k h1 h2 h3 h4 =>
    refine loopS_out ?_
    simp only [step_ref04_Read_0, ref01_Get_eq hs, bnd_some, h1, h4, twoI, ref_bad]
    simp [h2, h3]
  | case4 at_ least next out k h1 h2 h3 p h4 h5 ih =>
    obtain ⟨b0, b1, _, _⟩ := getS_bounds h4
    have hp := getS2 h1 h4
    have hk := getS1 h1
    rw [loopS_next (y := (p - 49152, (out, ((if next < 0 then at_ + 2 else next), p - 49152))))]
    · exact ih ho
    · simp only [step_ref04_Read_0, ref01_Get_eq hs, bnd_some, h1, h4, twoI, ref_bad, wrap_id (x := p - 49152) (by omega) (by omega), wrap_id (x := at_ + 2) (by omega) (by omega), grdEq_self]
      have h6 : ¬ least ≤ p - 49152 := by omega
      by_cases hn : next < 0 <;> simp [h2, h3, h6, hn]
  | case5 at_ least next out k h1 h2 h3 p h4 h5 =>
    have hp := getS2 h1 h4
    have hk := getS1 h1
    refine loopS_out ?_
    simp only [step_ref04_Read_0, ref01_Get_eq hs, bnd_some, h1, h4, twoI, ref_bad, wrap_id (x := p - 49152) (by omega) (by omega)]
    have h6 : least ≤ p - 49152 := by omega
    simp [h2, h3, h6]
  | case6 at_ least next out k h1 h2 h3 h4 =>
    refine loopS_out ?_
    simp only [step_ref04_Read_0, ref01_Get_eq hs, bnd_some, h1, twoI, ref_bad]
    simp [h2, h3, h4]
  | case7 at_ least next out k h1 h2 h3 h4 h5 =>
    have hk := getS1 h1
    refine loopS_out ?_
    simp only [step_ref04_Read_0, ref01_Get_eq hs, ref01_Take_eq hs, bnd_some, h1, h5, twoI, two, ref_bad, wrap_id (x := k + 1) (by omega) (by omega)]
    simp [h2, h3, h4]
  | case8 at_ least next out k h1 h2 h3 h4 l h5 h6 ih =>
    have hk := getS1 h1
    have hl := takeS_len h5
    have hb := takeS_bounds h5
    rw [loopS_next (y := (at_ + l.length, (out ++ l, (next, least))))]
    · exact ih (by simp; omega)
    · simp only [step_ref04_Read_0, ref01_Get_eq hs, ref01_Take_eq hs, bnd_some, h1, h5, twoI, two, ref_bad, wrap_id (x := k + 1) (by omega) (by omega), grdEq_self,
        grd_pos (c := out.length + l.length ≤ maxStr) (by unfold maxStr; omega), wrap_id (x := at_ + k) (by omega) (by omega), wrap_id (x := at_ + k + 1) (by omega) (by omega), List.length_append]
      rw [wrap_id (x := ((out.length + l.length : Nat) : Int) + 1) (by omega) (by omega)]
      have h7 : ¬ 255 < (((out.length + l.length : Nat) : Int) + 1) := by omega
      have h8 : at_ + k + 1 = at_ + l.length := by omega
      rw [h8]
      simp only [h7, h2, h3, h4]
      simp [h2, h3, h4]
  | case9 at_ least next out k h1 h2 h3 h4 l h5 h6 =>
    have hk := getS1 h1
    have hl := takeS_len h5
    have hb := takeS_bounds h5
    refine loopS_out ?_
    simp only [step_ref04_Read_0, ref01_Get_eq hs, ref01_Take_eq hs, bnd_some, h1, h5, twoI, two, ref_bad, wrap_id (x := k + 1) (by omega) (by omega), grdEq_self,
        grd_pos (c := out.length + l.length ≤ maxStr) (by unfold maxStr; omega), List.length_append]
    rw [wrap_id (x := ((out.length + l.length : Nat) : Int) + 1) (by omega) (by omega)]
    have h7 : 255 < (((out.length + l.length : Nat) : Int) + 1) := by omega
    simp only [h7, h2, h3, h4]
    simp [h2, h3, h4]
theorem ref04_Read_eq {msg : List UInt8} (hs : (msg.length : Int) ≤ maxI) (a : Int) : F_ref04_Read msg a = some (readS msg a) := by
  unfold F_ref04_Read
  rw [ref_read hs _ _ _ _ (by simp), bnd_some]
  rfl
def finR (o : (Int × (Int × (Int × (Int × List Int)))) ⊕ (List UInt8 × (Int × (Int × (Int × (Int × (Int × List Int))))))) : List UInt8 × Int × Int :=
  match o with
  | .inl x => ([], 0, x.1)
  | .inr x => (x.1, x.2.1, x.2.2.1)
def ints (l : List UInt8) : List Int := l.map fun b => (b.toNat : Int)
theorem ints_len (l : List UInt8) : (ints l).length = l.length := by simp [ints]
theorem comp_err (msg : List UInt8) (e : Int) (he : e ≠ 0) (x : Int × Int × Int × List Int) : ∃ o, loopS (step_comp_Read_0 msg) (e, x) = some o ∧ finR o = ([], 0, e) := by
  refine ⟨.inl (e, x), loopS_out ?_, rfl⟩
  obtain ⟨a, b, c, d⟩ := x
  simp only [step_comp_Read_0, grdEq_self]
  simp [he]
theorem bytes_ok (l : List UInt8) : ∀ (n : (Ty.int IntKind.u8).den), n ∈ ints l → 0 ≤ n ∧ n < 256 := by
  intro n hn
  obtain ⟨b, _, rfl⟩ := List.mem_map.1 hn
  exact ⟨byte_nn b, byte_lt b⟩
theorem comp_read {msg : List UInt8} (hs : (msg.length : Int) ≤ maxI) (at_ least next : Int) (out : List UInt8) (ho : out.length < 255) (hn : next = -1 ∨ 0 ≤ next) :
    ∃ o, loopS (step_comp_Read_0 msg) (0, (at_, (least, (next, ints out)))) = some o ∧ finR o = readW msg at_ least next out := by
  have hm : maxI = 9223372036854775807 := rfl
  have hb := bytes_back out
  have hg := bytes_ok out
  have hil := ints_len out
  fun_induction readW msg at_ least next out with
  | case1 at_ least next out h1 =>
    refine ⟨.inl (2, at_, least, next, ints out), loopS_out ?_, rfl⟩
    simp only [step_comp_Read_0, Get_eq hs, bnd_some, h1, twoI, grdEq_self]
    rfl
  | case2 at_ least next out h1 =>
    obtain ⟨b0, b1, _, _⟩ := getS_bounds h1
    have hx : (if next < 0 then at_ + 1 else next) = if next = -1 then at_ + 1 else next := by
      by_cases h : next = -1
      · simp [h]
      · have : ¬ next < 0 := by omega
        simp [h, this]
    refine ⟨.inr (out ++ [0], (if next = -1 then at_ + 1 else next), 0, at_, least, (if next = -1 then at_ + 1 else next), ints out), loopS_out ?_, by simp only [finR, hx]⟩
    simp only [step_comp_Read_0, Get_eq hs, bnd_some, h1, twoI, grdEq_self, wrap_id (x := at_ + 1) (by omega) (by omega)]
    have g1 : (ints out).length ≤ 9223372036854775807 := by omega
    have g2 : out.length + 1 ≤ maxStr := by unfold maxStr; omega
    have hb' : List.map (fun n : Int => UInt8.ofNat n.toNat) (ints out) = out := hb
    by_cases h : next = -1
    · subst h
      simp only [bnd_some, grd_pos g1, grd_pos hg, grd_pos g2, hb', Bool.not_true, Bool.false_eq_true, if_false, beq_self_eq_true, if_true]
    · have h' : (next == -1) = false := by simpa using h
      simp only [h', bnd_some, grd_pos g1, grd_pos hg, grd_pos g2, hb', Bool.not_true, Bool.false_eq_true, if_false, beq_self_eq_true, if_true, h]
  | case3 at_ least next out k h1 h2 h3 h4 =>
    obtain ⟨o, e1, e2⟩ := comp_err msg 2 (by decide) (at_, least, next, ints out)
    refine ⟨o, ?_, e2⟩
    rw [loopS_next (y := (2, (at_, least, next, ints out)))]
    · exact e1
    · have h2' : (k == 0) = false := by simpa using h2
      simp only [step_comp_Read_0, Get_eq hs, bnd_some, h1, h4, twoI, grdEq_self, h2', h3, Bool.not_true, Bool.false_eq_true, if_false, beq_self_eq_true, if_true, decide_true, Bool.not_false]
  | case4 at_ least next out k h1 h2 h3 p h4 h5 ih =>
    obtain ⟨b0, b1, _, _⟩ := getS_bounds h4
    have hp := getS2 h1 h4
    have hk := getS1 h1
    have hx : (if h : next < 0 then at_ + 2 else next) = if next = -1 then at_ + 2 else next := by
      by_cases h : next = -1
      · simp [h]
      · have : ¬ next < 0 := by omega
        simp [h, this]
    rw [hx] at ih
    obtain ⟨o, e1, e2⟩ := ih ho (by split <;> omega) hb hg hil
    refine ⟨o, ?_, ?_⟩
    · rw [loopS_next (y := (0, (p - 49152, (p - 49152, ((if next = -1 then at_ + 2 else next), ints out)))))]
      · exact e1
      · have h2' : (k == 0) = false := by simpa using h2
        have h6 : ¬ least ≤ p - 49152 := by omega
        simp only [step_comp_Read_0, Get_eq hs, bnd_some, h1, h4, twoI, grdEq_self, h2', h3, Bool.not_true, Bool.false_eq_true, if_false, beq_self_eq_true, if_true, decide_true, Bool.not_false,
          wrap_id (x := p - 49152) (by omega) (by omega), wrap_id (x := at_ + 2) (by omega) (by omega), h6, decide_false]
        by_cases h : next = -1
        · subst h
          simp only [beq_self_eq_true, if_true, bnd_some]
        · have h' : (next == -1) = false := by simpa using h
          simp only [h', h, Bool.false_eq_true, if_false, bnd_some]
    · rw [e2]
      have hx2 : (if next < 0 then at_ + 2 else next) = if next = -1 then at_ + 2 else next := by simpa using hx
      rw [hx2]
  | case5 at_ least next out k h1 h2 h3 p h4 h5 =>
    have hp := getS2 h1 h4
    have hk := getS1 h1
    obtain ⟨o, e1, e2⟩ := comp_err msg 3 (by decide) (at_, least, next, ints out)
    refine ⟨o, ?_, e2⟩
    rw [loopS_next (y := (3, (at_, least, next, ints out)))]
    · exact e1
    · have h2' : (k == 0) = false := by simpa using h2
      have h6 : least ≤ p - 49152 := by omega
      simp only [step_comp_Read_0, Get_eq hs, bnd_some, h1, h4, twoI, grdEq_self, h2', h3, Bool.not_true, Bool.false_eq_true, if_false, beq_self_eq_true, if_true, decide_true, Bool.not_false,
          wrap_id (x := p - 49152) (by omega) (by omega), h6]
  | case6 at_ least next out k h1 h2 h3 h4 =>
    obtain ⟨o, e1, e2⟩ := comp_err msg 3 (by decide) (at_, least, next, ints out)
    refine ⟨o, ?_, e2⟩
    rw [loopS_next (y := (3, (at_, least, next, ints out)))]
    · exact e1
    · have h2' : (k == 0) = false := by simpa using h2
      simp only [step_comp_Read_0, Get_eq hs, bnd_some, h1, twoI, grdEq_self, h2', h3, h4, Bool.not_true, Bool.false_eq_true, if_false, beq_self_eq_true, if_true, decide_true, decide_false, Bool.not_false]
  | case7 at_ least next out k h1 h2 h3 h4 h5 =>
    have hk := getS1 h1
    obtain ⟨o, e1, e2⟩ := comp_err msg 2 (by decide) (at_, least, next, ints out)
    refine ⟨o, ?_, e2⟩
    rw [loopS_next (y := (2, (at_, least, next, ints out)))]
    · exact e1
    · have h2' : (k == 0) = false := by simpa using h2
      simp only [step_comp_Read_0, Get_eq hs, Take_eq hs, bnd_some, h1, twoI, two, grdEq_self, h2', h3, h4, Bool.not_true, Bool.false_eq_true, if_false, beq_self_eq_true, if_true, decide_true, decide_false, Bool.not_false,
        wrap_id (x := 1 + k) (by omega) (by omega), Int.add_comm 1 k, h5, wrap_id (x := k + 1) (by omega) (by omega)]
  | case8 at_ least next out k h1 h2 h3 h4 l h5 h6 ih =>
    have hk := getS1 h1
    have hl := takeS_len h5
    have hb2 := takeS_bounds h5
    have hap : ints out ++ List.map (fun b : UInt8 => (b.toNat : Int)) l = ints (out ++ l) := by simp [ints]
    obtain ⟨o, e1, e2⟩ := ih (by simp; omega) hn (bytes_back _) (bytes_ok _) (ints_len _)
    refine ⟨o, ?_, e2⟩
    rw [loopS_next (y := (0, (at_ + l.length, (least, (next, ints (out ++ l))))))]
    · exact e1
    · have h2' : (k == 0) = false := by simpa using h2
      have h7 : ¬ 255 ≤ ((ints out).length : Int) + (l.length : Int) := by omega
      have g3 : ((ints out).length + (List.map (fun b : UInt8 => (b.toNat : Int)) l).length) * 1 ≤ roomLim := by unfold roomLim; rw [List.length_map]; omega
      simp only [step_comp_Read_0, Get_eq hs, Take_eq hs, bnd_some, h1, twoI, two, grdEq_self, h2', h3, h4, Bool.not_true, Bool.false_eq_true, if_false, beq_self_eq_true, if_true, decide_true, decide_false, Bool.not_false,
        Int.add_comm 1 k, h5, wrap_id (x := k + 1) (by omega) (by omega), wrap_id (x := ((ints out).length : Int) + (l.length : Int)) (by omega) (by omega), h7, grd_pos g3,
        wrap_id (x := at_ + (l.length : Int)) (by omega) (by omega), hap]
  | case9 at_ least next out k h1 h2 h3 h4 l h5 h6 =>
    have hk := getS1 h1
    have hl := takeS_len h5
    obtain ⟨o, e1, e2⟩ := comp_err msg 3 (by decide) (at_, least, next, ints out)
    refine ⟨o, ?_, e2⟩
    have hb2 := takeS_bounds h5
    rw [loopS_next (y := (3, (at_, least, next, ints out)))]
    · exact e1
    · have h2' : (k == 0) = false := by simpa using h2
      have h7 : 255 ≤ ((ints out).length : Int) + (l.length : Int) := by omega
      simp only [step_comp_Read_0, Get_eq hs, Take_eq hs, bnd_some, h1, twoI, two, grdEq_self, h2', h3, h4, Bool.not_true, Bool.false_eq_true, if_false, beq_self_eq_true, if_true, decide_true, decide_false, Bool.not_false,
        Int.add_comm 1 k, h5, wrap_id (x := k + 1) (by omega) (by omega), wrap_id (x := ((ints out).length : Int) + (l.length : Int)) (by omega) (by omega), h7]
theorem comp_Read_eq {msg : List UInt8} (hs : (msg.length : Int) ≤ maxI) (a : Int) : F_comp_Read msg a = some (readS msg a) := by
  obtain ⟨o, h1, h2⟩ := comp_read hs a a (-1) [] (by simp) (.inl rfl)
  unfold F_comp_Read
  simp only [ints, List.map_nil] at h1
  rw [h1, bnd_some]
  unfold readS
  rw [← h2]
  cases o with
  | inl x => obtain ⟨a, b, c, d, e⟩ := x; rfl
  | inr x => obtain ⟨a, b, c, d, e, f, g⟩ := x; rfl
theorem readW_ends {msg : List UInt8} (at_ least next : Int) (out : List UInt8) (ho : out.length < 255) :
    (readW msg at_ least next out).1.length ≤ 255 ∧ ((readW msg at_ least next out).2.2 = 0 →
      (0 ≤ next → (readW msg at_ least next out).2.1 = next) ∧ (next < 0 → 0 ≤ at_ ∧ at_ < (readW msg at_ least next out).2.1 ∧ (readW msg at_ least next out).2.1 ≤ msg.length)) ∧
    ((readW msg at_ least next out).2.2 ≠ 0 → (readW msg at_ least next out).1 = [] ∧ (readW msg at_ least next out).2.1 = 0) := by
  fun_induction readW msg at_ least next out with
  | case1 at_ least next out h1 => simp
  | case2 at_ least next out h1 =>
    obtain ⟨b0, b1, _, _⟩ := getS_bounds h1
    refine ⟨by simp; omega, fun _ => ⟨fun h => by simp; omega, fun h => ?_⟩, fun h => absurd rfl h⟩
    simp only [h, if_true]
    omega
  | case3 => simp
  | case4 at_ least next out k h1 h2 h3 p h4 h5 ih =>
    obtain ⟨b0, b1, _, _⟩ := getS_bounds h4
    obtain ⟨i1, i2, i3⟩ := ih ho
    refine ⟨i1, fun h => ⟨fun hn => ?_, fun hn => ?_⟩, i3⟩
    · obtain ⟨j1, _⟩ := i2 h
      have hx : ¬ next < 0 := by omega
      simp only [hx, if_false, dite_eq_ite] at j1 ⊢
      exact j1 hn
    · obtain ⟨j1, _⟩ := i2 h
      simp only [hn, if_true, dite_eq_ite] at j1 ⊢
      have := j1 (by omega)
      omega
  | case5 => simp
  | case6 => simp
  | case7 => simp
  | case8 at_ least next out k h1 h2 h3 h4 l h5 h6 ih =>
    obtain ⟨i1, i2, i3⟩ := ih (by simp; omega)
    have hb := takeS_bounds h5
    refine ⟨i1, fun h => ⟨fun hn => (i2 h).1 hn, fun hn => ?_⟩, i3⟩
    have := (i2 h).2 hn
    omega
  | case9 => simp
theorem readS_ends (msg : List UInt8) (a : Int) : (readS msg a).1.length ≤ 255 ∧ ((readS msg a).2.2 = 0 → 0 ≤ a ∧ a < (readS msg a).2.1 ∧ (readS msg a).2.1 ≤ msg.length) ∧
    ((readS msg a).2.2 ≠ 0 → (readS msg a).1 = [] ∧ (readS msg a).2.1 = 0) := by
  obtain ⟨h1, h2, h3⟩ := readW_ends (msg := msg) a a (-1) [] (by simp)
  exact ⟨h1, fun h => (h2 h).2 (by decide), h3⟩
end Go.Abs

namespace Go.Abs
open Go
def textsW : List UInt8 → Bool
  | [] => true
  | b :: r => if b.toNat ≤ r.length then textsW (r.drop b.toNat) else false
termination_by l => l.length
decreasing_by simp; omega
def textsS (d : List UInt8) : Bool := d != [] && textsW d
theorem data_texts_loop (d : List UInt8) (hs : (d.length : Int) ≤ maxI) : loopS step_data_texts_0 d = some (if textsW d then .inr () else .inl false) := by
  have hm : maxI = 9223372036854775807 := rfl
  fun_induction textsW d with
  | case1 => exact loopS_out rfl
  | case2 b r h ih =>
    have hb := byte_lt b
    simp only [List.length_cons] at hs
    rw [loopS_next (y := r.drop b.toNat)]
    · exact ih (by simp; omega)
    · have h1 : ¬ ((b :: r).length : Int) < 1 + (b.toNat : Int) := by simp only [List.length_cons]; omega
      have e1 : (!(b :: r) == []) = true := rfl
      have e2 : (b :: r)[0]? = some b := rfl
      simp only [step_data_texts_0, e1, e2, if_true, bnd_some, wrap_byte, wrap_id (x := 1 + (b.toNat : Int)) (by omega) (by omega), h1, decide_false, Bool.false_eq_true, if_false]
      rw [natOf_pos (by omega), grd_pos (by simp; omega)]
      have e3 : (1 + (b.toNat : Int)).toNat = b.toNat + 1 := by omega
      rw [e3]
      rfl
  | case3 b r h =>
    have hb := byte_lt b
    simp only [List.length_cons] at hs
    refine loopS_out ?_
    have h1 : ((b :: r).length : Int) < 1 + (b.toNat : Int) := by simp only [List.length_cons]; omega
    have e1 : (!(b :: r) == []) = true := rfl
    have e2 : (b :: r)[0]? = some b := rfl
    simp only [step_data_texts_0, e1, e2, if_true, bnd_some, wrap_byte, wrap_id (x := 1 + (b.toNat : Int)) (by omega) (by omega), h1, decide_true, if_true]
    rfl
theorem data_texts_eq {d : List UInt8} (hs : (d.length : Int) ≤ maxI) : F_data_texts d = some (textsS d) := by
  unfold F_data_texts textsS
  cases d with
  | nil => rfl
  | cons b r =>
    have e1 : ((b :: r) == []) = false := rfl
    have e2 : ((b :: r) != []) = true := rfl
    rw [data_texts_loop _ hs, e1, e2]
    cases textsW (b :: r) <;> rfl
theorem ref_texts_loop (d : List UInt8) (hs : (d.length : Int) ≤ 9223372036854775000) : ∀ (k : Nat) (i : Nat), d.length - i ≤ k → i ≤ d.length → ∃ j : Int, loopS (step_ref05_texts_0 d) (i : Int) = some j ∧ (j = d.length ↔ textsW (d.drop i) = true) ∧ (i : Int) ≤ j ∧ (i < d.length → (i : Int) < j) := by
  intro k
  induction k with
  | zero =>
    intro i hk hi
    have : d.drop i = [] := List.drop_eq_nil_of_le (by omega)
    rw [this]
    refine ⟨i, loopS_out ?_, ?_, by omega, by omega⟩
    · simp only [step_ref05_texts_0]
      rw [if_neg (by simp; omega), grdEq_self]
    · simp [textsW]; omega
  | succ k ih =>
    intro i hk hi
    by_cases hlt : i < d.length
    · have hb := byte_lt d[i]
      have hb0 := byte_nn d[i]
      have hst : step_ref05_texts_0 d (i : Int) = some (.inl ((i + 1 + d[i].toNat : Nat) : Int)) := by
        simp only [step_ref05_texts_0]
        rw [if_pos (by simp; omega), natOf_nat, List.getElem?_eq_getElem hlt, bnd_some, grdEq_self, wrap_byte, wrap_id (x := (i : Int) + 1) (by omega) (by omega), wrap_id (by omega) (by omega)]
        congr 2
      rw [loopS_next hst]
      have hcons : d.drop i = d[i] :: d.drop (i + 1) := List.drop_eq_getElem_cons hlt
      by_cases hle : i + 1 + d[i].toNat ≤ d.length
      · obtain ⟨j, h1, h2, h3, h4⟩ := ih (i + 1 + d[i].toNat) (by omega) hle
        refine ⟨j, h1, ?_, by omega, by omega⟩
        rw [h2, hcons]
        have : textsW (d[i] :: d.drop (i + 1)) = textsW (d.drop (i + 1 + d[i].toNat)) := by
          rw [textsW, if_pos (by simp; omega), List.drop_drop]
        rw [this]
      · refine ⟨((i + 1 + d[i].toNat : Nat) : Int), loopS_out ?_, ?_, by omega, by omega⟩
        · simp only [step_ref05_texts_0]
          rw [if_neg (by simp; omega), grdEq_self]
        · rw [hcons, textsW, if_neg (by simp; omega)]
          simp
          omega
    · have : d.drop i = [] := List.drop_eq_nil_of_le (by omega)
      rw [this]
      refine ⟨i, loopS_out ?_, ?_, by omega, by omega⟩
      · simp only [step_ref05_texts_0]
        rw [if_neg (by simp; omega), grdEq_self]
      · simp [textsW]; omega
theorem ref05_texts_eq {d : List UInt8} (hs : (d.length : Int) ≤ 9223372036854775000) : F_ref05_texts d = some (textsS d) := by
  unfold F_ref05_texts textsS
  obtain ⟨j, h1, h2, h3, h4⟩ := ref_texts_loop d hs d.length 0 (by omega) (by omega)
  have h1' : loopS (step_ref05_texts_0 d) 0 = some j := h1
  rw [h1', bnd_some]
  rw [List.drop_zero] at h2
  cases d with
  | nil =>
    simp only [List.length_nil] at h2
    have hj : j = 0 := by have := h2.2 (by simp [textsW]); omega
    subst hj
    rfl
  | cons b r =>
    have e2 : ((b :: r) != []) = true := rfl
    have := h4 (by simp)
    by_cases hj : j = ((b :: r).length : Int)
    · have ht := h2.1 hj
      rw [e2, ht, if_pos (by simp [hj])]
      simp
      omega
    · have ht : textsW (b :: r) = false := by
        cases h : textsW (b :: r) with
        | false => rfl
        | true => exact absurd (h2.2 h) hj
      rw [e2, ht, if_neg (by simp only [beq_iff_eq]; exact hj)]
      rfl
def namesW (msg : List UInt8) : Nat → Int → Option (List (List UInt8) × Int)
  | 0, i => some ([], i)
  | n + 1, i => if (readS msg i).2.2 = 0 then (namesW msg n (readS msg i).2.1).map fun p => ((readS msg i).1 :: p.1, p.2) else none
theorem namesW_ends {msg : List UInt8} : ∀ {n : Nat} {i : Int} {l : List (List UInt8)} {j : Int}, namesW msg n i = some (l, j) → i ≤ j ∧ (n ≠ 0 → 0 ≤ i ∧ j ≤ msg.length) ∧ l.length = n ∧ l.flatten.length ≤ 255 * n
  | 0, i, l, j, h => by simp only [namesW, Option.some.injEq, Prod.mk.injEq] at h; obtain ⟨rfl, rfl⟩ := h; simp
  | n + 1, i, l, j, h => by
    unfold namesW at h
    split at h
    · rename_i h0
      obtain ⟨e1, e2, _⟩ := readS_ends msg i
      have e2 := e2 h0
      cases hr : namesW msg n (readS msg i).2.1 with
      | none => rw [hr] at h; simp at h
      | some p =>
        obtain ⟨l', j'⟩ := p
        rw [hr] at h
        simp only [Option.map_some, Option.some.injEq, Prod.mk.injEq] at h
        obtain ⟨rfl, rfl⟩ := h
        obtain ⟨g1, g2, g3, g4⟩ := namesW_ends hr
        refine ⟨by omega, fun _ => ⟨e2.1, ?_⟩, by simp [g3], ?_⟩
        · cases n with
          | zero => simp only [namesW, Option.some.injEq, Prod.mk.injEq] at hr; omega
          | succ n => exact (g2 (by omega)).2
        · simp only [List.flatten_cons, List.length_append]; omega
    · simp at h
theorem ref_names {msg : List UInt8} (hs : (msg.length : Int) ≤ maxI) (a z : Int) (v : Int × Int × Int) : ∀ (n : Nat) (out : List UInt8) (i k : Int), k + n = v.2.1 → 0 ≤ k → v.2.1 ≤ 100 → out.length + 255 * n ≤ maxStr →
    loopS (step_ref05_Expand_0 msg a z v) (out, (i, k)) = some (match namesW msg n i with | some p => .inr (out ++ p.1.flatten, p.2) | none => .inl ([], 4)) := by
  intro n
  induction n with
  | zero =>
    intro out i k hk h0 hv ho
    refine loopS_out ?_
    have : ¬ k < v.2.1 := by omega
    simp only [step_ref05_Expand_0, this, decide_false, Bool.false_eq_true, if_false, grdEq_self, namesW]
    simp
  | succ n ih =>
    intro out i k hk h0 hv ho
    have hlt : k < v.2.1 := by omega
    obtain ⟨e1, e2, _⟩ := readS_ends msg i
    by_cases he : (readS msg i).2.2 = 0
    · rw [loopS_next (y := (out ++ (readS msg i).1, ((readS msg i).2.1, k + 1)))]
      · rw [ih (out ++ (readS msg i).1) _ (k + 1) (by omega) (by omega) hv (by simp only [List.length_append]; omega)]
        rw [namesW, if_pos he]
        cases namesW msg n (readS msg i).2.1 with
        | none => rfl
        | some p => simp
      · have hx : ((readS msg i).2.2 != 0) = false := by simp [he]
        simp only [step_ref05_Expand_0, hlt, decide_true, if_true, ref04_Read_eq hs, bnd_some, grdEq_self, hx, Bool.false_eq_true, if_false]
        rw [grd_pos (by omega), wrap_id (by omega) (by omega)]
    · refine loopS_out ?_
      have hx : ((readS msg i).2.2 != 0) = true := by simp [he]
      simp only [step_ref05_Expand_0, hlt, decide_true, if_true, ref04_Read_eq hs, bnd_some, grdEq_self, hx]
      rw [namesW, if_neg he]
theorem exp_names {msg : List UInt8} (hs : (msg.length : Int) ≤ maxI) (a size kind z : Int) (hz : IntKind.i64.wrap (a + size) = z) (n8 n9 : Nat) (m : List (Int × Int × Int × Int)) (v : Int × Int × Int) (hv0 : (shpF kind).getD (0, 0, 0) = v) : ∀ (n : Nat) (i k : Int) (l : List (List UInt8)), k + n = v.2.1 → 0 ≤ k → v.2.1 ≤ 100 → i ≤ z → l.length ≤ k →
    ∃ l', loopS (step_data_Expand_0 msg a size kind n8 n9) (i, (k, (m, l))) = some (match namesW msg n i with | some p => if p.2 ≤ z then .inl (p.2, (m, l ++ p.1)) else .inr (false, (m, l')) | none => .inr (false, (m, l'))) := by
  intro n
  induction n with
  | zero =>
    intro i k l hk h0 hv hi hl
    refine ⟨l, loopS_out ?_⟩
    have : ¬ k < v.2.1 := by omega
    simp only [step_data_Expand_0, hv0, this, decide_false, Bool.false_eq_true, if_false, grdEq_self, namesW, hi, if_true]
    simp
  | succ n ih =>
    intro i k l hk h0 hv hi hl
    have hlt : k < v.2.1 := by omega
    obtain ⟨e1, e2, _⟩ := readS_ends msg i
    by_cases he : (readS msg i).2.2 = 0
    · have hx : ((readS msg i).2.2 != 0) = false := by simp [he]
      by_cases hlz : z < (readS msg i).2.1
      · refine ⟨l, loopS_out ?_⟩
        simp only [step_data_Expand_0, hv0, hz, hlt, decide_true, if_true, comp_Read_eq hs, bnd_some, grdEq_self, hx, hlz]
        rw [namesW, if_pos he]
        cases hr : namesW msg n (readS msg i).2.1 with
        | none => rfl
        | some p =>
          have := (namesW_ends hr).1
          have h3 : ¬ p.2 ≤ z := by omega
          simp only [Option.map_some, h3, if_false]
      · obtain ⟨l', h⟩ := ih (readS msg i).2.1 (k + 1) (l ++ [(readS msg i).1]) (by omega) (by omega) hv (by omega) (by simp; omega)
        refine ⟨l', ?_⟩
        rw [loopS_next (y := ((readS msg i).2.1, (k + 1, (m, l ++ [(readS msg i).1])))), h]
        · rw [namesW, if_pos he]
          cases namesW msg n (readS msg i).2.1 with
          | none => rfl
          | some p => simp
        · simp only [step_data_Expand_0, hv0, hz, hlt, decide_true, if_true, comp_Read_eq hs, bnd_some, grdEq_self, hx, hlz, decide_false, Bool.false_eq_true, if_false]
          rw [grd_pos (by unfold roomLim; simp; omega), wrap_id (by omega) (by omega)]
    · refine ⟨l, loopS_out ?_⟩
      have hx : ((readS msg i).2.2 != 0) = true := by simp [he]
      simp only [step_data_Expand_0, hv0, hlt, decide_true, if_true, comp_Read_eq hs, bnd_some, grdEq_self, hx]
      rw [namesW, if_neg he]
      rfl
end Go.Abs

namespace Go.Abs
open Go
def shapeS (kind : Int) : Int × Int × Int :=
  if kind = 2 ∨ kind = 5 ∨ kind = 12 then (0, 1, 0) else if kind = 6 then (0, 2, 20) else if kind = 15 then (2, 1, 0) else if kind = 33 then (6, 1, 0) else if kind = 1 then (4, 0, 0) else if kind = 28 then (16, 0, 0) else (0, 0, 0)
theorem shapeS_ok (kind : Int) : 0 ≤ (shapeS kind).1 ∧ (shapeS kind).1 ≤ 16 ∧ 0 ≤ (shapeS kind).2.1 ∧ (shapeS kind).2.1 ≤ 2 ∧ 0 ≤ (shapeS kind).2.2 ∧ (shapeS kind).2.2 ≤ 20 := by
  unfold shapeS
  repeat' split
  all_goals decide
theorem shape_eq (kind : Int) : F_ref05_shape kind = some (shapeS kind) := by
  unfold F_ref05_shape shapeS
  by_cases h2 : kind = 2
  · subst h2; rfl
  by_cases h5 : kind = 5
  · subst h5; rfl
  by_cases h12 : kind = 12
  · subst h12; rfl
  have e2 : (kind == 2) = false := by simpa using h2
  have e5 : (kind == 5) = false := by simpa using h5
  have e12 : (kind == 12) = false := by simpa using h12
  simp only [e2, e5, e12, grdEq_self, Bool.false_eq_true, if_false, bnd_some, h2, h5, h12, or_self]
  by_cases h6 : kind = 6
  · subst h6; rfl
  by_cases h15 : kind = 15
  · subst h15; rfl
  by_cases h33 : kind = 33
  · subst h33; rfl
  by_cases h1 : kind = 1
  · subst h1; rfl
  by_cases h28 : kind = 28
  · subst h28; rfl
  simp [h6, h15, h33, h1, h28]
def cut (msg : List UInt8) (i j : Int) : List UInt8 := List.drop i.toNat (List.take j.toNat msg)
def expS (msg : List UInt8) (a size kind : Int) : List UInt8 × Int :=
  match takeS msg a size with
  | none => ([], 2)
  | some d =>
    if shapeS kind = (0, 0, 0) then (if (kind = 16 ∧ textsS d = false) ∨ 65535 < d.length then ([], 4) else (d, 0))
    else if size < (shapeS kind).1 then ([], 4)
    else match namesW msg (shapeS kind).2.1.toNat (a + (shapeS kind).1) with
      | none => ([], 4)
      | some p => if p.2 + (shapeS kind).2.2 ≠ a + size then ([], 4)
        else if 65535 < (d.take (shapeS kind).1.toNat ++ p.1.flatten ++ cut msg p.2 (a + size)).length then ([], 4)
        else (d.take (shapeS kind).1.toNat ++ p.1.flatten ++ cut msg p.2 (a + size), 0)
theorem cut_len (msg : List UInt8) (i j : Int) : (cut msg i j).length ≤ msg.length := by
  unfold cut
  simp
  omega
theorem ref05_Expand_eq {msg : List UInt8} (hs : msg.length ≤ 1000000) (a size kind : Int) : F_ref05_Expand msg a size kind = some (expS msg a size kind) := by
  have hm : maxI = 9223372036854775807 := rfl
  have hs' : (msg.length : Int) ≤ maxI := by omega
  unfold F_ref05_Expand expS
  rw [ref01_Take_eq hs', bnd_some]
  cases ht : takeS msg a size with
  | none => rfl
  | some d =>
    have hd := takeS_len ht
    obtain ⟨t0, t1, t2⟩ := takeS_bounds ht
    obtain ⟨v0, v1, v2, v3, v4, v5⟩ := shapeS_ok kind
    simp only [two, Bool.not_true, Bool.false_eq_true, if_false, shape_eq, bnd_some]
    generalize hv : shapeS kind = v at *
    obtain ⟨x, y, z⟩ := v
    simp only at *
    by_cases hz : (x, y, z) = (0, 0, 0)
    · simp only [Prod.mk.injEq] at hz
      obtain ⟨rfl, rfl, rfl⟩ := hz
      simp only [beq_self_eq_true, Bool.and_self, if_true, ref05_texts_eq (d := d) (by omega), bnd_some]
      by_cases hk : kind = 16
      · cases htx : textsS d
        · simp [hk]
        · by_cases h9 : 65535 < d.length
          · simp [hk, h9, show (65535 : Int) < (d.length : Int) by omega]
          · simp [hk, h9, show ¬ (65535 : Int) < (d.length : Int) by omega]
      · by_cases h9 : 65535 < d.length
        · simp [hk, h9, show (65535 : Int) < (d.length : Int) by omega]
        · simp [hk, h9, show ¬ (65535 : Int) < (d.length : Int) by omega]
    · have hz' : (x == 0 && (y == 0 && (z == 0 && true))) = false := by
        cases h : (x == 0 && (y == 0 && (z == 0 && true))) with
        | false => rfl
        | true => simp at h; exact absurd (by simp [h]) hz
      simp only [hz', Bool.false_eq_true, if_false, hz]
      by_cases hx : size < x
      · simp [hx]
      · simp only [hx, decide_false, Bool.false_eq_true, if_false]
        rw [natOf_pos v0, grdp (by omega), wrap_id (x := a + x) (by omega) (by omega)]
        have hy : (0 : Int) + (y.toNat : Int) = y := by omega
        have hlen : (List.take x.toNat d).length ≤ msg.length := by simp; omega
        have := ref_names hs' a size (x, y, z) y.toNat (List.take x.toNat d) (a + x) 0 hy (by omega) (by simp only; omega) (by unfold maxStr; omega)
        rw [this, bnd_some]
        cases hn : namesW msg y.toNat (a + x) with
        | none => rfl
        | some p =>
          obtain ⟨l, j⟩ := p
          obtain ⟨n1, n2, n3, n4⟩ := namesW_ends hn
          have hj : j ≤ 2000000 := by
            by_cases h0 : y.toNat = 0
            · rw [h0] at hn
              simp only [namesW, Option.some.injEq, Prod.mk.injEq] at hn
              omega
            · have := (n2 h0).2; omega
          simp only
          rw [wrap_id (x := j + z) (by omega) (by omega), wrap_id (x := a + size) (by omega) (by omega)]
          by_cases he : j + z = a + size
          · have he' : (j + z != a + size) = false := by simp [he]
            have he2 : ¬ (j + z ≠ a + size) := by omega
            simp only [he', Bool.false_eq_true, if_false, he2]
            rw [natOf_pos (by omega), grdp (by omega), natOf_pos (by omega), grdp (by omega)]
            have hc := cut_len msg j (a + size)
            unfold cut at hc
            rw [grdp (by simp only [List.length_append] at *; unfold maxStr; omega)]
            unfold cut
            by_cases hf : 65535 < (List.take x.toNat d ++ l.flatten ++ List.drop j.toNat (List.take (a + size).toNat msg)).length
            · rw [if_pos hf, if_pos (by simpa using Int.ofNat_lt.2 hf)]
            · rw [if_neg hf, if_neg (by simp only [decide_eq_true_eq]; omega)]
          · have he' : (j + z != a + size) = true := by simp [he]
            simp only [he', if_true, ne_eq, he, not_false_eq_true]
end Go.Abs

namespace Go.Abs
open Go
theorem join_nil (l : List (List UInt8)) : Lib.join l [] = l.flatten := by
  unfold Lib.join
  induction l with
  | nil => rfl
  | cons a r ih =>
    cases r with
    | nil => simp [List.intercalate, List.intersperse]
    | cons b r =>
      simp only [List.intercalate, List.intersperse, List.flatten_cons] at ih ⊢
      simp [ih]
theorem whole_eq {p : List UInt8 × List UInt8 × List (List UInt8)} (h1 : p.2.2.length ≤ 1000) (h2 : p.1.length + p.2.2.flatten.length + p.2.1.length ≤ 100000000) : F_data_parts_whole p = some (p.1 ++ p.2.2.flatten ++ p.2.1) := by
  unfold F_data_parts_whole F_strings_Join
  rw [join_nil, if_pos ⟨by omega, by omega⟩, bnd_some, grdp (by unfold maxStr; omega), grdp (by unfold maxStr; simp only [List.length_append]; omega)]
theorem cut_len2 {msg : List UInt8} {i j : Int} (h0 : 0 ≤ i) (h1 : i ≤ j) (h2 : j ≤ msg.length) : ((cut msg i j).length : Int) = j - i := by
  unfold cut
  simp
  omega
theorem shapes_eq (kind : Int) : sfind tI tK kind [(1, (4, 0, 0)), (28, (16, 0, 0)), (2, (0, 1, 0)), (5, (0, 1, 0)), (12, (0, 1, 0)), (6, (0, 2, 20)), (15, (2, 1, 0)), (33, (6, 1, 0))] =
    if shapeS kind = (0, 0, 0) then none else some (shapeS kind) := by
  unfold shapeS
  simp only [sfind, Ty.beq]
  by_cases h1 : kind = 1
  · subst h1; rfl
  by_cases h28 : kind = 28
  · subst h28; rfl
  by_cases h2 : kind = 2
  · subst h2; rfl
  by_cases h5 : kind = 5
  · subst h5; rfl
  by_cases h12 : kind = 12
  · subst h12; rfl
  by_cases h6 : kind = 6
  · subst h6; rfl
  by_cases h15 : kind = 15
  · subst h15; rfl
  by_cases h33 : kind = 33
  · subst h33; rfl
  have e (m : Int) (h : ¬ kind = m) : (kind == m) = false := by simpa using h
  simp only [e _ h1, e _ h28, e _ h2, e _ h5, e _ h12, e _ h6, e _ h15, e _ h33, Bool.false_eq_true, if_false, h1, h28, h2, h5, h12, h6, h15, h33, or_self, if_true]
theorem shpF_eq (kind : Int) : shpF kind = if shapeS kind = (0, 0, 0) then none else some (shapeS kind) := shapes_eq kind
theorem shpF_some {kind : Int} (h : shapeS kind ≠ (0, 0, 0)) : shpF kind = some (shapeS kind) := by rw [shpF_eq, if_neg h]
end Go.Abs

namespace Go.Abs
open Go
theorem cut_take {msg d : List UInt8} {a size x : Int} (ht : takeS msg a size = some d) (hx : 0 ≤ x) (hx2 : x ≤ size) : cut msg a (a + x) = d.take x.toNat := by
  obtain ⟨t0, t1, t2⟩ := takeS_bounds ht
  unfold takeS at ht
  rw [if_pos (by omega)] at ht
  simp only [Option.some.injEq] at ht
  subst ht
  unfold cut
  rw [List.drop_take, List.take_take]
  congr 1
  omega
theorem data_Expand_eq {msg : List UInt8} (hs : msg.length ≤ 1000000) (a size kind : Int) : F_data_Expand msg a size kind = some (expS msg a size kind) := by
  have hm : maxI = 9223372036854775807 := rfl
  have hs' : (msg.length : Int) ≤ maxI := by omega
  unfold F_data_Expand expS
  rw [Take_eq hs', bnd_some]
  cases ht : takeS msg a size with
  | none => rfl
  | some d =>
    have hd := takeS_len ht
    obtain ⟨t0, t1, t2⟩ := takeS_bounds ht
    obtain ⟨v0, v1, v2, v3, v4, v5⟩ := shapeS_ok kind
    simp only [two, Bool.not_true, Bool.false_eq_true, if_false, bnd_some]
    have hfin : ∀ (e : List UInt8), e.length ≤ 100000000 → (if (kind == 16) = true then bnd (F_data_texts e) fun v12 => if (!v12) = false then (if decide (65535 < (e.length : Int)) = true then some (([] : List UInt8), (4 : Int)) else some (e, 0)) else some ([], 4)
        else if decide (65535 < (e.length : Int)) = true then some ([], 4) else some (e, 0)) = some (if (kind = 16 ∧ textsS e = false) ∨ 65535 < e.length then ([], 4) else (e, 0)) := by
      intro e he
      rw [data_texts_eq (d := e) (by omega), bnd_some]
      by_cases hk : kind = 16
      · cases htx : textsS e
        · simp [hk]
        · by_cases h9 : 65535 < e.length
          · simp [hk, h9, show (65535 : Int) < (e.length : Int) by omega]
          · simp [hk, h9, show ¬ (65535 : Int) < (e.length : Int) by omega]
      · by_cases h9 : 65535 < e.length
        · simp [hk, h9, show (65535 : Int) < (e.length : Int) by omega]
        · simp [hk, h9, show ¬ (65535 : Int) < (e.length : Int) by omega]
    by_cases hz : shapeS kind = (0, 0, 0)
    · have hq : shpF kind = none := by rw [shpF_eq, if_pos hz]
      simp only [hq, Option.isSome_none, Bool.false_eq_true, if_false, grdEq_self, bnd_some, hz, if_true, Bool.not_true]
      exact hfin d (by omega)
    · have hq := shpF_some hz
      have hk16 : kind ≠ 16 := by
        rintro rfl
        exact hz rfl
      simp only [hq, Option.isSome_some, if_true, Option.getD_some, hz, if_false, grdEq_self]
      have es : a + size - a = size := by omega
      rw [wrap_id (x := a + size) (by omega) (by omega), es, wrap_id (x := size) (by omega) (by omega)]
      generalize hv : shapeS kind = v at *
      obtain ⟨x, y, z⟩ := v
      simp only at *
      have e0 : F_data_parts_whole ([], [], []) = some [] := whole_eq (by simp) (by simp)
      by_cases hx : size < x
      · rw [if_pos hx, if_pos (by simp; omega)]
        simp only [e0, bnd_some, Bool.not_false, Bool.true_eq_false, if_false]
      · rw [if_neg hx, if_neg (by simp; omega), wrap_id (x := a + x) (by omega) (by omega), natOf_pos (by omega), grdp (by omega), natOf_pos (by omega), grdp (by omega)]
        obtain ⟨l', hl⟩ := exp_names hs' a size kind (a + size) (wrap_id (by omega) (by omega)) (a + x).toNat a.toNat (sputM tI tK 33 (6, 1, 0) (sputM tI tK 15 (2, 1, 0) (sputM tI tK 6 (0, 2, 20) (sputM tI tK 12 (0, 1, 0) (sputM tI tK 5 (0, 1, 0) (sputM tI tK 2 (0, 1, 0) (sputM tI tK 28 (16, 0, 0) (sputM tI tK 1 (4, 0, 0) [])))))))) (x, y, z) (by rw [hq]; rfl) y.toNat (a + x) 0 [] (by simp only; omega) (by omega) (by simp only; omega) (by omega) (by simp)
        rw [hl, bnd_some]
        cases hn : namesW msg y.toNat (a + x) with
        | none => simp only [e0, bnd_some, Bool.not_false, Bool.true_eq_false, if_false]
        | some p =>
          obtain ⟨l, j⟩ := p
          obtain ⟨n1, n2, n3, n4⟩ := namesW_ends hn
          simp only
          by_cases hj : j ≤ a + size
          · simp only [hj, if_true, List.nil_append]
            have hc := cut_len2 (msg := msg) (i := j) (j := a + size) (by omega) hj (by omega)
            have c1 := cut_len msg a (a + x)
            have c2 := cut_len msg j (a + size)
            rw [natOf_pos (by omega), grdp (by omega), natOf_pos (by omega), grdp (by omega)]
            have ew : F_data_parts_whole (List.drop a.toNat (List.take (a + x).toNat msg), List.drop j.toNat (List.take (a + size).toNat msg), l) = some (cut msg a (a + x) ++ l.flatten ++ cut msg j (a + size)) := whole_eq (by simp only; omega) (by simp only; unfold cut at c1 c2; omega)
            have el : ((List.drop j.toNat (List.take (a + size).toNat msg)).length : Int) = a + size - j := by unfold cut at hc; exact hc
            rw [ew, bnd_some, bnd_some, el, cut_take ht v0 (by omega)]
            by_cases he : j + z = a + size
            · have he3 : (a + size - j == z) = true := by simp; omega
              have he2 : ¬ (j + z ≠ a + size) := by omega
              simp only [he3, Bool.not_true, if_true, he2, if_false]
              have := hfin (List.take x.toNat d ++ l.flatten ++ cut msg j (a + size)) (by simp only [List.length_append, List.length_take]; omega)
              rw [this]
              simp [hk16]
            · have he3 : (a + size - j == z) = false := by simp; omega
              simp only [he3, Bool.not_false, Bool.true_eq_false, if_false, ne_eq, he, not_false_eq_true, if_true]
          · have he : ¬ j + z = a + size := by omega
            simp only [hj, if_false, e0, bnd_some, Bool.not_false, Bool.true_eq_false, ne_eq, he, not_false_eq_true, if_true]
end Go.Abs

namespace Go.Abs
open Go
theorem beN_bound (l : List UInt8) : ∀ n : Int, 0 ≤ n → 0 ≤ l.foldl (fun n b => 256 * n + (b.toNat : Int)) n ∧ l.foldl (fun n b => 256 * n + (b.toNat : Int)) n < (n + 1) * 256 ^ l.length := by
  induction l with
  | nil => intro n hn; simp; omega
  | cons b r ih =>
    intro n hn
    have hb := byte_lt b
    obtain ⟨h1, h2⟩ := ih (256 * n + (b.toNat : Int)) (by omega)
    refine ⟨h1, Int.lt_of_lt_of_le h2 ?_⟩
    rw [List.length_cons, Int.pow_succ, Int.mul_comm (256 ^ r.length) 256, ← Int.mul_assoc]
    exact Int.mul_le_mul_of_nonneg_right (by omega) (Int.pow_nonneg (by decide))
theorem getS_some {s : List UInt8} {a n : Int} (h0 : 0 ≤ a) (h1 : 1 ≤ n) (h2 : n ≤ 4) (h : a + n ≤ s.length) : ∃ k, getS s a n = some k ∧ 0 ≤ k ∧ k < 256 ^ n.toNat := by
  unfold getS takeS
  rw [if_pos ⟨h1, h2⟩, if_pos (by omega)]
  refine ⟨_, rfl, ?_⟩
  have := beN_bound (List.take n.toNat (List.drop a.toNat s)) 0 (by omega)
  have hl : (List.take n.toNat (List.drop a.toNat s)).length = n.toNat := by simp; omega
  rw [hl] at this
  unfold beN
  omega
theorem getS_none {s : List UInt8} {a n : Int} (h : ¬ a + n ≤ s.length) : getS s a n = none := by
  unfold getS takeS
  split
  · rw [if_neg (by omega)]; rfl
  · rfl
abbrev RRt := List UInt8 × Int × Int × Int × List UInt8
def rr0 : RRt := ([], 0, 0, 0, [])
def recS (msg : List UInt8) (a : Int) : RRt × Int × Int :=
  if (readS msg a).2.2 ≠ 0 then (rr0, 0, (readS msg a).2.2)
  else match getS msg (readS msg a).2.1 2, getS msg ((readS msg a).2.1 + 2) 2, getS msg ((readS msg a).2.1 + 4) 4, getS msg ((readS msg a).2.1 + 8) 2 with
    | some k, some c, some t, some n =>
      if (expS msg ((readS msg a).2.1 + 10) n k).2 ≠ 0 then (rr0, 0, (expS msg ((readS msg a).2.1 + 10) n k).2)
      else (((readS msg a).1, k, c, (if 2147483648 ≤ t then 0 else t), (expS msg ((readS msg a).2.1 + 10) n k).1), (readS msg a).2.1 + 10 + n, 0)
    | _, _, _, _ => (rr0, 0, 2)
theorem ref06_Decode_eq {msg : List UInt8} (hs : msg.length ≤ 1000000) (a : Int) : F_ref06_Decode msg a = some (recS msg a) := by
  have hm : maxI = 9223372036854775807 := rfl
  have hs' : (msg.length : Int) ≤ maxI := by omega
  unfold F_ref06_Decode recS
  rw [ref04_Read_eq hs', bnd_some]
  obtain ⟨e1, e2, e3⟩ := readS_ends msg a
  generalize readS msg a = r at *
  obtain ⟨nm, i, e⟩ := r
  simp only at *
  by_cases he : e = 0
  · subst he
    obtain ⟨b0, b1, b2⟩ := e2 rfl
    have hne : ((0 : Int) != 0) = false := rfl
    simp only [hne, Bool.false_eq_true, if_false, ne_eq, not_true_eq_false]
    rw [ref01_Take_eq hs', bnd_some]
    by_cases h10 : i + 10 ≤ msg.length
    · have ht : ∃ t, takeS msg i 10 = some t := by unfold takeS; rw [if_pos (by omega)]; exact ⟨_, rfl⟩
      obtain ⟨t, ht⟩ := ht
      obtain ⟨k, hk, k0, k1⟩ := getS_some (s := msg) (a := i) (n := 2) (by omega) (by omega) (by omega) (by omega)
      obtain ⟨c, hc, c0, c1⟩ := getS_some (s := msg) (a := i + 2) (n := 2) (by omega) (by omega) (by omega) (by omega)
      obtain ⟨u, hu, u0, u1⟩ := getS_some (s := msg) (a := i + 4) (n := 4) (by omega) (by omega) (by omega) (by omega)
      obtain ⟨n, hn, n0, n1⟩ := getS_some (s := msg) (a := i + 8) (n := 2) (by omega) (by omega) (by omega) (by omega)
      have p2 : (256 : Int) ^ (2 : Int).toNat = 65536 := by decide
      rw [p2] at n1
      simp only [ht, two, twoI, Bool.not_true, Bool.false_eq_true, if_false, wrap_id (x := i + 2) (by omega) (by omega), wrap_id (x := i + 4) (by omega) (by omega), wrap_id (x := i + 8) (by omega) (by omega), wrap_id (x := i + 10) (by omega) (by omega),
        ref01_Get_eq hs', bnd_some, hk, hc, hu, hn, grdEq_self, ref05_Expand_eq hs]
      by_cases hu2 : 2147483648 ≤ u
      · simp only [hu2, decide_true, if_true, bnd_some]
        by_cases hx : (expS msg (i + 10) n k).2 = 0
        · simp only [hx, hne, Bool.false_eq_true, if_false, not_true_eq_false, wrap_id (x := i + 10 + n) (by omega) (by omega)]
        · have hx' : ((expS msg (i + 10) n k).2 != 0) = true := by simp [hx]
          simp only [hx', hx, if_true, not_false_eq_true]
          rfl
      · simp only [hu2, decide_false, Bool.false_eq_true, if_false, bnd_some]
        by_cases hx : (expS msg (i + 10) n k).2 = 0
        · simp only [hx, hne, Bool.false_eq_true, if_false, not_true_eq_false, wrap_id (x := i + 10 + n) (by omega) (by omega)]
        · have hx' : ((expS msg (i + 10) n k).2 != 0) = true := by simp [hx]
          simp only [hx', hx, if_true, not_false_eq_true]
          rfl
    · have ht : takeS msg i 10 = none := by unfold takeS; rw [if_neg (by omega)]
      have hn : getS msg (i + 8) 2 = none := getS_none (by omega)
      simp only [ht, two, Bool.not_false, if_true, hn]
      cases getS msg i 2 <;> cases getS msg (i + 2) 2 <;> cases getS msg (i + 4) 4 <;> rfl
  · have hne : (e != 0) = true := by simp [he]
    simp only [hne, if_true, ne_eq, he, not_false_eq_true]
    rfl
theorem record_Decode_eq {msg : List UInt8} (hs : msg.length ≤ 1000000) (a : Int) : F_record_Decode msg a = some (recS msg a) := by
  have hm : maxI = 9223372036854775807 := rfl
  have hs' : (msg.length : Int) ≤ maxI := by omega
  unfold F_record_Decode recS
  rw [comp_Read_eq hs', bnd_some]
  obtain ⟨e1, e2, e3⟩ := readS_ends msg a
  generalize readS msg a = r at *
  obtain ⟨nm, i, e⟩ := r
  simp only at *
  by_cases he : e = 0
  · subst he
    obtain ⟨b0, b1, b2⟩ := e2 rfl
    have hne : ((0 : Int) != 0) = false := rfl
    have w2 : IntKind.i64.wrap (i + 2) = i + 2 := wrap_id (by omega) (by omega)
    have w4 : IntKind.i64.wrap (i + 2 + 2) = i + 4 := by rw [wrap_id (by omega) (by omega)]; omega
    have w8 : IntKind.i64.wrap (i + 4 + 4) = i + 8 := by rw [wrap_id (by omega) (by omega)]; omega
    have w10 : IntKind.i64.wrap (i + 8 + 2) = i + 10 := by rw [wrap_id (by omega) (by omega)]; omega
    simp only [hne, Bool.false_eq_true, if_false, ne_eq, not_true_eq_false, w2, w4, w8, w10, Get_eq hs', bnd_some, grdEq_self]
    cases hk : getS msg i 2 with
    | none => rfl
    | some k =>
      cases hc : getS msg (i + 2) 2 with
      | none => rfl
      | some c =>
        cases hu : getS msg (i + 4) 4 with
        | none => rfl
        | some u =>
          cases hn : getS msg (i + 8) 2 with
          | none => rfl
          | some n =>
            obtain ⟨b3, b4, _, _⟩ := getS_bounds hn
            obtain ⟨n', hn', n0, n1⟩ := getS_some (s := msg) (a := i + 8) (n := 2) (by omega) (by omega) (by omega) (by omega)
            rw [hn] at hn'
            cases hn'
            have p2 : (256 : Int) ^ (2 : Int).toNat = 65536 := by decide
            rw [p2] at n1
            simp only [twoI, Bool.not_true, if_true, Bool.false_eq_true, if_false, data_Expand_eq hs, bnd_some]
            by_cases hu2 : 2147483648 ≤ u
            · have hu3 : 2147483647 < u := by omega
              simp only [hu2, hu3, decide_true, if_true, bnd_some]
              by_cases hx : (expS msg (i + 10) n k).2 = 0
              · simp only [hx, hne, Bool.false_eq_true, if_false, not_true_eq_false, wrap_id (x := i + 10 + n) (by omega) (by omega)]
              · have hx' : ((expS msg (i + 10) n k).2 != 0) = true := by simp [hx]
                simp only [hx', hx, if_true, not_false_eq_true]
                rfl
            · have hu3 : ¬ 2147483647 < u := by omega
              simp only [hu2, hu3, decide_false, Bool.false_eq_true, if_false, bnd_some]
              by_cases hx : (expS msg (i + 10) n k).2 = 0
              · simp only [hx, hne, Bool.false_eq_true, if_false, not_true_eq_false, wrap_id (x := i + 10 + n) (by omega) (by omega)]
              · have hx' : ((expS msg (i + 10) n k).2 != 0) = true := by simp [hx]
                simp only [hx', hx, if_true, not_false_eq_true]
                rfl
  · have hne : (e != 0) = true := by simp [he]
    simp only [hne, if_true, ne_eq, he, not_false_eq_true]
    rfl
end Go.Abs

namespace Go.Abs
open Go
def lab (x : List UInt8) : List UInt8 := UInt8.ofNat x.length :: x
def flat (L : List (List UInt8)) : List UInt8 := (L.map lab).flatten
end Go.Abs

namespace Go.Abs
open Go
def inC (n most : Int) : Bool := decide (0 ≤ n) && decide (n ≤ most)
end Go.Abs

namespace Go.Abs
open Go
def nm (L : List (List UInt8)) : List UInt8 := flat L ++ [0]
end Go.Abs

namespace Go.Abs
open Go
end Go.Abs

namespace Go.Abs
open Go
end Go.Abs

namespace Go.Abs
open Go
end Go.Abs
