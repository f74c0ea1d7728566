/- Part of a proof: a machine of plain data, and what the functions come to on it. -/
import Derived.Test.YthmahgleehgbaaaGreatSxB
import Derived.Test.YthmahgleehgbaaaGreatSnC
set_option linter.unusedSimpArgs false
set_option linter.unusedVariables false
set_option linter.unusedSectionVars false
namespace Go.Abs
open Go
theorem ofInt_i64 (a : Nat) (ha : a < 18446744073709551616) : (BitVec.ofInt 64 (a : Int)).toNat = a := by
  rw [BitVec.ofInt_natCast, BitVec.toNat_ofNat]; exact Nat.mod_eq_of_lt (by omega)
theorem i64_or_nat (a b : Nat) (ha : a < 9223372036854775808) (hb : b < 9223372036854775808) : bits .or .i64 (a : Int) (b : Int) = ((a ||| b : Nat) : Int) := by
  have hx : a ||| b < 2 ^ 63 := Nat.or_lt_two_pow (by omega) (by omega)
  show IntKind.i64.wrap ((BitVec.ofInt 64 (a : Int) ||| BitVec.ofInt 64 (b : Int)).toNat : Int) = _
  rw [BitVec.toNat_or, ofInt_i64 a (by omega), ofInt_i64 b (by omega)]
  exact wrap64 (by omega) (by omega)
theorem i64_and_nat (a b : Nat) (ha : a < 9223372036854775808) (hb : b < 9223372036854775808) : bits .and .i64 (a : Int) (b : Int) = ((a &&& b : Nat) : Int) := by
  have hx : a &&& b < 2 ^ 63 := Nat.and_lt_two_pow _ (by omega)
  show IntKind.i64.wrap ((BitVec.ofInt 64 (a : Int) &&& BitVec.ofInt 64 (b : Int)).toNat : Int) = _
  rw [BitVec.toNat_and, ofInt_i64 a (by omega), ofInt_i64 b (by omega)]
  exact wrap64 (by omega) (by omega)
theorem or_byte (a b : Nat) (hb : b < 256) : a * 256 ||| b = a * 256 + b := by
  have := Nat.shiftLeft_add_eq_or_of_lt (b := b) (i := 8) (by omega) a
  rw [Nat.shiftLeft_eq] at this
  exact this.symm
theorem i64_or_byteN {n m : Nat} (ha : n < 36028797018963968) (hb : m < 256) : bits .or .i64 ((n * 256 : Nat) : Int) (m : Int) = ((n * 256 + m : Nat) : Int) := by
  have h1 : n * 256 < 9223372036854775808 := by omega
  have h2 : m < 9223372036854775808 := by omega
  rw [i64_or_nat _ _ h1 h2, or_byte n m hb]
theorem i64_or_byte {a b : Int} (ha : 0 ≤ a) (ha2 : a < 36028797018963968) (hb : 0 ≤ b) (hb2 : b < 256) : bits .or .i64 (a * 256) b = a * 256 + b := by
  obtain ⟨n, rfl⟩ := Int.eq_ofNat_of_zero_le ha
  obtain ⟨m, rfl⟩ := Int.eq_ofNat_of_zero_le hb
  have h := i64_or_byteN (n := n) (m := m) (by omega) (by omega)
  rw [Int.natCast_add, Int.natCast_mul] at h
  exact h
theorem byte_lt (b : UInt8) : (b.toNat : Int) < 256 := by have := b.toNat_lt; omega
theorem byte_nn (b : UInt8) : (0 : Int) ≤ (b.toNat : Int) := by omega
theorem wrap_byte (b : UInt8) : IntKind.i64.wrap (b.toNat : Int) = (b.toNat : Int) := wrap_id (by omega) (by have := b.toNat_lt; omega)
/-- the bytes of a text as numbers, and back -/
theorem bytes_back (s : List UInt8) : List.map (fun n : Int => UInt8.ofNat n.toNat) (List.map (fun b : UInt8 => (b.toNat : Int)) s) = s := by
  rw [List.map_map]
  conv => rhs; rw [← List.map_id s]
  apply List.map_congr_left
  intro b _
  simp
/-- a piece -/
def takeS (s : List UInt8) (a n : Int) : Option (List UInt8) := if 0 ≤ a ∧ 0 ≤ n ∧ a ≤ s.length ∧ n ≤ s.length - a then some ((s.drop a.toNat).take n.toNat) else none
@[reducible] def two (o : Option (List UInt8)) : List UInt8 × Bool := match o with
  | some x => (x, true)
  | none => ([], false)
def beN (l : List UInt8) : Int := l.foldl (fun n b => 256 * n + (b.toNat : Int)) 0
/-- a number of so many bytes at a place -/
def getS (s : List UInt8) (a n : Int) : Option Int := if 1 ≤ n ∧ n ≤ 4 then (takeS s a n).map beN else none
@[reducible] def twoI (o : Option Int) : Int × Bool := match o with
  | some x => (x, true)
  | none => (0, false)
theorem takeS_len {s : List UInt8} {a n : Int} {t : List UInt8} (h : takeS s a n = some t) : (t.length : Int) = n := by
  unfold takeS at h
  split at h
  · simp only [Option.some.injEq] at h; subst h
    simp
    omega
  · simp at h
theorem grdp {β : Type} {c : Prop} {i : Decidable c} {b : Option β} (h : c) : @grd β c i b = b := by unfold grd; rw [if_pos h]
end Go.Abs

namespace Go.Abs
open Go
def maxI : Int := 9223372036854775807
theorem sized_eq (n : Int) : F_octet_sized n = some (decide (1 ≤ n ∧ n ≤ 4)) := by
  unfold F_octet_sized
  by_cases h : 1 ≤ n
  · simp [h]
  · simp [h]
theorem Take_eq {s : List UInt8} (hs : (s.length : Int) ≤ maxI) (a n : Int) : F_octet_Take s a n = some (two (takeS s a n)) := by
  unfold maxI at hs
  unfold F_octet_Take takeS
  by_cases h1 : a < 0
  · rw [if_neg (by simpa using h1), if_neg (by omega)]
  rw [if_pos (by simpa using h1)]
  by_cases h2 : n < 0
  · rw [if_neg (by simpa using h2), if_neg (by omega)]
  rw [if_pos (by simpa using h2)]
  by_cases h3 : (s.length : Int) < a
  · rw [if_neg (by simpa using h3), if_neg (by omega)]
  rw [if_pos (by simpa using h3), wrap_id (by omega) (by omega)]
  by_cases h4 : (s.length : Int) - a < n
  · rw [if_pos (by simpa using h4), if_neg (by omega)]
  rw [if_neg (by simpa using h4), natOf_pos (by omega), grd_pos (by omega), natOf_pos (by omega), grd_pos (by simp; omega), if_pos (by omega)]
theorem get_loop (n : Int) (t : List UInt8) (hn : (t.length : Int) = n) (h4 : n ≤ 4) : loopS (step_octet_Get_0 n t) (0, 0) = some (beN t) := by
  have hl : t.length ≤ 4 := by omega
  have key : ∀ (k : Nat) (i : Nat) (m : Int), t.length - i = k → i ≤ t.length → 0 ≤ m → m < 256 ^ i → loopS (step_octet_Get_0 n t) (m, (i : Int)) = some ((t.drop i).foldl (fun n b => 256 * n + (b.toNat : Int)) m) := by
    intro k
    induction k with
    | zero =>
      intro i m hk hi h0 h1
      have : t.drop i = [] := List.drop_eq_nil_of_le (by omega)
      rw [this]
      refine loopS_out ?_
      simp only [step_octet_Get_0]
      rw [if_neg (by simp; omega)]
      rfl
    | succ k ih =>
      intro i m hk hi h0 h1
      have hlt : i < t.length := by omega
      have hb := byte_lt t[i]
      have hb0 := byte_nn t[i]
      have hp : (256 : Int) ^ i ≤ 16777216 := by
        rcases (by omega : i = 0 ∨ i = 1 ∨ i = 2 ∨ i = 3) with rfl | rfl | rfl | rfl <;> decide
      rw [List.drop_eq_getElem_cons hlt, List.foldl_cons]
      rw [loopS_next (y := (256 * m + (t[i].toNat : Int), ((i + 1 : Nat) : Int)))]
      · refine ih (i + 1) _ (by omega) (by omega) (by omega) ?_
        rw [Int.pow_succ]
        omega
      · simp only [step_octet_Get_0]
        rw [if_pos (by simp; omega), natOf_nat, List.getElem?_eq_getElem hlt, bnd_some, grdEq_self, grdEq_self, wrap_byte, wrap_id (x := m * 256) (by omega) (by omega), i64_or_byte (by omega) (by omega) (by omega) (by omega), wrap_id (x := (i : Int) + 1) (by omega) (by omega), Int.mul_comm m 256]
        rfl
  have := key t.length 0 0 (by omega) (by omega) (by omega) (by simp)
  simpa [beN] using this
theorem Get_eq {s : List UInt8} (hs : (s.length : Int) ≤ maxI) (a n : Int) : F_octet_Get s a n = some (twoI (getS s a n)) := by
  unfold F_octet_Get getS
  rw [Take_eq hs, bnd_some]
  cases ht : takeS s a n with
  | none => simp [two, bnd, twoI]
  | some t =>
    have hlen := takeS_len ht
    simp only [two, sized_eq, bnd_some]
    by_cases h1 : 1 ≤ n ∧ n ≤ 4
    · simp only [h1, and_self, decide_true, Bool.not_true, if_true, Bool.false_eq_true, if_false, grdEq_self, bnd_some]
      rw [get_loop n t hlen (by omega), bnd_some]
      rfl
    · simp [h1, bnd, twoI]
end Go.Abs

namespace Go.Abs
open Go
theorem getS_bounds {s : List UInt8} {a n : Int} {k : Int} (h : getS s a n = some k) : 0 ≤ a ∧ a + n ≤ s.length ∧ 1 ≤ n ∧ n ≤ 4 := by
  unfold getS takeS at h
  split at h
  · split at h
    · omega
    · simp at h
  · simp at h
theorem takeS_bounds {s : List UInt8} {a n : Int} {t : List UInt8} (h : takeS s a n = some t) : 0 ≤ a ∧ a + n ≤ s.length ∧ 0 ≤ n := by
  unfold takeS at h
  split at h
  · omega
  · simp at h
theorem getS1 {s : List UInt8} {a k : Int} (h : getS s a 1 = some k) : 0 ≤ k ∧ k < 256 ∧ ∃ b, s[a.toNat]? = some b ∧ k = (b.toNat : Int) := by
  obtain ⟨h0, h1, _, _⟩ := getS_bounds h
  unfold getS takeS at h
  rw [if_pos (by omega), if_pos (by omega)] at h
  have hlt : a.toNat < s.length := by omega
  simp only [Option.map_some, Option.some.injEq] at h
  rw [List.drop_eq_getElem_cons hlt] at h
  have e : (1 : Int).toNat = 1 := rfl
  rw [e, List.take_succ_cons, List.take_zero] at h
  simp only [beN, List.foldl_cons, List.foldl_nil] at h
  have := byte_lt s[a.toNat]
  exact ⟨by omega, by omega, s[a.toNat], by simp [hlt], by omega⟩
theorem getS2 {s : List UInt8} {a k p : Int} (h : getS s a 1 = some k) (h2 : getS s a 2 = some p) : 256 * k ≤ p ∧ p < 256 * k + 256 := by
  obtain ⟨_, _, b, hb, rfl⟩ := getS1 h
  obtain ⟨h0, h1, _, _⟩ := getS_bounds h2
  unfold getS takeS at h2
  rw [if_pos (by omega), if_pos (by omega)] at h2
  have hlt : a.toNat < s.length := by omega
  have hlt2 : a.toNat + 1 < s.length := by omega
  simp only [Option.map_some, Option.some.injEq] at h2
  rw [List.drop_eq_getElem_cons hlt, List.drop_eq_getElem_cons hlt2] at h2
  have e : (2 : Int).toNat = 2 := rfl
  rw [e, List.take_succ_cons, List.take_succ_cons, List.take_zero] at h2
  simp only [beN, List.foldl_cons, List.foldl_nil] at h2
  have hbb : s[a.toNat] = b := by simpa [hlt] using hb
  rw [hbb] at h2
  have := byte_lt s[a.toNat + 1]
  have := byte_nn s[a.toNat + 1]
  omega
/-- a name, read at a place -/
def readW (msg : List UInt8) (at_ least next : Int) (out : List UInt8) : List UInt8 × Int × Int :=
  match getS msg at_ 1 with
  | none => ([], 0, 2)
  | some k =>
    if k = 0 then (out ++ [0], (if next < 0 then at_ + 1 else next), 0)
    else if 192 ≤ k then
      match getS msg at_ 2 with
      | none => ([], 0, 2)
      | some p => if h : 0 ≤ p - 49152 ∧ p - 49152 < least then readW msg (p - 49152) (p - 49152) (if next < 0 then at_ + 2 else next) out else ([], 0, 3)
    else if 63 < k then ([], 0, 3)
    else match takeS msg at_ (k + 1) with
      | none => ([], 0, 2)
      | some l => if h : out.length + l.length < 255 ∧ 0 < l.length then readW msg (at_ + l.length) least next (out ++ l) else ([], 0, 3)
termination_by (least.toNat, 255 - out.length)
decreasing_by
  · apply Prod.Lex.left; omega
  · apply Prod.Lex.right; simp; omega
def readS (msg : List UInt8) (at_ : Int) : List UInt8 × Int × Int := readW msg at_ at_ (-1) []
def finR (o : (Int × (Int × (Int × (Int × List Int)))) ⊕ (List UInt8 × (Int × (Int × (Int × (Int × (Int × List Int))))))) : List UInt8 × Int × Int :=
  match o with
  | .inl x => ([], 0, x.1)
  | .inr x => (x.1, x.2.1, x.2.2.1)
def ints (l : List UInt8) : List Int := l.map fun b => (b.toNat : Int)
theorem ints_len (l : List UInt8) : (ints l).length = l.length := by simp [ints]
theorem comp_err (msg : List UInt8) (e : Int) (he : e ≠ 0) (x : Int × Int × Int × List Int) : ∃ o, loopS (step_comp_Read_0 msg) (e, x) = some o ∧ finR o = ([], 0, e) := by
  refine ⟨.inl (e, x), loopS_out ?_, rfl⟩
  obtain ⟨a, b, c, d⟩ := x
  simp only [step_comp_Read_0, grdEq_self]
  simp [he]
theorem bytes_ok (l : List UInt8) : ∀ (n : (Ty.int Go.IntKind.u8).den), n ∈ ints l → 0 ≤ n ∧ n < 256 := by
  intro n hn
  obtain ⟨b, _, rfl⟩ := List.mem_map.1 hn
  exact ⟨byte_nn b, byte_lt b⟩
theorem comp_read {msg : List UInt8} (hs : (msg.length : Int) ≤ maxI) (at_ least next : Int) (out : List UInt8) (ho : out.length < 255) (hn : next = -1 ∨ 0 ≤ next) :
    ∃ o, loopS (step_comp_Read_0 msg) (0, (at_, (least, (next, ints out)))) = some o ∧ finR o = readW msg at_ least next out := by
  have hm : maxI = 9223372036854775807 := rfl
  have hb := bytes_back out
  have hg := bytes_ok out
  have hil := ints_len out
  fun_induction readW msg at_ least next out with
  | case1 at_ least next out h1 =>
    refine ⟨.inl (2, at_, least, next, ints out), loopS_out ?_, rfl⟩
    simp only [step_comp_Read_0, Get_eq hs, bnd_some, h1, twoI, grdEq_self]
    rfl
  | case2 at_ least next out h1 =>
    obtain ⟨b0, b1, _, _⟩ := getS_bounds h1
    have hx : (if next < 0 then at_ + 1 else next) = if next = -1 then at_ + 1 else next := by
      by_cases h : next = -1
      · simp [h]
      · have : ¬ next < 0 := by omega
        simp [h, this]
    refine ⟨.inr (out ++ [0], (if next = -1 then at_ + 1 else next), 0, at_, least, (if next = -1 then at_ + 1 else next), ints out), loopS_out ?_, by simp only [finR, hx]⟩
    simp only [step_comp_Read_0, Get_eq hs, bnd_some, h1, twoI, grdEq_self, wrap_id (x := at_ + 1) (by omega) (by omega)]
    have g1 : (ints out).length ≤ 9223372036854775807 := by omega
    have g2 : out.length + 1 ≤ maxStr := by unfold maxStr; omega
    have hb' : List.map (fun n : Int => UInt8.ofNat n.toNat) (ints out) = out := hb
    by_cases h : next = -1
    · subst h
      simp only [bnd_some, grd_pos g1, grd_pos hg, grd_pos g2, hb', Bool.not_true, Bool.false_eq_true, if_false, beq_self_eq_true, if_true]
    · have h' : (next == -1) = false := by simpa using h
      simp only [h', bnd_some, grd_pos g1, grd_pos hg, grd_pos g2, hb', Bool.not_true, Bool.false_eq_true, if_false, beq_self_eq_true, if_true, h]
  | case3 at_ least next out k h1 h2 h3 h4 =>
    obtain ⟨o, e1, e2⟩ := comp_err msg 2 (by decide) (at_, least, next, ints out)
    refine ⟨o, ?_, e2⟩
    rw [loopS_next (y := (2, (at_, least, next, ints out)))]
    · exact e1
    · have h2' : (k == 0) = false := by simpa using h2
      simp only [step_comp_Read_0, Get_eq hs, bnd_some, h1, h4, twoI, grdEq_self, h2', h3, Bool.not_true, Bool.false_eq_true, if_false, beq_self_eq_true, if_true, decide_true, Bool.not_false]
  | case4 at_ least next out k h1 h2 h3 p h4 h5 ih =>
    obtain ⟨b0, b1, _, _⟩ := getS_bounds h4
    have hp := getS2 h1 h4
    have hk := getS1 h1
    have hx : (if h : next < 0 then at_ + 2 else next) = if next = -1 then at_ + 2 else next := by
      by_cases h : next = -1
      · simp [h]
      · have : ¬ next < 0 := by omega
        simp [h, this]
    rw [hx] at ih
    obtain ⟨o, e1, e2⟩ := ih ho (by split <;> omega) hb hg hil
    refine ⟨o, ?_, ?_⟩
    · rw [loopS_next (y := (0, (p - 49152, (p - 49152, ((if next = -1 then at_ + 2 else next), ints out)))))]
      · exact e1
      · have h2' : (k == 0) = false := by simpa using h2
        have h6 : ¬ least ≤ p - 49152 := by omega
        simp only [step_comp_Read_0, Get_eq hs, bnd_some, h1, h4, twoI, grdEq_self, h2', h3, Bool.not_true, Bool.false_eq_true, if_false, beq_self_eq_true, if_true, decide_true, Bool.not_false,
          wrap_id (x := p - 49152) (by omega) (by omega), wrap_id (x := at_ + 2) (by omega) (by omega), h6, decide_false]
        by_cases h : next = -1
        · subst h
          simp only [beq_self_eq_true, if_true, bnd_some]
        · have h' : (next == -1) = false := by simpa using h
          simp only [h', h, Bool.false_eq_true, if_false, bnd_some]
    · rw [e2]
      have hx2 : (if next < 0 then at_ + 2 else next) = if next = -1 then at_ + 2 else next := by simpa using hx
      rw [hx2]
  | case5 at_ least next out k h1 h2 h3 p h4 h5 =>
    have hp := getS2 h1 h4
    have hk := getS1 h1
    obtain ⟨o, e1, e2⟩ := comp_err msg 3 (by decide) (at_, least, next, ints out)
    refine ⟨o, ?_, e2⟩
    rw [loopS_next (y := (3, (at_, least, next, ints out)))]
    · exact e1
    · have h2' : (k == 0) = false := by simpa using h2
      have h6 : least ≤ p - 49152 := by omega
      simp only [step_comp_Read_0, Get_eq hs, bnd_some, h1, h4, twoI, grdEq_self, h2', h3, Bool.not_true, Bool.false_eq_true, if_false, beq_self_eq_true, if_true, decide_true, Bool.not_false,
          wrap_id (x := p - 49152) (by omega) (by omega), h6]
  | case6 at_ least next out k h1 h2 h3 h4 =>
    obtain ⟨o, e1, e2⟩ := comp_err msg 3 (by decide) (at_, least, next, ints out)
    refine ⟨o, ?_, e2⟩
    rw [loopS_next (y := (3, (at_, least, next, ints out)))]
    · exact e1
    · have h2' : (k == 0) = false := by simpa using h2
      simp only [step_comp_Read_0, Get_eq hs, bnd_some, h1, twoI, grdEq_self, h2', h3, h4, Bool.not_true, Bool.false_eq_true, if_false, beq_self_eq_true, if_true, decide_true, decide_false, Bool.not_false]
  | case7 at_ least next out k h1 h2 h3 h4 h5 =>
    have hk := getS1 h1
    obtain ⟨o, e1, e2⟩ := comp_err msg 2 (by decide) (at_, least, next, ints out)
    refine ⟨o, ?_, e2⟩
    rw [loopS_next (y := (2, (at_, least, next, ints out)))]
    · exact e1
    · have h2' : (k == 0) = false := by simpa using h2
      simp only [step_comp_Read_0, Get_eq hs, Take_eq hs, bnd_some, h1, twoI, two, grdEq_self, h2', h3, h4, Bool.not_true, Bool.false_eq_true, if_false, beq_self_eq_true, if_true, decide_true, decide_false, Bool.not_false,
        wrap_id (x := 1 + k) (by omega) (by omega), Int.add_comm 1 k, h5, wrap_id (x := k + 1) (by omega) (by omega)]
  | case8 at_ least next out k h1 h2 h3 h4 l h5 h6 ih =>
    have hk := getS1 h1
    have hl := takeS_len h5
    have hb2 := takeS_bounds h5
    have hap : ints out ++ List.map (fun b : UInt8 => (b.toNat : Int)) l = ints (out ++ l) := by simp [ints]
    obtain ⟨o, e1, e2⟩ := ih (by simp; omega) hn (bytes_back _) (bytes_ok _) (ints_len _)
    refine ⟨o, ?_, e2⟩
    rw [loopS_next (y := (0, (at_ + l.length, (least, (next, ints (out ++ l))))))]
    · exact e1
    · have h2' : (k == 0) = false := by simpa using h2
      have h7 : ¬ 255 ≤ ((ints out).length : Int) + (l.length : Int) := by omega
      have g3 : ((ints out).length + (List.map (fun b : UInt8 => (b.toNat : Int)) l).length) * 1 ≤ roomLim := by unfold roomLim; rw [List.length_map]; omega
      simp only [step_comp_Read_0, Get_eq hs, Take_eq hs, bnd_some, h1, twoI, two, grdEq_self, h2', h3, h4, Bool.not_true, Bool.false_eq_true, if_false, beq_self_eq_true, if_true, decide_true, decide_false, Bool.not_false,
        Int.add_comm 1 k, h5, wrap_id (x := k + 1) (by omega) (by omega), wrap_id (x := ((ints out).length : Int) + (l.length : Int)) (by omega) (by omega), h7, grd_pos g3,
        wrap_id (x := at_ + (l.length : Int)) (by omega) (by omega), hap]
  | case9 at_ least next out k h1 h2 h3 h4 l h5 h6 =>
    have hk := getS1 h1
    have hl := takeS_len h5
    obtain ⟨o, e1, e2⟩ := comp_err msg 3 (by decide) (at_, least, next, ints out)
    refine ⟨o, ?_, e2⟩
    have hb2 := takeS_bounds h5
    rw [loopS_next (y := (3, (at_, least, next, ints out)))]
    · exact e1
    · have h2' : (k == 0) = false := by simpa using h2
      have h7 : 255 ≤ ((ints out).length : Int) + (l.length : Int) := by omega
      simp only [step_comp_Read_0, Get_eq hs, Take_eq hs, bnd_some, h1, twoI, two, grdEq_self, h2', h3, h4, Bool.not_true, Bool.false_eq_true, if_false, beq_self_eq_true, if_true, decide_true, decide_false, Bool.not_false,
        Int.add_comm 1 k, h5, wrap_id (x := k + 1) (by omega) (by omega), wrap_id (x := ((ints out).length : Int) + (l.length : Int)) (by omega) (by omega), h7]
theorem comp_Read_eq {msg : List UInt8} (hs : (msg.length : Int) ≤ maxI) (a : Int) : F_comp_Read msg a = some (readS msg a) := by
  obtain ⟨o, h1, h2⟩ := comp_read hs a a (-1) [] (by simp) (.inl rfl)
  unfold F_comp_Read
  simp only [ints, List.map_nil] at h1
  rw [h1, bnd_some]
  unfold readS
  rw [← h2]
  cases o with
  | inl x => obtain ⟨a, b, c, d, e⟩ := x; rfl
  | inr x => obtain ⟨a, b, c, d, e, f, g⟩ := x; rfl
/-- where what was read ends -/
theorem readW_ends {msg : List UInt8} (at_ least next : Int) (out : List UInt8) (ho : out.length < 255) :
    (readW msg at_ least next out).1.length ≤ 255 ∧ ((readW msg at_ least next out).2.2 = 0 →
      (0 ≤ next → (readW msg at_ least next out).2.1 = next) ∧ (next < 0 → 0 ≤ at_ ∧ at_ < (readW msg at_ least next out).2.1 ∧ (readW msg at_ least next out).2.1 ≤ msg.length)) ∧
    ((readW msg at_ least next out).2.2 ≠ 0 → (readW msg at_ least next out).1 = [] ∧ (readW msg at_ least next out).2.1 = 0) := by
  fun_induction readW msg at_ least next out with
  | case1 at_ least next out h1 => simp
  | case2 at_ least next out h1 =>
    obtain ⟨b0, b1, _, _⟩ := getS_bounds h1
    refine ⟨by simp; omega, fun _ => ⟨fun h => by simp; omega, fun h => ?_⟩, fun h => absurd rfl h⟩
    simp only [h, if_true]
    omega
  | case3 => simp
  | case4 at_ least next out k h1 h2 h3 p h4 h5 ih =>
    obtain ⟨b0, b1, _, _⟩ := getS_bounds h4
    obtain ⟨i1, i2, i3⟩ := ih ho
    refine ⟨i1, fun h => ⟨fun hn => ?_, fun hn => ?_⟩, i3⟩
    · obtain ⟨j1, _⟩ := i2 h
      have hx : ¬ next < 0 := by omega
      simp only [hx, if_false, dite_eq_ite] at j1 ⊢
      exact j1 hn
    · obtain ⟨j1, _⟩ := i2 h
      simp only [hn, if_true, dite_eq_ite] at j1 ⊢
      have := j1 (by omega)
      omega
  | case5 => simp
  | case6 => simp
  | case7 => simp
  | case8 at_ least next out k h1 h2 h3 h4 l h5 h6 ih =>
    obtain ⟨i1, i2, i3⟩ := ih (by simp; omega)
    have hb := takeS_bounds h5
    refine ⟨i1, fun h => ⟨fun hn => (i2 h).1 hn, fun hn => ?_⟩, i3⟩
    have := (i2 h).2 hn
    omega
  | case9 => simp
theorem readS_ends (msg : List UInt8) (a : Int) : (readS msg a).1.length ≤ 255 ∧ ((readS msg a).2.2 = 0 → 0 ≤ a ∧ a < (readS msg a).2.1 ∧ (readS msg a).2.1 ≤ msg.length) ∧
    ((readS msg a).2.2 ≠ 0 → (readS msg a).1 = [] ∧ (readS msg a).2.1 = 0) := by
  obtain ⟨h1, h2, h3⟩ := readW_ends (msg := msg) a a (-1) [] (by simp)
  exact ⟨h1, fun h => (h2 h).2 (by decide), h3⟩
end Go.Abs

namespace Go.Abs
open Go
def textsW : List UInt8 → Bool
  | [] => true
  | b :: r => if b.toNat ≤ r.length then textsW (r.drop b.toNat) else false
termination_by l => l.length
decreasing_by simp; omega
def textsS (d : List UInt8) : Bool := d != [] && textsW d
theorem data_texts_loop (d : List UInt8) (hs : (d.length : Int) ≤ maxI) : loopS step_data_texts_0 d = some (if textsW d then .inr () else .inl false) := by
  have hm : maxI = 9223372036854775807 := rfl
  fun_induction textsW d with
  | case1 => exact loopS_out rfl
  | case2 b r h ih =>
    have hb := byte_lt b
    simp only [List.length_cons] at hs
    rw [loopS_next (y := r.drop b.toNat)]
    · exact ih (by simp; omega)
    · have h1 : ¬ ((b :: r).length : Int) < 1 + (b.toNat : Int) := by simp only [List.length_cons]; omega
      have e1 : (!(b :: r) == []) = true := rfl
      have e2 : (b :: r)[0]? = some b := rfl
      simp only [step_data_texts_0, e1, e2, if_true, bnd_some, wrap_byte, wrap_id (x := 1 + (b.toNat : Int)) (by omega) (by omega), h1, decide_false, Bool.false_eq_true, if_false]
      rw [natOf_pos (by omega), grd_pos (by simp; omega)]
      have e3 : (1 + (b.toNat : Int)).toNat = b.toNat + 1 := by omega
      rw [e3]
      rfl
  | case3 b r h =>
    have hb := byte_lt b
    simp only [List.length_cons] at hs
    refine loopS_out ?_
    have h1 : ((b :: r).length : Int) < 1 + (b.toNat : Int) := by simp only [List.length_cons]; omega
    have e1 : (!(b :: r) == []) = true := rfl
    have e2 : (b :: r)[0]? = some b := rfl
    simp only [step_data_texts_0, e1, e2, if_true, bnd_some, wrap_byte, wrap_id (x := 1 + (b.toNat : Int)) (by omega) (by omega), h1, decide_true, if_true]
    rfl
theorem data_texts_eq {d : List UInt8} (hs : (d.length : Int) ≤ maxI) : F_data_texts d = some (textsS d) := by
  unfold F_data_texts textsS
  cases d with
  | nil => rfl
  | cons b r =>
    have e1 : ((b :: r) == []) = false := rfl
    have e2 : ((b :: r) != []) = true := rfl
    rw [data_texts_loop _ hs, e1, e2]
    cases textsW (b :: r) <;> rfl
/-- so many names, one behind the other -/
def namesW (msg : List UInt8) : Nat → Int → Option (List (List UInt8) × Int)
  | 0, i => some ([], i)
  | n + 1, i => if (readS msg i).2.2 = 0 then (namesW msg n (readS msg i).2.1).map fun p => ((readS msg i).1 :: p.1, p.2) else none
theorem namesW_ends {msg : List UInt8} : ∀ {n : Nat} {i : Int} {l : List (List UInt8)} {j : Int}, namesW msg n i = some (l, j) → i ≤ j ∧ (n ≠ 0 → 0 ≤ i ∧ j ≤ msg.length) ∧ l.length = n ∧ l.flatten.length ≤ 255 * n
  | 0, i, l, j, h => by simp only [namesW, Option.some.injEq, Prod.mk.injEq] at h; obtain ⟨rfl, rfl⟩ := h; simp
  | n + 1, i, l, j, h => by
    unfold namesW at h
    split at h
    · rename_i h0
      obtain ⟨e1, e2, _⟩ := readS_ends msg i
      have e2 := e2 h0
      cases hr : namesW msg n (readS msg i).2.1 with
      | none => rw [hr] at h; simp at h
      | some p =>
        obtain ⟨l', j'⟩ := p
        rw [hr] at h
        simp only [Option.map_some, Option.some.injEq, Prod.mk.injEq] at h
        obtain ⟨rfl, rfl⟩ := h
        obtain ⟨g1, g2, g3, g4⟩ := namesW_ends hr
        refine ⟨by omega, fun _ => ⟨e2.1, ?_⟩, by simp [g3], ?_⟩
        · cases n with
          | zero => simp only [namesW, Option.some.injEq, Prod.mk.injEq] at hr; omega
          | succ n => exact (g2 (by omega)).2
        · simp only [List.flatten_cons, List.length_append]; omega
    · simp at h
theorem data_names {msg : List UInt8} (hs : (msg.length : Int) ≤ maxI) (z : Int) (v : Int × Int × Int) (n5 n6 : Nat) : ∀ (n : Nat) (i k : Int) (l : List (List UInt8)), k + n = v.2.1 → 0 ≤ k → v.2.1 ≤ 100 → i ≤ z → l.length ≤ k →
    ∃ l', loopS (step_data_read_0 msg z v n5 n6) (i, (k, l)) = some (match namesW msg n i with | some p => if p.2 ≤ z then .inl (p.2, l ++ p.1) else .inr (false, l') | none => .inr (false, l')) := by
  intro n
  induction n with
  | zero =>
    intro i k l hk h0 hv hi hl
    refine ⟨l, loopS_out ?_⟩
    have : ¬ k < v.2.1 := by omega
    simp only [step_data_read_0, this, decide_false, Bool.false_eq_true, if_false, grdEq_self, namesW, hi, if_true]
    simp
  | succ n ih =>
    intro i k l hk h0 hv hi hl
    have hlt : k < v.2.1 := by omega
    obtain ⟨e1, e2, _⟩ := readS_ends msg i
    by_cases he : (readS msg i).2.2 = 0
    · have hx : ((readS msg i).2.2 != 0) = false := by simp [he]
      by_cases hz : z < (readS msg i).2.1
      · refine ⟨l, loopS_out ?_⟩
        simp only [step_data_read_0, hlt, decide_true, if_true, comp_Read_eq hs, bnd_some, grdEq_self, hx, hz]
        rw [namesW, if_pos he]
        cases hr : namesW msg n (readS msg i).2.1 with
        | none => rfl
        | some p =>
          have := (namesW_ends hr).1
          have h3 : ¬ p.2 ≤ z := by omega
          simp only [Option.map_some, h3, if_false]
      · obtain ⟨l', h⟩ := ih (readS msg i).2.1 (k + 1) (l ++ [(readS msg i).1]) (by omega) (by omega) hv (by omega) (by simp; omega)
        refine ⟨l', ?_⟩
        rw [loopS_next (y := ((readS msg i).2.1, (k + 1, l ++ [(readS msg i).1]))), h]
        · rw [namesW, if_pos he]
          cases namesW msg n (readS msg i).2.1 with
          | none => rfl
          | some p => simp
        · simp only [step_data_read_0, hlt, decide_true, if_true, comp_Read_eq hs, bnd_some, grdEq_self, hx, hz, decide_false, Bool.false_eq_true, if_false]
          rw [grd_pos (by unfold roomLim; simp; omega), wrap_id (by omega) (by omega)]
    · refine ⟨l, loopS_out ?_⟩
      have hx : ((readS msg i).2.2 != 0) = true := by simp [he]
      simp only [step_data_read_0, hlt, decide_true, if_true, comp_Read_eq hs, bnd_some, grdEq_self, hx]
      rw [namesW, if_neg he]
      rfl
end Go.Abs

namespace Go.Abs
open Go
def shapeS (kind : Int) : Int × Int × Int :=
  if kind = 2 ∨ kind = 5 ∨ kind = 12 then (0, 1, 0) else if kind = 6 then (0, 2, 20) else if kind = 15 then (2, 1, 0) else if kind = 33 then (6, 1, 0) else if kind = 1 then (4, 0, 0) else if kind = 28 then (16, 0, 0) else (0, 0, 0)
theorem shapeS_ok (kind : Int) : 0 ≤ (shapeS kind).1 ∧ (shapeS kind).1 ≤ 16 ∧ 0 ≤ (shapeS kind).2.1 ∧ (shapeS kind).2.1 ≤ 2 ∧ 0 ≤ (shapeS kind).2.2 ∧ (shapeS kind).2.2 ≤ 20 := by
  unfold shapeS
  repeat' split
  all_goals decide
/-- from a place to a place -/
def cut (msg : List UInt8) (i j : Int) : List UInt8 := List.drop i.toNat (List.take j.toNat msg)
def expS (msg : List UInt8) (a size kind : Int) : List UInt8 × Int :=
  match takeS msg a size with
  | none => ([], 2)
  | some d =>
    if shapeS kind = (0, 0, 0) then (if (kind = 16 ∧ textsS d = false) ∨ 65535 < d.length then ([], 4) else (d, 0))
    else if size < (shapeS kind).1 then ([], 4)
    else match namesW msg (shapeS kind).2.1.toNat (a + (shapeS kind).1) with
      | none => ([], 4)
      | some p => if p.2 + (shapeS kind).2.2 ≠ a + size then ([], 4)
        else if 65535 < (d.take (shapeS kind).1.toNat ++ p.1.flatten ++ cut msg p.2 (a + size)).length then ([], 4)
        else (d.take (shapeS kind).1.toNat ++ p.1.flatten ++ cut msg p.2 (a + size), 0)
theorem cut_len (msg : List UInt8) (i j : Int) : (cut msg i j).length ≤ msg.length := by
  unfold cut
  simp
  omega
end Go.Abs

namespace Go.Abs
open Go
theorem join_nil (l : List (List UInt8)) : Lib.join l [] = l.flatten := by
  unfold Lib.join
  induction l with
  | nil => rfl
  | cons a r ih =>
    cases r with
    | nil => simp [List.intercalate, List.intersperse]
    | cons b r =>
      simp only [List.intercalate, List.intersperse, List.flatten_cons] at ih ⊢
      simp [ih]
theorem whole_eq {p : List UInt8 × List UInt8 × List (List UInt8)} (h1 : p.2.2.length ≤ 1000) (h2 : p.1.length + p.2.2.flatten.length + p.2.1.length ≤ 100000000) : F_data_parts_whole p = some (p.1 ++ p.2.2.flatten ++ p.2.1) := by
  unfold F_data_parts_whole F_strings_Join
  rw [join_nil, if_pos ⟨by omega, by omega⟩, bnd_some, grdp (by unfold maxStr; omega), grdp (by unfold maxStr; simp only [List.length_append]; omega)]
def dreadS (msg : List UInt8) (a z : Int) (v : Int × Int × Int) : (List UInt8 × List UInt8 × List (List UInt8)) × Bool :=
  if z - a < v.1 then (([], [], []), false)
  else match namesW msg v.2.1.toNat (a + v.1) with
    | some p => if p.2 ≤ z then ((cut msg a (a + v.1), cut msg p.2 z, p.1), decide (z - p.2 = v.2.2)) else (([], [], []), false)
    | none => (([], [], []), false)
theorem cut_len2 {msg : List UInt8} {i j : Int} (h0 : 0 ≤ i) (h1 : i ≤ j) (h2 : j ≤ msg.length) : ((cut msg i j).length : Int) = j - i := by
  unfold cut
  simp
  omega
theorem data_read_eq {msg : List UInt8} (hs : msg.length ≤ 1000000) {a z : Int} {v : Int × Int × Int} (h0 : 0 ≤ a) (h1 : a ≤ z) (h2 : z ≤ msg.length) (v0 : 0 ≤ v.1) (v1 : v.1 ≤ 16) (v2 : 0 ≤ v.2.1) (v3 : v.2.1 ≤ 2) :
    F_data_read msg a z v = some (dreadS msg a z v) := by
  have hm : maxI = 9223372036854775807 := rfl
  have hs' : (msg.length : Int) ≤ maxI := by omega
  unfold F_data_read dreadS
  rw [wrap_id (x := z - a) (by omega) (by omega)]
  by_cases hx : z - a < v.1
  · rw [if_pos hx, if_pos (by simp; omega)]
  · rw [if_neg hx, if_neg (by simp; omega), wrap_id (x := a + v.1) (by omega) (by omega), natOf_pos (by omega), grdp (by omega), natOf_pos (by omega), grdp (by omega)]
    obtain ⟨l', hl⟩ := data_names hs' z v (a + v.1).toNat a.toNat v.2.1.toNat (a + v.1) 0 [] (by omega) (by omega) (by omega) (by omega) (by simp)
    rw [hl, bnd_some]
    cases hn : namesW msg v.2.1.toNat (a + v.1) with
    | none => rfl
    | some p =>
      obtain ⟨l, j⟩ := p
      obtain ⟨n1, _, _, _⟩ := namesW_ends hn
      simp only
      by_cases hj : j ≤ z
      · have hc := cut_len2 (msg := msg) (i := j) (j := z) (by omega) hj h2
        unfold cut at hc
        simp only [hj, if_true, List.nil_append]
        rw [natOf_pos (by omega), grdp (by omega), natOf_pos (by omega), grdp (by omega), hc]
        rfl
      · simp only [hj, if_false]
theorem shapes_eq (kind : Int) : sfind (Ty.int Go.IntKind.i64) (.agg (.cons (.int .i64) (.cons (.int .i64) (.int .i64)))) kind [(1, (4, 0, 0)), (28, (16, 0, 0)), (2, (0, 1, 0)), (5, (0, 1, 0)), (12, (0, 1, 0)), (6, (0, 2, 20)), (15, (2, 1, 0)), (33, (6, 1, 0))] =
    if shapeS kind = (0, 0, 0) then none else some (shapeS kind) := by
  unfold shapeS
  simp only [sfind, Ty.beq]
  by_cases h1 : kind = 1
  · subst h1; rfl
  by_cases h28 : kind = 28
  · subst h28; rfl
  by_cases h2 : kind = 2
  · subst h2; rfl
  by_cases h5 : kind = 5
  · subst h5; rfl
  by_cases h12 : kind = 12
  · subst h12; rfl
  by_cases h6 : kind = 6
  · subst h6; rfl
  by_cases h15 : kind = 15
  · subst h15; rfl
  by_cases h33 : kind = 33
  · subst h33; rfl
  have e (m : Int) (h : ¬ kind = m) : (kind == m) = false := by simpa using h
  simp only [e _ h1, e _ h28, e _ h2, e _ h5, e _ h12, e _ h6, e _ h15, e _ h33, Bool.false_eq_true, if_false, h1, h28, h2, h5, h12, h6, h15, h33, or_self, if_true]
end Go.Abs

namespace Go.Abs
open Go
theorem cut_take {msg d : List UInt8} {a size x : Int} (ht : takeS msg a size = some d) (hx : 0 ≤ x) (hx2 : x ≤ size) : cut msg a (a + x) = d.take x.toNat := by
  obtain ⟨t0, t1, t2⟩ := takeS_bounds ht
  unfold takeS at ht
  rw [if_pos (by omega)] at ht
  simp only [Option.some.injEq] at ht
  subst ht
  unfold cut
  rw [List.drop_take, List.take_take]
  congr 1
  omega
theorem data_Expand_eq {msg : List UInt8} (hs : msg.length ≤ 1000000) (a size kind : Int) : F_data_Expand msg a size kind = some (expS msg a size kind) := by
  have hm : maxI = 9223372036854775807 := rfl
  have hs' : (msg.length : Int) ≤ maxI := by omega
  unfold F_data_Expand expS
  rw [Take_eq hs', bnd_some]
  cases ht : takeS msg a size with
  | none => rfl
  | some d =>
    have hd := takeS_len ht
    obtain ⟨t0, t1, t2⟩ := takeS_bounds ht
    obtain ⟨v0, v1, v2, v3, v4, v5⟩ := shapeS_ok kind
    simp only [two, Bool.not_true, Bool.false_eq_true, if_false, bnd_some]
    have hq := shapes_eq kind
    generalize hq2 : sfind (Ty.int Go.IntKind.i64) (.agg (.cons (.int .i64) (.cons (.int .i64) (.int .i64)))) kind [(1, (4, 0, 0)), (28, (16, 0, 0)), (2, (0, 1, 0)), (5, (0, 1, 0)), (12, (0, 1, 0)), (6, (0, 2, 20)), (15, (2, 1, 0)), (33, (6, 1, 0))] = Q at hq
    have hq3 : sfind (Ty.int Go.IntKind.i64) (.agg (.cons (.int .i64) (.cons (.int .i64) (.int .i64)))) kind (sputM (Ty.int Go.IntKind.i64) (.agg (.cons (.int .i64) (.cons (.int .i64) (.int .i64)))) 33 (6, 1, 0) (sputM (Ty.int Go.IntKind.i64) (.agg (.cons (.int .i64) (.cons (.int .i64) (.int .i64)))) 15 (2, 1, 0) (sputM (Ty.int Go.IntKind.i64) (.agg (.cons (.int .i64) (.cons (.int .i64) (.int .i64)))) 6 (0, 2, 20) (sputM (Ty.int Go.IntKind.i64) (.agg (.cons (.int .i64) (.cons (.int .i64) (.int .i64)))) 12 (0, 1, 0) (sputM (Ty.int Go.IntKind.i64) (.agg (.cons (.int .i64) (.cons (.int .i64) (.int .i64)))) 5 (0, 1, 0) (sputM (Ty.int Go.IntKind.i64) (.agg (.cons (.int .i64) (.cons (.int .i64) (.int .i64)))) 2 (0, 1, 0) (sputM (Ty.int Go.IntKind.i64) (.agg (.cons (.int .i64) (.cons (.int .i64) (.int .i64)))) 28 (16, 0, 0) (sputM (Ty.int Go.IntKind.i64) (.agg (.cons (.int .i64) (.cons (.int .i64) (.int .i64)))) 1 (4, 0, 0) [])))))))) = Q := hq2
    rw [hq3]
    clear hq3 hq2
    have hfin : ∀ (e : List UInt8), e.length ≤ 100000000 → (if (kind == 16) = true then bnd (F_data_texts e) fun v12 => if (!v12) = false then (if decide (65535 < (e.length : Int)) = true then some (([] : List UInt8), (4 : Int)) else some (e, 0)) else some ([], 4)
        else if decide (65535 < (e.length : Int)) = true then some ([], 4) else some (e, 0)) = some (if (kind = 16 ∧ textsS e = false) ∨ 65535 < e.length then ([], 4) else (e, 0)) := by
      intro e he
      rw [data_texts_eq (d := e) (by omega), bnd_some]
      by_cases hk : kind = 16
      · cases htx : textsS e
        · simp [hk]
        · by_cases h9 : 65535 < e.length
          · simp [hk, h9, show (65535 : Int) < (e.length : Int) by omega]
          · simp [hk, h9, show ¬ (65535 : Int) < (e.length : Int) by omega]
      · by_cases h9 : 65535 < e.length
        · simp [hk, h9, show (65535 : Int) < (e.length : Int) by omega]
        · simp [hk, h9, show ¬ (65535 : Int) < (e.length : Int) by omega]
    by_cases hz : shapeS kind = (0, 0, 0)
    · rw [if_pos hz] at hq
      subst hq
      simp only [Option.isSome_none, Bool.false_eq_true, if_false, grdEq_self, bnd_some, hz, if_true, Bool.not_true]
      exact hfin d (by omega)
    · rw [if_neg hz] at hq
      subst hq
      have hk16 : kind ≠ 16 := by
        rintro rfl
        exact hz rfl
      simp only [Option.isSome_some, if_true, Option.getD_some, hz, if_false, grdEq_self]
      rw [wrap_id (x := a + size) (by omega) (by omega)]
      have hrd := data_read_eq hs (a := a) (z := a + size) (v := shapeS kind) t0 (by omega) t1 v0 v1 v2 v3
      rw [hrd, bnd_some]
      generalize hv : shapeS kind = v at *
      obtain ⟨x, y, z⟩ := v
      simp only at *
      have e0 : F_data_parts_whole ([], [], []) = some [] := whole_eq (by simp) (by simp)
      unfold dreadS
      simp only
      have es : a + size - a = size := by omega
      rw [es]
      by_cases hx : size < x
      · rw [if_pos hx, if_pos hx]
        simp only [e0, bnd_some, Bool.not_false, Bool.true_eq_false, if_false]
      · rw [if_neg hx, if_neg hx]
        cases hn : namesW msg y.toNat (a + x) with
        | none => simp only [e0, bnd_some, Bool.not_false, Bool.true_eq_false, if_false]
        | some p =>
          obtain ⟨l, j⟩ := p
          obtain ⟨n1, n2, n3, n4⟩ := namesW_ends hn
          simp only
          by_cases hj : j ≤ a + size
          · simp only [hj, if_true]
            have c1 := cut_len msg a (a + x)
            have c2 := cut_len msg j (a + size)
            rw [whole_eq (by simp only; omega) (by simp only; omega), bnd_some, bnd_some, cut_take ht v0 (by omega)]
            by_cases he : j + z = a + size
            · have he3 : a + size - j = z := by omega
              have he2 : ¬ (j + z ≠ a + size) := by omega
              simp only [he3, decide_true, Bool.not_true, if_true, he2, if_false]
              have := hfin (List.take x.toNat d ++ l.flatten ++ cut msg j (a + size)) (by simp only [List.length_append, List.length_take]; omega)
              rw [this]
              simp [hk16]
            · have he3 : ¬ a + size - j = z := by omega
              simp only [he3, decide_false, Bool.not_false, Bool.true_eq_false, if_false, ne_eq, he, not_false_eq_true, if_true]
          · have he : ¬ j + z = a + size := by omega
            simp only [hj, if_false, e0, bnd_some, Bool.not_false, Bool.true_eq_false, ne_eq, he, not_false_eq_true, if_true]
end Go.Abs

namespace Go.Abs
open Go
theorem beN_bound (l : List UInt8) : ∀ n : Int, 0 ≤ n → 0 ≤ l.foldl (fun n b => 256 * n + (b.toNat : Int)) n ∧ l.foldl (fun n b => 256 * n + (b.toNat : Int)) n < (n + 1) * 256 ^ l.length := by
  induction l with
  | nil => intro n hn; simp; omega
  | cons b r ih =>
    intro n hn
    have hb := byte_lt b
    obtain ⟨h1, h2⟩ := ih (256 * n + (b.toNat : Int)) (by omega)
    refine ⟨h1, Int.lt_of_lt_of_le h2 ?_⟩
    rw [List.length_cons, Int.pow_succ, Int.mul_comm (256 ^ r.length) 256, ← Int.mul_assoc]
    exact Int.mul_le_mul_of_nonneg_right (by omega) (Int.pow_nonneg (by decide))
theorem getS_some {s : List UInt8} {a n : Int} (h0 : 0 ≤ a) (h1 : 1 ≤ n) (h2 : n ≤ 4) (h : a + n ≤ s.length) : ∃ k, getS s a n = some k ∧ 0 ≤ k ∧ k < 256 ^ n.toNat := by
  unfold getS takeS
  rw [if_pos ⟨h1, h2⟩, if_pos (by omega)]
  refine ⟨_, rfl, ?_⟩
  have := beN_bound (List.take n.toNat (List.drop a.toNat s)) 0 (by omega)
  have hl : (List.take n.toNat (List.drop a.toNat s)).length = n.toNat := by simp; omega
  rw [hl] at this
  unfold beN
  omega
theorem getS_none {s : List UInt8} {a n : Int} (h : ¬ a + n ≤ s.length) : getS s a n = none := by
  unfold getS takeS
  split
  · rw [if_neg (by omega)]; rfl
  · rfl
abbrev RRt := List UInt8 × Int × Int × Int × List UInt8
def rr0 : RRt := ([], 0, 0, 0, [])
def recS (msg : List UInt8) (a : Int) : RRt × Int × Int :=
  if (readS msg a).2.2 ≠ 0 then (rr0, 0, (readS msg a).2.2)
  else match getS msg (readS msg a).2.1 2, getS msg ((readS msg a).2.1 + 2) 2, getS msg ((readS msg a).2.1 + 4) 4, getS msg ((readS msg a).2.1 + 8) 2 with
    | some k, some c, some t, some n =>
      if (expS msg ((readS msg a).2.1 + 10) n k).2 ≠ 0 then (rr0, 0, (expS msg ((readS msg a).2.1 + 10) n k).2)
      else (((readS msg a).1, k, c, (if 2147483648 ≤ t then 0 else t), (expS msg ((readS msg a).2.1 + 10) n k).1), (readS msg a).2.1 + 10 + n, 0)
    | _, _, _, _ => (rr0, 0, 2)
theorem record_Decode_eq {msg : List UInt8} (hs : msg.length ≤ 1000000) (a : Int) : F_record_Decode msg a = some (recS msg a) := by
  have hm : maxI = 9223372036854775807 := rfl
  have hs' : (msg.length : Int) ≤ maxI := by omega
  unfold F_record_Decode recS
  rw [comp_Read_eq hs', bnd_some]
  obtain ⟨e1, e2, e3⟩ := readS_ends msg a
  generalize readS msg a = r at *
  obtain ⟨nm, i, e⟩ := r
  simp only at *
  by_cases he : e = 0
  · subst he
    obtain ⟨b0, b1, b2⟩ := e2 rfl
    have hne : ((0 : Int) != 0) = false := rfl
    have w2 : Go.IntKind.i64.wrap (i + 2) = i + 2 := wrap_id (by omega) (by omega)
    have w4 : Go.IntKind.i64.wrap (i + 2 + 2) = i + 4 := by rw [wrap_id (by omega) (by omega)]; omega
    have w8 : Go.IntKind.i64.wrap (i + 4 + 4) = i + 8 := by rw [wrap_id (by omega) (by omega)]; omega
    have w10 : Go.IntKind.i64.wrap (i + 8 + 2) = i + 10 := by rw [wrap_id (by omega) (by omega)]; omega
    simp only [hne, Bool.false_eq_true, if_false, ne_eq, not_true_eq_false, w2, w4, w8, w10, Get_eq hs', bnd_some, grdEq_self]
    cases hk : getS msg i 2 with
    | none => rfl
    | some k =>
      cases hc : getS msg (i + 2) 2 with
      | none => rfl
      | some c =>
        cases hu : getS msg (i + 4) 4 with
        | none => rfl
        | some u =>
          cases hn : getS msg (i + 8) 2 with
          | none => rfl
          | some n =>
            obtain ⟨b3, b4, _, _⟩ := getS_bounds hn
            obtain ⟨n', hn', n0, n1⟩ := getS_some (s := msg) (a := i + 8) (n := 2) (by omega) (by omega) (by omega) (by omega)
            rw [hn] at hn'
            cases hn'
            have p2 : (256 : Int) ^ (2 : Int).toNat = 65536 := by decide
            rw [p2] at n1
            simp only [twoI, Bool.not_true, if_true, Bool.false_eq_true, if_false, data_Expand_eq hs, bnd_some]
            by_cases hu2 : 2147483648 ≤ u
            · have hu3 : 2147483647 < u := by omega
              simp only [hu2, hu3, decide_true, if_true, bnd_some]
              by_cases hx : (expS msg (i + 10) n k).2 = 0
              · simp only [hx, hne, Bool.false_eq_true, if_false, not_true_eq_false, wrap_id (x := i + 10 + n) (by omega) (by omega)]
              · have hx' : ((expS msg (i + 10) n k).2 != 0) = true := by simp [hx]
                simp only [hx', hx, if_true, not_false_eq_true]
                rfl
            · have hu3 : ¬ 2147483647 < u := by omega
              simp only [hu2, hu3, decide_false, Bool.false_eq_true, if_false, bnd_some]
              by_cases hx : (expS msg (i + 10) n k).2 = 0
              · simp only [hx, hne, Bool.false_eq_true, if_false, not_true_eq_false, wrap_id (x := i + 10 + n) (by omega) (by omega)]
              · have hx' : ((expS msg (i + 10) n k).2 != 0) = true := by simp [hx]
                simp only [hx', hx, if_true, not_false_eq_true]
                rfl
  · have hne : (e != 0) = true := by simp [he]
    simp only [hne, if_true, ne_eq, he, not_false_eq_true]
    rfl
end Go.Abs

namespace Go.Abs
open Go
/-- a label with its length ahead -/
def lab (x : List UInt8) : List UInt8 := UInt8.ofNat x.length :: x
/-- labels, one behind the other -/
def flat (L : List (List UInt8)) : List UInt8 := (L.map lab).flatten
def labW : List UInt8 → Option (List (List UInt8))
  | [] => none
  | b :: r => if b = 0 ∧ r = [] then some [] else if 1 ≤ b.toNat ∧ b.toNat ≤ 63 ∧ b.toNat < r.length then (labW (r.drop b.toNat)).map fun L => r.take b.toNat :: L else none
termination_by l => l.length
decreasing_by simp; omega
/-- is it a name? -/
def nameS (n : List UInt8) : Bool := decide (n.length ≤ 255) && (labW n).isSome
def splitS (n : List UInt8) : List (List UInt8) × Bool := if n.length ≤ 255 then (match labW n with | some l => (l, true) | none => ([], false)) else ([], false)
theorem splitS_2 (n : List UInt8) : (splitS n).2 = nameS n := by
  unfold splitS nameS
  by_cases h : n.length ≤ 255
  · simp only [h, if_true, decide_true, Bool.true_and]
    cases labW n <;> rfl
  · simp [h]
theorem split_loop (n : List UInt8) (acc : List (List UInt8)) (hs : (n.length : Int) ≤ 1000000) (hn : acc.length + n.length ≤ 1000000) :
    loopS step_name_split_0 (n, acc) = some (match labW n with | some l => .inr ([0], acc ++ l) | none => if n = [] then .inr ([], acc) else .inl false) := by
  fun_induction labW n generalizing acc with
  | case1 =>
    refine loopS_out ?_
    simp only [step_name_split_0, grdEq_self]
    rfl
  | case2 b r h =>
    obtain ⟨rfl, rfl⟩ := h
    refine loopS_out ?_
    simp only [step_name_split_0, grdEq_self, List.append_nil]
    rfl
  | case3 b r h1 h2 ih =>
    have hb := byte_lt b
    have e1 : (!(b :: r) == [0]) = true := by
      simp only [Bool.not_eq_true', beq_eq_false_iff_ne, ne_eq, List.cons.injEq]
      exact h1
    have hst : step_name_split_0 (b :: r, acc) = some (.inl (r.drop b.toNat, acc ++ [r.take b.toNat])) := by
      have e2 : (b :: r)[0]? = some b := rfl
      simp only [List.length_cons] at hs
      have e3 : decide ((0 : Int) < ((b :: r).length : Int)) = true := by simp
      simp only [step_name_split_0, e3, e1, e2, if_true, bnd_some, grdEq_self, wrap_byte]
      rw [if_pos (by simp; omega), if_pos (by simp; omega), wrap_id (x := (b.toNat : Int) + 1) (by omega) (by omega), if_neg (by simp; omega)]
      simp only [bnd_some]
      rw [wrap_id (x := 1 + (b.toNat : Int)) (by omega) (by omega)]
      have e4 : (1 + (b.toNat : Int)) = ((b.toNat + 1 : Nat) : Int) := by omega
      rw [e4, natOf_nat, grdp (by simp; omega), grdp (by omega), grdp (by unfold roomLim; simp only [List.length_cons] at hn; simp; omega), natOf_nat, grdp (by simp; omega)]
      rfl
    rw [loopS_next hst]
    have hd : (r.drop b.toNat) ≠ [] := by intro h; have := congrArg List.length h; simp at this; omega
    have h := ih (acc ++ [r.take b.toNat]) (by simp only [List.length_cons] at hs; simp; omega) (by simp only [List.length_cons] at hn; simp; omega)
    rw [h]
    cases hr : labW (r.drop b.toNat) with
    | some L => simp
    | none => simp only [hd, if_false, Option.map_none]; rfl
  | case4 b r h1 h2 =>
    refine loopS_out ?_
    have hb := byte_lt b
    simp only [List.length_cons] at hs
    have e1 : (!(b :: r) == [0]) = true := by
      simp only [Bool.not_eq_true', beq_eq_false_iff_ne, ne_eq, List.cons.injEq]
      exact h1
    have e2 : (b :: r)[0]? = some b := rfl
    have e3 : decide ((0 : Int) < ((b :: r).length : Int)) = true := by simp
    simp only [step_name_split_0, e3, e1, e2, if_true, bnd_some, grdEq_self, wrap_byte]
    rw [wrap_id (x := (b.toNat : Int) + 1) (by omega) (by omega)]
    by_cases c1 : (b.toNat : Int) < 1
    · simp only [c1, decide_true, bnd_some]; rfl
    · by_cases c2 : 63 < (b.toNat : Int)
      · simp only [c1, c2, decide_true, decide_false, bnd_some, if_true]; rfl
      · have c3 : ((b :: r).length : Int) ≤ (b.toNat : Int) + 1 := by simp only [List.length_cons]; omega
        simp only [c1, c2, c3, decide_true, decide_false, if_true, bnd_some]; rfl
theorem name_split_eq {n : List UInt8} (hs : (n.length : Int) ≤ maxI) : F_name_split n = some (splitS n) := by
  unfold F_name_split splitS
  by_cases h : 255 < n.length
  · rw [if_pos (by simp; omega), if_neg (by omega)]
  · rw [if_neg (by simp; omega), if_pos (by omega), split_loop n [] (by omega) (by simp; omega), bnd_some]
    cases labW n with
    | some l => simp
    | none =>
      by_cases h0 : n = []
      · subst h0; rfl
      · simp [h0]
theorem name_Check_eq {n : List UInt8} (hs : (n.length : Int) ≤ maxI) : F_name_Check n = some (nameS n) := by
  unfold F_name_Check
  rw [name_split_eq hs, bnd_some, ← splitS_2]
end Go.Abs

namespace Go.Abs
open Go
def inC (n most : Int) : Bool := decide (0 ≤ n) && decide (n ≤ most)
end Go.Abs

namespace Go.Abs
open Go
def nm (L : List (List UInt8)) : List UInt8 := flat L ++ [0]
end Go.Abs

namespace Go.Abs
open Go
end Go.Abs

namespace Go.Abs
open Go
end Go.Abs

namespace Go.Abs
open Go
end Go.Abs
