/- Part of a proof: a machine of plain data, and what the functions come to on it. -/
import Derived.Test.YtlgalckconjljaaMix
set_option linter.unusedSimpArgs false
set_option linter.unusedVariables false
set_option linter.unusedSectionVars false
/- Letters by bits, as bytes: plain laws. -/
namespace Go.Abs
open Go Go.Proofs

def lowB (c : UInt8) : UInt8 := UInt8.ofNat (small1 c.toNat).toNat
def upB (c : UInt8) : UInt8 := UInt8.ofNat (IntKind.wrap .u8 (lowN c - 32)).toNat
def letB (c : UInt8) : Bool := letter1 c.toNat
def greatB (c : UInt8) : Bool := great1 c.toNat
def caseB (b : Bool) (c : UInt8) : UInt8 := if letB c then (if b then upB c else lowB c) else c

theorem let_case (b : Bool) (c : UInt8) : letB (caseB b c) = letB c := by
  have := byte_all (p := fun c => letB (caseB true c) == letB c && letB (caseB false c) == letB c) (by decide +kernel) c
  simp only [Bool.and_eq_true, beq_iff_eq] at this
  cases b
  · exact this.2
  · exact this.1
theorem case_case (b b' : Bool) (c : UInt8) : caseB b (caseB b' c) = caseB b c := by
  have := byte_all (p := fun c => caseB true (caseB true c) == caseB true c && caseB false (caseB true c) == caseB false c && caseB true (caseB false c) == caseB true c && caseB false (caseB false c) == caseB false c) (by decide +kernel) c
  simp only [Bool.and_eq_true, beq_iff_eq] at this
  obtain ⟨⟨⟨h1, h2⟩, h3⟩, h4⟩ := this
  cases b <;> cases b' <;> assumption
theorem great_case (b : Bool) (c : UInt8) (h : letB c = true) : greatB (caseB b c) = b := by
  have := byte_all (p := fun c => !letB c || (greatB (caseB true c) == true && greatB (caseB false c) == false)) (by decide +kernel) c
  simp only [h, Bool.not_true, Bool.false_or, Bool.and_eq_true, beq_iff_eq] at this
  cases b
  · exact this.2
  · exact this.1
theorem case_great (c : UInt8) (h : letB c = true) : caseB (greatB c) c = c := by
  have := byte_all (p := fun c => !letB c || (caseB (greatB c) c == c)) (by decide +kernel) c
  simpa [h] using this
theorem low_case (b : Bool) (c : UInt8) : lowB (caseB b c) = lowB c := by
  have := byte_all (p := fun c => lowB (caseB true c) == lowB c && lowB (caseB false c) == lowB c) (by decide +kernel) c
  simp only [Bool.and_eq_true, beq_iff_eq] at this
  cases b
  · exact this.2
  · exact this.1
theorem case_false (c : UInt8) : caseB false c = lowB c := by
  have := byte_all (p := fun c => caseB false c == lowB c) (by decide +kernel) c
  simpa using this
theorem low_small (c : UInt8) (h : c.toNat ≤ 63) : lowB c = c := by
  have := byte_all (p := fun c => decide (63 < c.toNat) || (lowB c == c)) (by decide +kernel) c
  simp only [Bool.or_eq_true, decide_eq_true_eq, beq_iff_eq] at this
  rcases this with h1 | h1
  · exact absurd h (by omega)
  · exact h1
theorem low_great (c : UInt8) (h : 63 < c.toNat) : 63 < (lowB c).toNat := by
  have := byte_all (p := fun c => decide (c.toNat ≤ 63) || decide (63 < (lowB c).toNat)) (by decide +kernel) c
  simp only [Bool.or_eq_true, decide_eq_true_eq] at this
  rcases this with h1 | h1
  · exact absurd h (by omega)
  · exact h1

/-- letters by the bits of a number, from letter k on -/
def mixN (q : Int) : Nat → List UInt8 → List UInt8
  | _, [] => []
  | k, c :: r => caseB (bitAt q k) c :: mixN q (if letB c then k + 1 else k) r

theorem mixB_case (q : Int) (k : Nat) (c : UInt8) : UInt8.ofNat (mixB q k (lowN c)).toNat = caseB (bitAt q k) c := by
  unfold mixB caseB
  rw [← letter_low]
  cases hb : bitAt q k
  · have := byte_all (p := fun c => UInt8.ofNat (lowN c).toNat == (if letB c then lowB c else c)) (by decide +kernel) c
    simpa using this
  · have := byte_all (p := fun c => UInt8.ofNat (if letter1 c.toNat then IntKind.wrap .u8 (lowN c - 32) else lowN c).toNat == (if letB c then upB c else c)) (by decide +kernel) c
    simpa using this

theorem mixF_N (q : Int) : ∀ (s : List UInt8) (k : Nat), (mixF q k (s.map lowN)).map (fun n => UInt8.ofNat n.toNat) = mixN q k s
  | [], k => rfl
  | c :: r, k => by
    simp only [List.map_cons, mixF, mixN, mixB_case]
    have : mixK k (lowN c) = if letB c then k + 1 else k := by
      unfold mixK letB
      rw [← letter_low]
    rw [this, mixF_N q r]

theorem mix_N (s : List UInt8) (q : Int) (h0 : 0 ≤ q) (h1 : q < 1099511627776) (hc : check1 s = true) : mix1 s q = mixN q 0 s := by
  unfold mix1
  rw [if_neg (by omega), if_pos hc, mixF_N]

theorem mixN_length (q : Int) : ∀ (s : List UInt8) (k : Nat), (mixN q k s).length = s.length
  | [], k => rfl
  | c :: r, k => by simp [mixN, mixN_length q r]

theorem mixN_lows (q : Int) : ∀ (s : List UInt8) (k : Nat), (mixN q k s).map lowB = s.map lowB
  | [], k => rfl
  | c :: r, k => by simp [mixN, mixN_lows q r, low_case]

theorem mixN_twice (q p : Int) : ∀ (s : List UInt8) (k : Nat), mixN q k (mixN p k s) = mixN q k s
  | [], k => rfl
  | c :: r, k => by simp only [mixN, case_case, let_case, mixN_twice q p r]

theorem count_mixN (q : Int) : ∀ (s : List UInt8) (k j : Nat), countF letter1 (mixN q k s) j = countF letter1 s j
  | [], k, j => rfl
  | c :: r, k, j => by
    have e : letter1 (caseB (bitAt q k) c).toNat = letter1 c.toNat := let_case _ c
    have := count_mixN q r (if letB c then k + 1 else k) (if letter1 c.toNat then j + 1 else j)
    simp only [countF, mixN, List.foldl_cons] at this ⊢
    rw [e]
    exact this

theorem splitF_low : ∀ (k : Nat) (l l' : List (List UInt8)) (s : List UInt8), (splitF k l (s.map lowB)).2 = (splitF k l' s).2
  | 0, l, l', s => rfl
  | k + 1, l, l', [] => rfl
  | k + 1, l, l', c :: r => by
    simp only [List.map_cons]
    unfold splitF
    rcases Nat.lt_or_ge 63 c.toNat with h | h
    · have h' := low_great c h
      have e1 : ((c :: r) == [(0 : UInt8)]) = false := by
        have : c ≠ 0 := by rintro rfl; simp at h
        simp [this]
      have e2 : ((lowB c :: r.map lowB) == [(0 : UInt8)]) = false := by
        have : lowB c ≠ 0 := by intro e; rw [e] at h'; simp at h'
        simp [this]
      simp only [e1, e2, Bool.false_eq_true, if_false]
      rw [if_pos (by omega), if_pos (by omega)]
    · rw [low_small c h]
      have e3 : ((c :: r.map lowB) == [(0 : UInt8)]) = ((c :: r) == [(0 : UInt8)]) := by cases r <;> simp
      rw [e3]
      split
      · rfl
      · simp only [List.length_map]
        split
        · rfl
        · rw [← List.map_drop]
          exact splitF_low k _ _ _

theorem check_low (s : List UInt8) : check1 (s.map lowB) = check1 s := by
  unfold check1 split1
  rw [List.length_map]
  split
  · rfl
  · exact splitF_low _ _ _ _

theorem check_mixN (q : Int) (s : List UInt8) (k : Nat) : check1 (mixN q k s) = check1 s := by
  rw [← check_low, mixN_lows, check_low]

theorem lows_low (s : List UInt8) : lows s = s.map lowB := rfl

theorem check_ne {s : List UInt8} (h : check1 s = true) : s ≠ [] := by
  rintro rfl
  revert h
  decide +kernel

/-! ### bits -/

theorem bitAt_nat (Q k : Nat) (h : Q < 1099511627776) : bitAt (Q : Int) k = Q.testBit (k % 40) := by
  unfold bitAt
  have e1 : (min ((k : Int).tmod 40).toNat 64) = k % 40 := by
    have : (k : Int).tmod 40 = ((k % 40 : Nat) : Int) := by
      rw [Int.tmod_eq_emod_of_nonneg (by omega)]; simp
    rw [this]
    simp
    omega
  have epos : (0 : Int) ≤ 2 ^ (k % 40) := by
    have : (2 : Int) ^ (k % 40) = ((2 ^ (k % 40) : Nat) : Int) := by simp
    rw [this]
    exact Int.natCast_nonneg _
  have e2 : (Q : Int).fdiv (2 ^ (k % 40)) = ((Q / 2 ^ (k % 40) : Nat) : Int) := by
    rw [Int.fdiv_eq_ediv_of_nonneg _ epos]
    simp
  have hle : Q / 2 ^ (k % 40) ≤ Q := Nat.div_le_self _ _
  rw [e1, e2]
  have := i64_and_nat (Q / 2 ^ (k % 40)) 1 (by omega) (by omega)
  simp only [Int.natCast_one] at this
  rw [this, Nat.and_one_is_mod, Nat.testBit_eq_decide_div_mod_eq]
  by_cases h1 : Q / 2 ^ (k % 40) % 2 = 1
  · simp [h1]
  · have h0 : Q / 2 ^ (k % 40) % 2 = 0 := by omega
    simp [h0]

theorem bitsN_mul : ∀ (s : List UInt8) (k : Nat), ∃ m, bitsN s k = 2 ^ k * m
  | [], k => ⟨0, rfl⟩
  | c :: r, k => by
    unfold bitsN
    obtain ⟨m, hm⟩ := bitsN_mul r (k + 1)
    obtain ⟨m', hm'⟩ := bitsN_mul r k
    split
    · rw [hm, Nat.pow_succ]
      split
      · exact ⟨1 + 2 * m, by rw [Nat.mul_add, Nat.mul_one, Nat.mul_assoc]⟩
      · exact ⟨2 * m, by rw [Nat.zero_add, Nat.mul_assoc]⟩
    · exact ⟨m', hm'⟩

theorem bitsN_zero : ∀ (s : List UInt8) (k : Nat), 40 ≤ k → bitsN s k = 0
  | [], k, h => rfl
  | c :: r, k, h => by
    unfold bitsN
    rw [bitsN_zero r (k + 1) (by omega), bitsN_zero r k h]
    split
    · rw [if_neg (by omega)]
    · rfl

theorem bitsN_lt : ∀ (s : List UInt8) (k : Nat), k ≤ 40 → bitsN s k + 2 ^ k ≤ 2 ^ 40
  | [], k, h => by
    have : 2 ^ k ≤ 2 ^ 40 := Nat.pow_le_pow_right (by omega) h
    simpa [bitsN] using this
  | c :: r, k, h => by
    unfold bitsN
    have h2 := bitsN_lt r k h
    split
    · by_cases hk : k < 40
      · have h1 := bitsN_lt r (k + 1) (by omega)
        rw [Nat.pow_succ] at h1
        split <;> omega
      · rw [if_neg (by omega), bitsN_zero r (k + 1) (by omega)]
        have : k = 40 := by omega
        subst this
        simp
    · exact h2

/-- the greatness of the letters -/
theorem mixN_back : ∀ (s : List UInt8) (k Q : Nat), Q < 1099511627776 → countF letter1 s k ≤ 40 → (∀ j, k ≤ j → Q.testBit j = (bitsN s k).testBit j) → mixN Q k s = s
  | [], k, Q, hq, hc, h => rfl
  | c :: r, k, Q, hq, hc, h => by
    unfold mixN
    unfold bitsN at h
    cases hl : letB c
    · have hl' : letter1 c.toNat = false := hl
      have e1 : caseB (bitAt Q k) c = c := by simp [caseB, hl]
      rw [e1]
      have hc' : countF letter1 r k ≤ 40 := by simpa [countF, hl'] using hc
      simp only [hl', Bool.false_eq_true, if_false] at h ⊢
      rw [mixN_back r k Q hq hc' h]
    · have hl' : letter1 c.toNat = true := hl
      have hc' : countF letter1 r (k + 1) ≤ 40 := by simpa [countF, hl'] using hc
      have hk : k + 1 ≤ countF letter1 r (k + 1) := by
        have : ∀ (l : List UInt8) (j : Nat), j ≤ countF letter1 l j := by
          intro l
          induction l with
          | nil => intro j; exact Nat.le_refl _
          | cons x l ih =>
            intro j
            have := ih (if letter1 x.toNat then j + 1 else j)
            simp only [countF, List.foldl_cons] at this ⊢
            refine Nat.le_trans ?_ this
            split <;> omega
        exact this r (k + 1)
      have hk40 : k < 40 := by omega
      obtain ⟨m, hm⟩ := bitsN_mul r (k + 1)
      simp only [hl', if_true, hk40, true_and] at h ⊢
      have hbk : ∀ j, k < j → ((if great1 c.toNat = true then 2 ^ k else 0) + bitsN r (k + 1)).testBit j = (bitsN r (k + 1)).testBit j := by
        intro j hj
        split
        · have e := Nat.two_pow_add_eq_or_of_lt (i := k + 1) (b := 2 ^ k) (Nat.pow_lt_pow_right (by omega) (by omega)) m
          rw [hm, Nat.add_comm, e, Nat.testBit_or, Nat.testBit_two_pow]
          have : ¬ k = j := by omega
          simp [this]
        · rw [Nat.zero_add]
      have hb0 : ((if great1 c.toNat = true then 2 ^ k else 0) + bitsN r (k + 1)).testBit k = great1 c.toNat := by
        have hz : (2 ^ (k + 1) * m).testBit k = false := by
          rw [Nat.testBit_two_pow_mul]
          have : ¬ k ≥ k + 1 := by omega
          simp only [this, decide_false, Bool.false_and]
        cases hg : great1 c.toNat
        · simp [hm, hz]
        · have e := Nat.two_pow_add_eq_or_of_lt (i := k + 1) (b := 2 ^ k) (Nat.pow_lt_pow_right (by omega) (by omega)) m
          simp only [if_true]
          rw [hm, Nat.add_comm, e, Nat.testBit_or, Nat.testBit_two_pow]
          simp
      have e1 : caseB (bitAt Q k) c = c := by
        rw [bitAt_nat Q k hq, Nat.mod_eq_of_lt hk40, h k (Nat.le_refl _), hb0]
        exact case_great c hl
      rw [e1, mixN_back r (k + 1) Q hq hc' (fun j hj => (h j (by omega)).trans (hbk j (by omega)))]
end Go.Abs

/- The plain laws of MixBack, MixApart, MixLow. -/
namespace Go.Abs
open Go Go.Proofs

theorem bits_range (s : List UInt8) : ¬ bits1 s < 0 ∧ ¬ 1099511627776 ≤ bits1 s := by
  rw [bits_N]
  have h := bitsN_lt s 0 (by omega)
  simp at h
  split <;> omega

theorem mix_empty (s : List UInt8) (q : Int) (h : q < 0 ∨ 1099511627776 ≤ q) : mix1 s q = [] := by simp only [mix1, h, if_true]

theorem mix_bits (s : List UInt8) (hc : check1 s = true) (hl : ¬ 40 < (letters1 s : Int)) : mix1 s (bits1 s) = s := by
  have hb := bits_range s
  have hl' : countF letter1 s 0 ≤ 40 := by
    simp only [letters1, hc, if_true] at hl
    omega
  have hq := bitsN_lt s 0 (by omega)
  rw [mix_N s _ (by omega) (by omega) hc, bits_N, if_pos hc]
  exact mixN_back s 0 (bitsN s 0) (by simp at hq; omega) hl' (fun j _ => rfl)

theorem mix_facts (s : List UInt8) (q : Int) (hc : check1 s = true) (h0 : ¬ q < 0) (h1 : ¬ 1099511627776 ≤ q) :
    (mix1 s q).length = s.length ∧ ((mix1 s q == []) = false) ∧ (mix1 s q).isEmpty = false ∧ check1 (mix1 s q) = true ∧ lows (mix1 s q) = lows s ∧ letters1 (mix1 s q) = letters1 s ∧ (∀ p, mix1 (mix1 s q) p = mix1 s p) := by
  have e := mix_N s q (by omega) (by omega) hc
  have hl : (mix1 s q).length = s.length := by rw [e, mixN_length]
  have hn : mix1 s q ≠ [] := by
    intro h
    rw [h] at hl
    exact check_ne hc (List.eq_nil_of_length_eq_zero hl.symm)
  have hc' : check1 (mix1 s q) = true := by rw [e, check_mixN, hc]
  refine ⟨hl, by simpa using hn, by simpa using hn, hc', by rw [e, lows_low, lows_low, mixN_lows], ?_, fun p => ?_⟩
  · simp only [letters1, hc, hc', if_true]
    rw [e, count_mixN]
  · by_cases hp : p < 0 ∨ 1099511627776 ≤ p
    · rw [mix_empty _ _ hp, mix_empty _ _ hp]
    · rw [mix_N _ p (by omega) (by omega) hc', mix_N s p (by omega) (by omega) hc, e, mixN_twice]

theorem back_cases (s : List UInt8) (q : Int) :
    (600 < (s.length : Int)) ∨
    (¬ 600 < (s.length : Int) ∧ s.length ≤ 1048576 ∧ refCheck1 s = false) ∨
    (¬ 600 < (s.length : Int) ∧ s.length ≤ 1048576 ∧ refCheck1 s = true ∧ mix1 s q = [] ∧ q < 0 ∧ ¬ bits1 s < 0 ∧ ¬ 1099511627776 ≤ bits1 s ∧ 40 < (letters1 s : Int)) ∨
    (¬ 600 < (s.length : Int) ∧ s.length ≤ 1048576 ∧ refCheck1 s = true ∧ mix1 s q = [] ∧ q < 0 ∧ ¬ bits1 s < 0 ∧ ¬ 1099511627776 ≤ bits1 s ∧ ¬ 40 < (letters1 s : Int) ∧ mix1 s (bits1 s) = s) ∨
    (¬ 600 < (s.length : Int) ∧ s.length ≤ 1048576 ∧ refCheck1 s = true ∧ mix1 s q = [] ∧ ¬ q < 0 ∧ 1099511627776 ≤ q ∧ ¬ bits1 s < 0 ∧ ¬ 1099511627776 ≤ bits1 s ∧ 40 < (letters1 s : Int)) ∨
    (¬ 600 < (s.length : Int) ∧ s.length ≤ 1048576 ∧ refCheck1 s = true ∧ mix1 s q = [] ∧ ¬ q < 0 ∧ 1099511627776 ≤ q ∧ ¬ bits1 s < 0 ∧ ¬ 1099511627776 ≤ bits1 s ∧ ¬ 40 < (letters1 s : Int) ∧ mix1 s (bits1 s) = s) ∨
    (¬ 600 < (s.length : Int) ∧ s.length ≤ 1048576 ∧ refCheck1 s = true ∧ (mix1 s q).length ≤ 1048576 ∧ ((mix1 s q == []) = false) ∧ (mix1 s q).isEmpty = false ∧ refSame1 s (mix1 s q) = true ∧ letters1 (mix1 s q) = letters1 s ∧ mix1 (mix1 s q) q = mix1 s q ∧
      ¬ q < 0 ∧ ¬ 1099511627776 ≤ q ∧ ¬ bits1 s < 0 ∧ ¬ 1099511627776 ≤ bits1 s ∧ 40 < (letters1 s : Int)) ∨
    (¬ 600 < (s.length : Int) ∧ s.length ≤ 1048576 ∧ refCheck1 s = true ∧ (mix1 s q).length ≤ 1048576 ∧ ((mix1 s q == []) = false) ∧ (mix1 s q).isEmpty = false ∧ refSame1 s (mix1 s q) = true ∧ letters1 (mix1 s q) = letters1 s ∧ mix1 (mix1 s q) q = mix1 s q ∧
      ¬ q < 0 ∧ ¬ 1099511627776 ≤ q ∧ ¬ bits1 s < 0 ∧ ¬ 1099511627776 ≤ bits1 s ∧ ¬ 40 < (letters1 s : Int) ∧ mix1 s (bits1 s) = s ∧ echoes1 s (mix1 s q) = (bits1 (mix1 s q) == bits1 s)) := by
  by_cases h : 600 < (s.length : Int)
  · exact .inl h
  refine .inr ?_
  have hs : s.length ≤ 1048576 := by omega
  cases hc : refCheck1 s
  · exact .inl ⟨h, hs, rfl⟩
  refine .inr ?_
  have hc1 : check1 s = true := by rw [check_ref]; exact hc
  obtain ⟨b1, b2⟩ := bits_range s
  by_cases h0 : q < 0
  · have he := mix_empty s q (.inl h0)
    by_cases hl : 40 < (letters1 s : Int)
    · exact .inl ⟨h, hs, rfl, he, h0, b1, b2, hl⟩
    · exact .inr (.inl ⟨h, hs, rfl, he, h0, b1, b2, hl, mix_bits s hc1 hl⟩)
  refine .inr (.inr ?_)
  by_cases h1 : 1099511627776 ≤ q
  · have he := mix_empty s q (.inr h1)
    by_cases hl : 40 < (letters1 s : Int)
    · exact .inl ⟨h, hs, rfl, he, h0, h1, b1, b2, hl⟩
    · exact .inr (.inl ⟨h, hs, rfl, he, h0, h1, b1, b2, hl, mix_bits s hc1 hl⟩)
  refine .inr (.inr ?_)
  obtain ⟨f1, f2, f3, f4, f5, f6, f7⟩ := mix_facts s q hc1 h0 h1
  have hsame : refSame1 s (mix1 s q) = true := by simp [refSame1, ← check_ref, hc1, f4, f5]
  by_cases hl : 40 < (letters1 s : Int)
  · exact .inl ⟨h, hs, rfl, by omega, f2, f3, hsame, f6, f7 q, h0, h1, b1, b2, hl⟩
  · refine .inr ⟨h, hs, rfl, by omega, f2, f3, hsame, f6, f7 q, h0, h1, b1, b2, hl, mix_bits s hc1 hl, ?_⟩
    simp only [echoes1, hc1, Bool.true_and]
    rw [Bool.eq_iff_iff, beq_iff_eq, beq_iff_eq]
    constructor
    · intro e; rw [← e]
    · intro e
      have h2 := mix_bits (mix1 s q) f4 (by rw [f6]; exact hl)
      rw [e, f7, mix_bits s hc1 hl] at h2
      exact h2
end Go.Abs

/- wellspringlaw03.MixBack. -/
namespace Go.Abs
open Go Go.Proofs

theorem call17 : callableB Try.prog 17 = true := by kernel_rfl
theorem call18 : callableB Try.prog 18 = true := by kernel_rfl


def backA : List V → Option V
  | [.str s, .int .i64 q] => some (.bool true)
  | _ => none

noncomputable def C4 : Cfg := .of [] ([(7, liveA), (8, lettersA), (10, mixA), (12, bitsA), (14, echoesA), (16, refCheckA), (17, refSameA)].map fun p => (p.1, ans p.2))
theorem X4 : ExtOK Try.prog C4 := ext_ans mixed (by
  intro p hp
  simp only [List.mem_cons, List.not_mem_nil, or_false] at hp
  rcases hp with rfl | rfl | rfl | rfl | rfl | rfl | rfl
  · exact live_sound
  · exact letters_sound
  · exact mix_sound
  · exact bits_sound
  · exact echoes_sound
  · exact refCheck_sound
  · exact refSame_sound) []
theorem told4_7 (k : Nat) (args : List V) (st : St) : retOf (run C4 Try.prog (k + 1) (.call 7 args st)) = ans liveA args st := told rfl
theorem told4_8 (k : Nat) (args : List V) (st : St) : retOf (run C4 Try.prog (k + 1) (.call 8 args st)) = ans lettersA args st := told rfl
theorem told4_10 (k : Nat) (args : List V) (st : St) : retOf (run C4 Try.prog (k + 1) (.call 10 args st)) = ans mixA args st := told rfl
theorem told4_12 (k : Nat) (args : List V) (st : St) : retOf (run C4 Try.prog (k + 1) (.call 12 args st)) = ans bitsA args st := told rfl
theorem told4_14 (k : Nat) (args : List V) (st : St) : retOf (run C4 Try.prog (k + 1) (.call 14 args st)) = ans echoesA args st := told rfl
theorem told4_16 (k : Nat) (args : List V) (st : St) : retOf (run C4 Try.prog (k + 1) (.call 16 args st)) = ans refCheckA args st := told rfl
theorem told4_17 (k : Nat) (args : List V) (st : St) : retOf (run C4 Try.prog (k + 1) (.call 17 args st)) = ans refSameA args st := told rfl

set_option maxHeartbeats 8000000 in
theorem back_sound : Sound Try.prog 4 (ans backA) := by
  refine sound_ans X4 fun args st v h => ?_
  unfold backA at h
  split at h
  · rename_i s q
    simp only [Option.some.injEq] at h
    subst h
    have key : ∃ s2, Runs C4 Try.prog (.code (Try.f4.body.getD .skip) ([.str s, .int .i64 q] ++ List.replicate 80 (.tup [])) { st with lo := st.heap.length, flo := st.fams.length, kills := [] }) (.out .ret s2 { st with lo := st.heap.length, flo := st.fams.length, kills := [] }) ∧ resB Try.prog { st with lo := st.heap.length, flo := st.fams.length, kills := [] } s2 Try.f4.results = some (.bool true) := by
      rw [Try.results4]
      simp only [Try.f4, Option.getD_some, List.replicate, List.cons_append, List.nil_append]
      rcases back_cases s q with hc | hc | hc | hc | hc | hc | hc | hc
      all_goals
        apply Exists.intro
        apply And.intro
        · apply Runs.of 40
          simp [run_seq, run_cond, run_block, run_region, run_skip, run_exit, run_rett, ans, killAll, V.kills, opsRun, opRun, wantedB, aop, ev, minStep, maxStep, List.foldl, eqOk, eqB, Try.underlying4, ofVal, mk, mk3, mkS, putS, binB, builtinB, Try.underlying5, Try.underlying3, Try.underlying9, Try.underlying35, told4_7, told4_8, told4_10, told4_12, told4_14, told4_16, told4_17, call7, call8, call10, call12, call14, call16, call17, liveA, lettersA, mixA, bitsA, echoesA, refCheckA, refSameA, hc]
          first | exact ⟨rfl, rfl⟩ | rfl
        · simp [resB, hc]
    obtain ⟨s2, k1, k2⟩ := key
    refine Runs.call_pure (args := [.str s, .int .i64 q]) (fn := Try.f4) (c := Try.f4.body.getD .skip) rfl Try.func4 rfl (by rw [Try.ntmps4]; simp) rfl k1 (.inr rfl) k2 ?_ ?_
    · simp [V.under, V.unders]
    · simp [V.freeze, V.freezes]
  · simp at h

end Go.Abs

/- The plain laws of MixApart, MixLow. -/
namespace Go.Abs
open Go Go.Proofs

theorem count_ge : ∀ (l : List UInt8) (j : Nat), j ≤ countF letter1 l j
  | [], j => Nat.le_refl _
  | x :: l, j => by
    have := count_ge l (if letter1 x.toNat then j + 1 else j)
    simp only [countF, List.foldl_cons] at this ⊢
    refine Nat.le_trans ?_ this
    split <;> omega

theorem case_inj (a b : Bool) (c : UInt8) (h : letB c = true) (e : caseB a c = caseB b c) : a = b := by
  rw [← great_case a c h, ← great_case b c h, e]

theorem mixN_eq (A B : Nat) (hA : A < 1099511627776) (hB : B < 1099511627776) : ∀ (s : List UInt8) (k : Nat),
    mixN A k s = mixN B k s ↔ ∀ j, k ≤ j → j < countF letter1 s k → A.testBit (j % 40) = B.testBit (j % 40)
  | [], k => by simp [mixN, countF]; omega
  | c :: r, k => by
    unfold mixN
    have hn : (if letB c then k + 1 else k) = (if letter1 c.toNat then k + 1 else k) := rfl
    have hcount : countF letter1 (c :: r) k = countF letter1 r (if letter1 c.toNat then k + 1 else k) := rfl
    rw [hn, hcount, List.cons.injEq, mixN_eq A B hA hB r]
    cases hl : letter1 c.toNat
    · have e : ∀ b, caseB b c = c := fun b => by simp [caseB, letB, hl]
      simp [e]
    · simp only [if_true]
      constructor
      · rintro ⟨h1, h2⟩ j hj hlt
        rcases Nat.lt_or_ge k j with h | h
        · exact h2 j h hlt
        · have : j = k := by omega
          subst this
          have := case_inj _ _ c hl h1
          rwa [bitAt_nat A _ hA, bitAt_nat B _ hB] at this
      · intro h
        refine ⟨?_, fun j hj hlt => h j (by omega) hlt⟩
        have := h k (Nat.le_refl _) (by have := count_ge r (k + 1); omega)
        rw [bitAt_nat A _ hA, bitAt_nat B _ hB, this]

theorem mod_bits (A B k : Nat) : A % 2 ^ k = B % 2 ^ k ↔ ∀ j, j < k → A.testBit j = B.testBit j := by
  constructor
  · intro h j hj
    have e := congrArg (fun x => x.testBit j) h
    simpa [Nat.testBit_mod_two_pow, hj] using e
  · intro h
    apply Nat.eq_of_testBit_eq
    intro j
    rw [Nat.testBit_mod_two_pow, Nat.testBit_mod_two_pow]
    by_cases hj : j < k
    · rw [h j hj]
    · simp [hj]

/-- what is left of a number by its lowest bits -/
theorem and_low (A k : Nat) (hA : A < 1099511627776) (hk : k ≤ 40) : bits .and .i64 (A : Int) (IntKind.wrap .i64 (IntKind.wrap .i64 (2 ^ (min ((k : Int)).toNat 64)) - 1)) = ((A % 2 ^ k : Nat) : Int) := by
  have p : 2 ^ k ≤ 2 ^ 40 := Nat.pow_le_pow_right (by omega) hk
  have p2 : 0 < 2 ^ k := Nat.pos_of_ne_zero (by simp)
  have e1 : min ((k : Int)).toNat 64 = k := by simp; omega
  have e2 : (2 : Int) ^ k = ((2 ^ k : Nat) : Int) := by simp
  have w1 : IntKind.wrap .i64 ((2 ^ k : Nat) : Int) = ((2 ^ k : Nat) : Int) := wrap64 (by omega) (by omega)
  rw [e1, e2, w1, wrap64 (by omega) (by omega)]
  have e3 : ((2 ^ k : Nat) : Int) - 1 = ((2 ^ k - 1 : Nat) : Int) := by omega
  rw [e3, i64_and_nat A (2 ^ k - 1) (by omega) (by omega), Nat.and_two_pow_sub_one_eq_mod]

theorem apart_law (s : List UInt8) (a b : Int) (hc : check1 s = true) (a0 : ¬ a < 0) (b0 : ¬ b < 0) (a1 : ¬ 1099511627776 ≤ a) (b1 : ¬ 1099511627776 ≤ b) :
    (mix1 s a == mix1 s b) = (bits .and .i64 a (IntKind.wrap .i64 (IntKind.wrap .i64 (2 ^ (min (if (40 : Int) < letters1 s then (40 : Int) else letters1 s).toNat 64)) - 1)) ==
      bits .and .i64 b (IntKind.wrap .i64 (IntKind.wrap .i64 (2 ^ (min (if (40 : Int) < letters1 s then (40 : Int) else letters1 s).toNat 64)) - 1))) := by
  obtain ⟨A, rfl⟩ := Int.eq_ofNat_of_zero_le (by omega : 0 ≤ a)
  obtain ⟨B, rfl⟩ := Int.eq_ofNat_of_zero_le (by omega : 0 ≤ b)
  have hk : (if (40 : Int) < letters1 s then (40 : Int) else letters1 s) = ((min (letters1 s) 40 : Nat) : Int) := by
    split <;> omega
  rw [hk, and_low A _ (by omega) (by omega), and_low B _ (by omega) (by omega), mix_N s _ (by omega) (by omega) hc, mix_N s _ (by omega) (by omega) hc]
  have hl : letters1 s = countF letter1 s 0 := by simp [letters1, hc]
  rw [Bool.eq_iff_iff, beq_iff_eq, beq_iff_eq, mixN_eq A B (by omega) (by omega), Int.ofNat_inj, mod_bits]
  constructor
  · intro h j hj
    have := h j (by omega) (by omega)
    rwa [Nat.mod_eq_of_lt (by omega)] at this
  · intro h j _ hj
    exact h (j % 40) (by
      rcases Nat.lt_or_ge (letters1 s) 40 with h1 | h1
      · have := Nat.mod_le j 40; omega
      · have := Nat.mod_lt j (by omega : 0 < 40); omega)

theorem apart_cases (s : List UInt8) (a b : Int) :
    (600 < (s.length : Int)) ∨
    (¬ 600 < (s.length : Int) ∧ s.length ≤ 1048576 ∧ refCheck1 s = false) ∨
    (¬ 600 < (s.length : Int) ∧ s.length ≤ 1048576 ∧ refCheck1 s = true ∧ a < 0) ∨
    (¬ 600 < (s.length : Int) ∧ s.length ≤ 1048576 ∧ refCheck1 s = true ∧ ¬ a < 0 ∧ b < 0) ∨
    (¬ 600 < (s.length : Int) ∧ s.length ≤ 1048576 ∧ refCheck1 s = true ∧ ¬ a < 0 ∧ ¬ b < 0 ∧ 1099511627776 ≤ a) ∨
    (¬ 600 < (s.length : Int) ∧ s.length ≤ 1048576 ∧ refCheck1 s = true ∧ ¬ a < 0 ∧ ¬ b < 0 ∧ ¬ 1099511627776 ≤ a ∧ 1099511627776 ≤ b) ∨
    (¬ 600 < (s.length : Int) ∧ s.length ≤ 1048576 ∧ refCheck1 s = true ∧ ¬ a < 0 ∧ ¬ b < 0 ∧ ¬ 1099511627776 ≤ a ∧ ¬ 1099511627776 ≤ b ∧ 0 ≤ (if (40 : Int) < letters1 s then (40 : Int) else letters1 s) ∧ ¬ (if (40 : Int) < letters1 s then (40 : Int) else letters1 s) < 0 ∧
      (mix1 s a == mix1 s b) = (bits .and .i64 a (IntKind.wrap .i64 (IntKind.wrap .i64 (2 ^ (min (if (40 : Int) < letters1 s then (40 : Int) else letters1 s).toNat 64)) - 1)) ==
      bits .and .i64 b (IntKind.wrap .i64 (IntKind.wrap .i64 (2 ^ (min (if (40 : Int) < letters1 s then (40 : Int) else letters1 s).toNat 64)) - 1)))) := by
  by_cases h : 600 < (s.length : Int)
  · exact .inl h
  have hs : s.length ≤ 1048576 := by omega
  cases hc : refCheck1 s
  · exact .inr (.inl ⟨h, hs, rfl⟩)
  have hc1 : check1 s = true := by rw [check_ref]; exact hc
  by_cases a0 : a < 0
  · exact .inr (.inr (.inl ⟨h, hs, rfl, a0⟩))
  by_cases b0 : b < 0
  · exact .inr (.inr (.inr (.inl ⟨h, hs, rfl, a0, b0⟩)))
  by_cases a1 : 1099511627776 ≤ a
  · exact .inr (.inr (.inr (.inr (.inl ⟨h, hs, rfl, a0, b0, a1⟩))))
  by_cases b1 : 1099511627776 ≤ b
  · exact .inr (.inr (.inr (.inr (.inr (.inl ⟨h, hs, rfl, a0, b0, a1, b1⟩)))))
  refine .inr (.inr (.inr (.inr (.inr (.inr ⟨h, hs, rfl, a0, b0, a1, b1, ?_, ?_, apart_law s a b hc1 a0 b0 a1 b1⟩)))))
  · split <;> omega
  · split <;> omega

/-! ### MixLow -/

theorem high_bits : ∀ (s : List UInt8) (k : Nat), (∀ c ∈ mixN 1099511627775 k s, ¬ (97 ≤ c.toNat ∧ c.toNat ≤ 122)) ∧ bitsN (mixN 1099511627775 k s) k = 2 ^ (min (countF letter1 s k) 40) - 2 ^ (min k 40)
  | [], k => by simp [mixN, bitsN, countF]
  | c :: r, k => by
    have hb : bitAt 1099511627775 k = true := by
      have e : bitAt 1099511627775 k = Nat.testBit 1099511627775 (k % 40) := bitAt_nat 1099511627775 k (by omega)
      rw [e]
      have : ∀ j : Fin 40, Nat.testBit 1099511627775 j.val = true := by decide +kernel
      exact this ⟨k % 40, Nat.mod_lt _ (by omega)⟩
    unfold mixN
    rw [hb]
    obtain ⟨h1, h2⟩ := high_bits r (if letB c then k + 1 else k)
    constructor
    · intro x hx
      rcases List.mem_cons.1 hx with rfl | hx
      · have := byte_all (p := fun c => !(decide (97 ≤ (caseB true c).toNat) && decide ((caseB true c).toNat ≤ 122))) (by decide +kernel) c
        simp only [Bool.not_eq_true', Bool.and_eq_false_iff, decide_eq_false_iff_not] at this
        omega
      · exact h1 x hx
    · have hcount : countF letter1 (c :: r) k = countF letter1 r (if letter1 c.toNat then k + 1 else k) := rfl
      rw [hcount]
      unfold bitsN
      have e : letter1 (caseB true c).toNat = letter1 c.toNat := let_case true c
      rw [e]
      cases hl : letter1 c.toNat
      · simp only [letB, hl, Bool.false_eq_true, if_false] at h2 ⊢
        exact h2
      · have hg : great1 (caseB true c).toNat = true := great_case true c hl
        simp only [letB, hl, if_true, hg, and_true] at h2 ⊢
        rw [h2]
        have hge := count_ge r (k + 1)
        by_cases hk : k < 40
        · have m1 : min (k + 1) 40 = k + 1 := by omega
          have m2 : min k 40 = k := by omega
          have hp : 2 ^ (k + 1) ≤ 2 ^ (min (countF letter1 r (k + 1)) 40) := Nat.pow_le_pow_right (by omega) (by omega)
          rw [m1, m2, if_pos hk]
          rw [Nat.pow_succ] at hp ⊢
          omega
        · have m1 : min (k + 1) 40 = 40 := by omega
          have m2 : min k 40 = 40 := by omega
          rw [m1, m2, if_neg hk]
          omega

theorem mixN_zero : ∀ (s : List UInt8) (k : Nat), mixN 0 k s = s.map lowB
  | [], k => rfl
  | c :: r, k => by
    have hb : bitAt 0 k = false := by
      have e := bitAt_nat 0 k (by omega)
      simp only [Int.natCast_zero] at e
      rw [e]
      simp
    unfold mixN
    rw [hb, case_false, mixN_zero r, List.map_cons]

theorem bitsN_low : ∀ (s : List UInt8) (k : Nat), bitsN (s.map lowB) k = 0
  | [], k => rfl
  | c :: r, k => by
    simp only [List.map_cons]
    unfold bitsN
    rw [← case_false]
    have e : letter1 (caseB false c).toNat = letter1 c.toNat := let_case false c
    rw [e, bitsN_low r, bitsN_low r]
    cases hl : letter1 c.toNat
    · rfl
    · have hg : great1 (caseB false c).toNat = false := great_case false c hl
      simp [hg]

theorem low_law (s : List UInt8) (hc : check1 s = true) : mix1 s 0 = refLow1 s ∧ bits1 (mix1 s 0) = 0 := by
  have e : mix1 s 0 = s.map lowB := by rw [mix_N s 0 (by omega) (by omega) hc, mixN_zero]
  have hc2 : refCheck1 s = true := by rw [← check_ref]; exact hc
  refine ⟨by rw [e]; simp [refLow1, hc2, lows_low], ?_⟩
  rw [bits_N, e, bitsN_low]
  split <;> rfl

theorem high_law (s : List UInt8) (hc : check1 s = true) : (∀ c ∈ mix1 s 1099511627775, ¬ (97 ≤ c.toNat ∧ c.toNat ≤ 122)) ∧
    bits1 (mix1 s 1099511627775) = IntKind.wrap .i64 (IntKind.wrap .i64 (2 ^ (min (if (40 : Int) < refLetters1 s then (40 : Int) else refLetters1 s).toNat 64)) - 1) := by
  obtain ⟨f1, f2, f3, f4, f5, f6, f7⟩ := mix_facts s 1099511627775 hc (by omega) (by omega)
  have e := mix_N s 1099511627775 (by omega) (by omega) hc
  obtain ⟨h1, h2⟩ := high_bits s 0
  rw [bits_N, f4, if_pos rfl, e]
  refine ⟨h1, ?_⟩
  rw [h2]
  have hk : (if (40 : Int) < refLetters1 s then (40 : Int) else refLetters1 s) = ((min (countF letter1 s 0) 40 : Nat) : Int) := by
    have : refLetters1 s = countF letter1 s 0 := by rw [← letters_ref]; simp [letters1, hc]
    rw [this]
    split <;> omega
  rw [hk]
  generalize hm : min (countF letter1 s 0) 40 = m
  have hm40 : m ≤ 40 := by omega
  have p : 2 ^ m ≤ 2 ^ 40 := Nat.pow_le_pow_right (by omega) hm40
  have p2 : 0 < 2 ^ m := Nat.pos_of_ne_zero (by simp)
  have e1 : min ((m : Nat) : Int).toNat 64 = m := by simp; omega
  have e2 : (2 : Int) ^ m = ((2 ^ m : Nat) : Int) := by simp
  have w1 : IntKind.wrap .i64 ((2 ^ m : Nat) : Int) = ((2 ^ m : Nat) : Int) := wrap64 (by omega) (by omega)
  rw [e1, e2, w1, wrap64 (by omega) (by omega)]
  simp
  omega
end Go.Abs

/- wellspringlaw03.MixApart. -/
namespace Go.Abs
open Go Go.Proofs


def apartA : List V → Option V
  | [.str s, .int .i64 a, .int .i64 b] => some (.bool true)
  | _ => none

noncomputable def C5 : Cfg := .of [] ([(7, liveA), (8, lettersA), (10, mixA), (16, refCheckA)].map fun p => (p.1, ans p.2))
theorem X5 : ExtOK Try.prog C5 := ext_ans mixed (by
  intro p hp
  simp only [List.mem_cons, List.not_mem_nil, or_false] at hp
  rcases hp with rfl | rfl | rfl | rfl
  · exact live_sound
  · exact letters_sound
  · exact mix_sound
  · exact refCheck_sound) []
theorem told5_7 (k : Nat) (args : List V) (st : St) : retOf (run C5 Try.prog (k + 1) (.call 7 args st)) = ans liveA args st := told rfl
theorem told5_8 (k : Nat) (args : List V) (st : St) : retOf (run C5 Try.prog (k + 1) (.call 8 args st)) = ans lettersA args st := told rfl
theorem told5_10 (k : Nat) (args : List V) (st : St) : retOf (run C5 Try.prog (k + 1) (.call 10 args st)) = ans mixA args st := told rfl
theorem told5_16 (k : Nat) (args : List V) (st : St) : retOf (run C5 Try.prog (k + 1) (.call 16 args st)) = ans refCheckA args st := told rfl

theorem draw5 : drawB C5 Try.prog ((regions (Try.f5.body.getD .skip)).getD 6 #[]) = true := by kernel_rfl
set_option maxHeartbeats 8000000 in
theorem apart_sound : Sound Try.prog 5 (ans apartA) := by
  refine sound_ans X5 fun args st v h => ?_
  unfold apartA at h
  split at h
  · rename_i s a b
    simp only [Option.some.injEq] at h
    subst h
    have key : ∃ s2, Runs C5 Try.prog (.code (Try.f5.body.getD .skip) ([.str s, .int .i64 a, .int .i64 b] ++ List.replicate 59 (.tup [])) { st with lo := st.heap.length, flo := st.fams.length, kills := [] }) (.out .ret s2 { st with lo := st.heap.length, flo := st.fams.length, kills := [] }) ∧ resB Try.prog { st with lo := st.heap.length, flo := st.fams.length, kills := [] } s2 Try.f5.results = some (.bool true) := by
      rw [Try.results5]
      simp only [Try.f5, Option.getD_some, List.replicate, List.cons_append, List.nil_append]
      have d := draw5
      have w64 : IntKind.i64.bits = 64 := rfl
      simp only [regions, Try.f5, Option.getD_some, List.cons_append, List.nil_append, List.append_nil, List.getD_cons_succ, List.getD_cons_zero] at d
      rcases apart_cases s a b with hc | hc | hc | hc | hc | hc | hc
      all_goals
        apply Exists.intro
        apply And.intro
        · apply Runs.of 40
          simp [run_seq, run_cond, run_block, run_region, run_skip, run_exit, run_rett, ans, killAll, V.kills, opsRun, opRun, wantedB, aop, ev, minStep, maxStep, List.foldl, eqOk, eqB, Try.underlying4, run_regionD d, ofVal, mk, mk3, mkS, putS, binB, builtinB, Try.underlying5, Try.underlying3, Try.underlying9, Try.underlying35, told5_7, told5_8, told5_10, told5_16, call7, call8, call10, call16, liveA, lettersA, mixA, refCheckA, hc, w64]
          first | exact ⟨rfl, rfl⟩ | rfl
        · simp [resB, hc, w64]
    obtain ⟨s2, k1, k2⟩ := key
    refine Runs.call_pure (args := [.str s, .int .i64 a, .int .i64 b]) (fn := Try.f5) (c := Try.f5.body.getD .skip) rfl Try.func5 rfl (by rw [Try.ntmps5]; simp) rfl k1 (.inr rfl) k2 ?_ ?_
    · simp [V.under, V.unders]
    · simp [V.freeze, V.freezes]
  · simp at h

end Go.Abs

/- wellspringlaw03.MixLow. -/
namespace Go.Abs
open Go Go.Proofs

noncomputable def C6 : Cfg := .of [] ([(7, liveA), (8, lettersA), (9, refLettersA), (10, mixA), (12, bitsA), (16, refCheckA), (18, refLowA)].map fun p => (p.1, ans p.2))
theorem X6 : ExtOK Try.prog C6 := ext_ans mixed (by
  intro p hp
  simp only [List.mem_cons, List.not_mem_nil, or_false] at hp
  rcases hp with rfl | rfl | rfl | rfl | rfl | rfl | rfl
  · exact live_sound
  · exact letters_sound
  · exact refLetters_sound
  · exact mix_sound
  · exact bits_sound
  · exact refCheck_sound
  · exact refLow_sound) []
theorem told6_7 (k : Nat) (args : List V) (st : St) : retOf (run C6 Try.prog (k + 1) (.call 7 args st)) = ans liveA args st := told rfl
theorem told6_8 (k : Nat) (args : List V) (st : St) : retOf (run C6 Try.prog (k + 1) (.call 8 args st)) = ans lettersA args st := told rfl
theorem told6_9 (k : Nat) (args : List V) (st : St) : retOf (run C6 Try.prog (k + 1) (.call 9 args st)) = ans refLettersA args st := told rfl
theorem told6_10 (k : Nat) (args : List V) (st : St) : retOf (run C6 Try.prog (k + 1) (.call 10 args st)) = ans mixA args st := told rfl
theorem told6_12 (k : Nat) (args : List V) (st : St) : retOf (run C6 Try.prog (k + 1) (.call 12 args st)) = ans bitsA args st := told rfl
theorem told6_16 (k : Nat) (args : List V) (st : St) : retOf (run C6 Try.prog (k + 1) (.call 16 args st)) = ans refCheckA args st := told rfl
theorem told6_18 (k : Nat) (args : List V) (st : St) : retOf (run C6 Try.prog (k + 1) (.call 18 args st)) = ans refLowA args st := told rfl
noncomputable def body6 : Code := (loops (Try.f6.body.getD .skip)).headD .skip

structure Inv6 (n low high : List UInt8) (i : Nat) (s : List V) : Prop where
  len : s.length = 64
  n0 : s[0]? = some (.str n)
  l3 : s[3]? = some (.str low)
  h4 : s[4]? = some (.str high)
  i5 : s[5]? = some (.int .i64 i)

section
variable {n low high : List UInt8} {i : Nat} {s : List V} {c : UInt8}

theorem end6 (I : Inv6 n low high high.length s) (st : St) : ∃ s', run C6 Try.prog 30 (.code body6 s st) = some (.out (.exit 0) s' st) ∧ Inv6 n low high high.length s' := by
  obtain ⟨h0, h1, h2, h3, h4⟩ := I
  obtain ⟨J, rfl⟩ : ∃ J : Nat → V, s = [J 0, J 1, J 2, J 3, J 4, J 5, J 6, J 7, J 8, J 9, J 10, J 11, J 12, J 13, J 14, J 15, J 16, J 17, J 18, J 19, J 20, J 21, J 22, J 23, J 24, J 25, J 26, J 27, J 28, J 29, J 30, J 31, J 32, J 33, J 34, J 35, J 36, J 37, J 38, J 39, J 40, J 41, J 42, J 43, J 44, J 45, J 46, J 47, J 48, J 49, J 50, J 51, J 52, J 53, J 54, J 55, J 56, J 57, J 58, J 59, J 60, J 61, J 62, J 63] := ⟨fun i => s.getD i .any, lits s 64 h0⟩
  simp only [List.getElem?_cons_succ, List.getElem?_cons_zero, Option.some.injEq] at h1 h2 h3 h4
  apply Exists.intro
  apply And.intro
  · simp only [body6, loops, Try.f6, Option.getD_some, List.cons_append, List.nil_append, List.append_nil, List.headD_cons]
    simp [run_seq, run_cond, run_block, run_region, run_skip, run_exit, run_rett, ans, killAll, V.kills, opsRun, opRun, wantedB, aop, ev, ofVal, mk, mk3, mkS, putS, binB, builtinB, indexB, minStep, maxStep, List.foldl, eqOk, eqB, Try.underlying4, Try.underlying5, Try.underlying3, Try.underlying9, Try.underlying35, h1, h2, h3, h4]
    first | exact ⟨rfl, rfl⟩ | rfl
  · exact ⟨rfl, by simp [h1], by simp [h2], by simp [h3], by simp [h4]⟩

theorem pass6 (hi : high[i]? = some c) (hlen : high.length ≤ 1048576) (he : low.length = high.length) (hc : ¬ (97 ≤ c.toNat ∧ c.toNat ≤ 122)) (I : Inv6 n low high i s) (st : St) :
    ∃ s', run C6 Try.prog 30 (.code body6 s st) = some (.out .normal s' st) ∧ Inv6 n low high (i + 1) s' := by
  obtain ⟨h0, h1, h2, h3, h4⟩ := I
  obtain ⟨J, rfl⟩ : ∃ J : Nat → V, s = [J 0, J 1, J 2, J 3, J 4, J 5, J 6, J 7, J 8, J 9, J 10, J 11, J 12, J 13, J 14, J 15, J 16, J 17, J 18, J 19, J 20, J 21, J 22, J 23, J 24, J 25, J 26, J 27, J 28, J 29, J 30, J 31, J 32, J 33, J 34, J 35, J 36, J 37, J 38, J 39, J 40, J 41, J 42, J 43, J 44, J 45, J 46, J 47, J 48, J 49, J 50, J 51, J 52, J 53, J 54, J 55, J 56, J 57, J 58, J 59, J 60, J 61, J 62, J 63] := ⟨fun i => s.getD i .any, lits s 64 h0⟩
  simp only [List.getElem?_cons_succ, List.getElem?_cons_zero, Option.some.injEq] at h1 h2 h3 h4
  have hlt : i < high.length := (List.getElem?_eq_some_iff.1 hi).1
  have hg : high[i] = c := (List.getElem?_eq_some_iff.1 hi).2
  have w1 : IntKind.wrap .i64 ((i : Int) + 1) = (i : Int) + 1 := wrap64 (by omega) (by omega)
  by_cases h97 : (97 : Int) ≤ c.toNat
  · have h122 : ¬ (c.toNat : Int) ≤ 122 := by omega
    apply Exists.intro
    apply And.intro
    · simp only [body6, loops, Try.f6, Option.getD_some, List.cons_append, List.nil_append, List.append_nil, List.headD_cons]
      simp [run_seq, run_cond, run_block, run_region, run_skip, run_exit, run_rett, ans, killAll, V.kills, opsRun, opRun, wantedB, aop, ev, ofVal, mk, mk3, mkS, putS, binB, builtinB, indexB, minStep, maxStep, List.foldl, eqOk, eqB, Try.underlying4, Try.underlying5, Try.underlying3, Try.underlying9, Try.underlying35, h1, h2, h3, h4, hlt, hg, he, w1, h97, h122]
      first | exact ⟨rfl, rfl⟩ | rfl
    · exact ⟨rfl, by simp [h1], by simp [h2], by simp [h3], by simp⟩
  · apply Exists.intro
    apply And.intro
    · simp only [body6, loops, Try.f6, Option.getD_some, List.cons_append, List.nil_append, List.append_nil, List.headD_cons]
      simp [run_seq, run_cond, run_block, run_region, run_skip, run_exit, run_rett, ans, killAll, V.kills, opsRun, opRun, wantedB, aop, ev, ofVal, mk, mk3, mkS, putS, binB, builtinB, indexB, minStep, maxStep, List.foldl, eqOk, eqB, Try.underlying4, Try.underlying5, Try.underlying3, Try.underlying9, Try.underlying35, h1, h2, h3, h4, hlt, hg, he, w1, h97]
      first | exact ⟨rfl, rfl⟩ | rfl
    · exact ⟨rfl, by simp [h1], by simp [h2], by simp [h3], by simp⟩

theorem loop6 (hlen : high.length ≤ 1048576) (he : low.length = high.length) (hc : ∀ c ∈ high, ¬ (97 ≤ c.toNat ∧ c.toNat ≤ 122)) (st : St) : ∀ (m i : Nat) (s : List V), i + m = high.length → Inv6 n low high i s →
    ∃ s', Runs C6 Try.prog (.code (.loop body6) s st) (.out (.exit 0) s' st) ∧ Inv6 n low high high.length s' := by
  intro m
  induction m with
  | zero =>
    intro i s hi I
    have e : i = high.length := by omega
    subst e
    obtain ⟨s', g1, g2⟩ := end6 I st
    exact ⟨s', Runs.loop_out (.of 30 g1) (by simp), g2⟩
  | succ m ih =>
    intro i s hi I
    have hlt : i < high.length := by omega
    obtain ⟨s1, g1, g2⟩ := pass6 (List.getElem?_eq_getElem hlt) hlen he (hc _ (List.getElem_mem hlt)) I st
    obtain ⟨s2, g3, g4⟩ := ih (i + 1) s1 (by omega) g2
    exact ⟨s2, Runs.loop_next (.of 30 g1) g3, g4⟩

def lowLawA : List V → Option V
  | [.str s] => some (.bool true)
  | _ => none

set_option maxHeartbeats 8000000 in
theorem lowLaw_sound : Sound Try.prog 6 (ans lowLawA) := by
  refine sound_ans X6 fun args st v h => ?_
  unfold lowLawA at h
  split at h
  rotate_left
  · simp at h
  rename_i s
  simp only [Option.some.injEq] at h
  subst h
  generalize hst0 : ({ st with lo := st.heap.length, flo := st.fams.length, kills := [] } : St) = st0
  have key : ∃ s2, Runs C6 Try.prog (.code (Try.f6.body.getD .skip) ([.str s] ++ List.replicate 63 (.tup [])) st0) (.out .ret s2 st0) ∧ s2[2]? = some (.bool true) := by
    simp only [Try.f6, Option.getD_some, List.replicate, List.cons_append, List.nil_append]
    rcases (show (600 < (s.length : Int)) ∨ (¬ 600 < (s.length : Int) ∧ s.length ≤ 1048576 ∧ refCheck1 s = false) ∨ (¬ 600 < (s.length : Int) ∧ s.length ≤ 1048576 ∧ refCheck1 s = true) by
      cases refCheck1 s <;> simp <;> omega) with hc | hc | hc
    · apply Exists.intro
      apply And.intro
      · apply Runs.of 20
        simp [run_seq, run_cond, run_block, run_region, run_skip, run_exit, run_rett, ans, killAll, V.kills, opsRun, opRun, wantedB, aop, ev, ofVal, mk, mk3, mkS, putS, binB, builtinB, indexB, minStep, maxStep, List.foldl, eqOk, eqB, Try.underlying4, Try.underlying5, Try.underlying3, Try.underlying9, Try.underlying35, told6_7, told6_8, told6_9, told6_10, told6_12, told6_16, told6_18, call7, call8, call9, call10, call12, call16, call18, liveA, lettersA, refLettersA, mixA, bitsA, refCheckA, refLowA, hc]
        first | exact ⟨rfl, rfl⟩ | rfl
      · rfl
    · apply Exists.intro
      apply And.intro
      · apply Runs.of 20
        simp [run_seq, run_cond, run_block, run_region, run_skip, run_exit, run_rett, ans, killAll, V.kills, opsRun, opRun, wantedB, aop, ev, ofVal, mk, mk3, mkS, putS, binB, builtinB, indexB, minStep, maxStep, List.foldl, eqOk, eqB, Try.underlying4, Try.underlying5, Try.underlying3, Try.underlying9, Try.underlying35, told6_7, told6_8, told6_9, told6_10, told6_12, told6_16, told6_18, call7, call8, call9, call10, call12, call16, call18, liveA, lettersA, refLettersA, mixA, bitsA, refCheckA, refLowA, hc]
        first | exact ⟨rfl, rfl⟩ | rfl
      · rfl
    · have hck : check1 s = true := by rw [check_ref]; exact hc.2.2
      obtain ⟨f1, f2⟩ := low_law s hck
      obtain ⟨f3, f4⟩ := high_law s hck
      obtain ⟨l1, _⟩ := mix_facts s 0 hck (by omega) (by omega)
      obtain ⟨l2, _⟩ := mix_facts s 1099511627775 hck (by omega) (by omega)
      have l3 : (mix1 s 0).length ≤ 1048576 := by omega
      have l4 : (mix1 s 1099511627775).length ≤ 1048576 := by omega
      replace f1 := f1.symm
      obtain ⟨s1, g1, g2⟩ := loop6 (n := s) (low := mix1 s 0) (high := mix1 s 1099511627775) l4 (by omega) f3 st0 (mix1 s 1099511627775).length 0
        ([.str s, .tup [], .bool false, .str (mix1 s 0), .str (mix1 s 1099511627775), .int .i64 0, .str s, .int .i64 s.length, .bool false, .bool false, .str s, .bool true, .bool false, .bool false, .tup [], .str s, .str (mix1 s 0), .str s, .str (mix1 s 1099511627775)] ++ List.replicate 45 (.tup [])) (by omega) ⟨rfl, rfl, rfl, rfl, rfl⟩
      obtain ⟨k0, k1, k2, k3, k4⟩ := g2
      obtain ⟨J, rfl⟩ : ∃ J : Nat → V, s1 = [J 0, J 1, J 2, J 3, J 4, J 5, J 6, J 7, J 8, J 9, J 10, J 11, J 12, J 13, J 14, J 15, J 16, J 17, J 18, J 19, J 20, J 21, J 22, J 23, J 24, J 25, J 26, J 27, J 28, J 29, J 30, J 31, J 32, J 33, J 34, J 35, J 36, J 37, J 38, J 39, J 40, J 41, J 42, J 43, J 44, J 45, J 46, J 47, J 48, J 49, J 50, J 51, J 52, J 53, J 54, J 55, J 56, J 57, J 58, J 59, J 60, J 61, J 62, J 63] := ⟨fun i => s1.getD i .any, lits s1 64 k0⟩
      simp only [List.getElem?_cons_succ, List.getElem?_cons_zero, Option.some.injEq] at k1 k2 k3 k4
      have w64 : IntKind.i64.bits = 64 := rfl
      have w0 : 0 ≤ (if (40 : Int) < refLetters1 s then (40 : Int) else refLetters1 s) := by split <;> omega
      simp only [List.replicate, List.cons_append, List.nil_append, Try.f6, Option.getD_some] at g1 ⊢
      apply Exists.intro
      apply And.intro
      · apply Runs.seq
        · apply Runs.of 6
          simp [run_seq, run_cond, run_block, run_region, run_skip, run_exit, run_rett, ans, killAll, V.kills, opsRun, opRun, wantedB, aop, ev, ofVal, mk, mk3, mkS, putS, binB, builtinB, indexB, minStep, maxStep, List.foldl, eqOk, eqB, Try.underlying4, Try.underlying5, Try.underlying3, Try.underlying9, Try.underlying35, told6_7, told6_8, told6_9, told6_10, told6_12, told6_16, told6_18, call7, call8, call9, call10, call12, call16, call18, liveA, lettersA, refLettersA, mixA, bitsA, refCheckA, refLowA, hc]
          first | exact ⟨rfl, rfl⟩ | rfl
        apply Runs.seq
        · apply Runs.of 6
          simp [run_seq, run_cond, run_block, run_region, run_skip, run_exit, run_rett, ans, killAll, V.kills, opsRun, opRun, wantedB, aop, ev, ofVal, mk, mk3, mkS, putS, binB, builtinB, indexB, minStep, maxStep, List.foldl, eqOk, eqB, Try.underlying4, Try.underlying5, Try.underlying3, Try.underlying9, Try.underlying35, told6_7, told6_8, told6_9, told6_10, told6_12, told6_16, told6_18, call7, call8, call9, call10, call12, call16, call18, liveA, lettersA, refLettersA, mixA, bitsA, refCheckA, refLowA, hc]
          first | exact ⟨rfl, rfl⟩ | rfl
        apply Runs.seq
        · apply Runs.of 6
          simp [run_seq, run_cond, run_block, run_region, run_skip, run_exit, run_rett, ans, killAll, V.kills, opsRun, opRun, wantedB, aop, ev, ofVal, mk, mk3, mkS, putS, binB, builtinB, indexB, minStep, maxStep, List.foldl, eqOk, eqB, Try.underlying4, Try.underlying5, Try.underlying3, Try.underlying9, Try.underlying35, told6_7, told6_8, told6_9, told6_10, told6_12, told6_16, told6_18, call7, call8, call9, call10, call12, call16, call18, liveA, lettersA, refLettersA, mixA, bitsA, refCheckA, refLowA, hc]
          first | exact ⟨rfl, rfl⟩ | rfl
        apply Runs.seq
        · apply Runs.of 6
          simp [run_seq, run_cond, run_block, run_region, run_skip, run_exit, run_rett, ans, killAll, V.kills, opsRun, opRun, wantedB, aop, ev, ofVal, mk, mk3, mkS, putS, binB, builtinB, indexB, minStep, maxStep, List.foldl, eqOk, eqB, Try.underlying4, Try.underlying5, Try.underlying3, Try.underlying9, Try.underlying35, told6_7, told6_8, told6_9, told6_10, told6_12, told6_16, told6_18, call7, call8, call9, call10, call12, call16, call18, liveA, lettersA, refLettersA, mixA, bitsA, refCheckA, refLowA, hc]
          first | exact ⟨rfl, rfl⟩ | rfl
        apply Runs.seq
        · apply Runs.seq
          · apply Runs.of 4
            simp [run_seq, run_cond, run_block, run_region, run_skip, run_exit, run_rett, ans, killAll, V.kills, opsRun, opRun, wantedB, aop, ev, ofVal, mk, mk3, mkS, putS, binB, builtinB, indexB, minStep, maxStep, List.foldl, eqOk, eqB, Try.underlying4, Try.underlying5, Try.underlying3, Try.underlying9, Try.underlying35, told6_7, told6_8, told6_9, told6_10, told6_12, told6_16, told6_18, call7, call8, call9, call10, call12, call16, call18, liveA, lettersA, refLettersA, mixA, bitsA, refCheckA, refLowA, hc]
            first | exact ⟨rfl, rfl⟩ | rfl
          · exact Runs.block (id := 0) g1
        apply Runs.of 4
        simp [run_seq, run_cond, run_block, run_region, run_skip, run_exit, run_rett, ans, killAll, V.kills, opsRun, opRun, wantedB, aop, ev, ofVal, mk, mk3, mkS, putS, binB, builtinB, indexB, minStep, maxStep, List.foldl, eqOk, eqB, Try.underlying4, Try.underlying5, Try.underlying3, Try.underlying9, Try.underlying35, told6_7, told6_8, told6_9, told6_10, told6_12, told6_16, told6_18, call7, call8, call9, call10, call12, call16, call18, liveA, lettersA, refLettersA, mixA, bitsA, refCheckA, refLowA, k1, k2, k3, k4, hc, f1, f2, f4, l3, l4, w64, w0]
        first | exact ⟨rfl, rfl⟩ | rfl
      · rfl
  obtain ⟨s2, k1, k2⟩ := key
  subst hst0
  refine Runs.call_pure (args := [.str s]) (fn := Try.f6) (c := Try.f6.body.getD .skip) (v := .bool true) (v' := .bool true) rfl Try.func6 rfl (by rw [Try.ntmps6]; simp) rfl k1 (.inr rfl) ?_ rfl rfl
  rw [Try.results6]
  simp [resB, k2]
end
end Go.Abs

/- The statements MixBack, MixApart, MixLow. -/
namespace Go.Abs
open Go Go.Proofs Go.ChangeShapes Go.ChangeMaps Go.WideShapes Go.ChangeAt Go.RowKit

set_option maxRecDepth 100000 in
theorem MixBack_lifted (os : Os) (started : os.Started) (H : Type) (enc : TypeId × Value → H) :
    ReturnsInHanded {} Try.checked os 4 .any (Ytlgalckconjljaa.Rows.mixBackSpec.pre6 enc Try.prog Try.f4 Ytlgalckconjljaa.Rows.mixBackRow.domain false) (Ytlgalckconjljaa.Rows.mixBackSpec.post enc Try.prog Try.f4 false true false false) := by
  refine returnsInHanded_of_change (C := Try.checked) own started (by kernel_rfl) Try.func4
    (ChangeSpec.witness6 (enc := enc) (C := Try.checked) false ⟨#[], #[.string ByteArray.empty, .int .i64 0], []⟩ 8 (by kernel_rfl) (by kernel_rfl) (by kernel_rfl) (by kernel_rfl)) ?_
  intro W base args ds gs before hval0 hW hcnd _
  have hval : ∀ (j : Nat) t v, Try.f4.params[j]? = some t → args[j]? = some v → Value.okWide Try.prog W .any base t v := hval0
  have hW' := hW
  obtain ⟨p, q, hA0, hV, rfl, hfz, hnd⟩ := hW
  have hA : DataW.TrodAll enc Try.prog W 0 (fun _ => true) true Try.f4.params.toList args.toList ds p := hA0
  rw [Try.params4] at hA hval
  obtain ⟨v0, v1, d0, d1, p0, p1, rfl, rfl, rfl, h0, h1⟩ := trodAll_two hA
  obtain ⟨rfl, rfl⟩ := trodVars_none hV
  obtain ⟨x0, rfl, rfl, rfl, w0⟩ := open_string Try.underlying9 (hval 0 9 v0 rfl rfl) h0
  obtain ⟨x1, rfl, rfl, rfl, w1⟩ := open_int Try.underlying3 (hval 1 3 v1 rfl rfl) h1
  clear hA0 hval0
  simp only [List.append_nil] at hW'
  refine (back_sound.law (args := [.str x0.data.toList, .int .i64 x1]) (E := E0) rfl rfl ?_).mono fun e W' ⟨he, hw⟩ => ?_
  · intro k hk
    match k, hk with
    | 0, _ => exact .str x0
    | 1, _ => exact .int .i64 x1
  · subst he
    exact ⟨_, rfl, post_of_blw (pa := []) (pv := []) hW' (fun _ _ _ => trodAll_mk1 (shut_bool Try.underlying4 true))
      (fun sp _ => trodAll_mk2 (shut_string Try.underlying9 w0) (shut_int Try.underlying3 w1)) (fun _ _ => rfl) rfl
      hw (ok_one (by kernel_rfl) rfl (okWide_bool_mk Try.underlying4 true))⟩

theorem MixBack_holds : Ytlgalckconjljaa.Rows.MixBackSaid :=
  OpenClaim.holds_of_wide 4 Try.f4 rfl rfl rfl rfl rfl rfl rfl ⟨rfl, rfl, rfl, rfl, rfl⟩ rfl rfl rfl rfl rfl (by kernel_rfl) Try.func4 (by kernel_rfl)
    (of_decide_eq_true (by kernel_rfl)) (by unfold Func.isWrapper; first | (rw [if_pos (by decide +kernel)]; kernel_rfl) | (rw [if_neg (by decide +kernel)]; exact ⟨rfl, rfl⟩))
    (fun os started H enc _ => MixBack_lifted os started H enc)

set_option maxRecDepth 100000 in
theorem MixApart_lifted (os : Os) (started : os.Started) (H : Type) (enc : TypeId × Value → H) :
    ReturnsInHanded {} Try.checked os 5 .any (Ytlgalckconjljaa.Rows.mixApartSpec.pre6 enc Try.prog Try.f5 Ytlgalckconjljaa.Rows.mixApartRow.domain false) (Ytlgalckconjljaa.Rows.mixApartSpec.post enc Try.prog Try.f5 false true false false) := by
  refine returnsInHanded_of_change (C := Try.checked) own started (by kernel_rfl) Try.func5
    (ChangeSpec.witness6 (enc := enc) (C := Try.checked) false ⟨#[], #[.string ByteArray.empty, .int .i64 0, .int .i64 0], []⟩ 8 (by kernel_rfl) (by kernel_rfl) (by kernel_rfl) (by kernel_rfl)) ?_
  intro W base args ds gs before hval0 hW hcnd _
  have hval : ∀ (j : Nat) t v, Try.f5.params[j]? = some t → args[j]? = some v → Value.okWide Try.prog W .any base t v := hval0
  have hW' := hW
  obtain ⟨p, q, hA0, hV, rfl, hfz, hnd⟩ := hW
  have hA : DataW.TrodAll enc Try.prog W 0 (fun _ => true) true Try.f5.params.toList args.toList ds p := hA0
  rw [Try.params5] at hA hval
  obtain ⟨v0, v1, v2, d0, d1, d2, p0, p1, p2, rfl, rfl, rfl, h0, h1, h2⟩ := trodAll_three hA
  obtain ⟨rfl, rfl⟩ := trodVars_none hV
  obtain ⟨x0, rfl, rfl, rfl, w0⟩ := open_string Try.underlying9 (hval 0 9 v0 rfl rfl) h0
  obtain ⟨x1, rfl, rfl, rfl, w1⟩ := open_int Try.underlying3 (hval 1 3 v1 rfl rfl) h1
  obtain ⟨x2, rfl, rfl, rfl, w2⟩ := open_int Try.underlying3 (hval 2 3 v2 rfl rfl) h2
  clear hA0 hval0
  simp only [List.append_nil] at hW'
  refine (apart_sound.law (args := [.str x0.data.toList, .int .i64 x1, .int .i64 x2]) (E := E0) rfl rfl ?_).mono fun e W' ⟨he, hw⟩ => ?_
  · intro k hk
    match k, hk with
    | 0, _ => exact .str x0
    | 1, _ => exact .int .i64 x1
    | 2, _ => exact .int .i64 x2
  · subst he
    exact ⟨_, rfl, post_of_blw (pa := []) (pv := []) hW' (fun _ _ _ => trodAll_mk1 (shut_bool Try.underlying4 true))
      (fun sp _ => trodAll_mk3 (shut_string Try.underlying9 w0) (shut_int Try.underlying3 w1) (shut_int Try.underlying3 w2)) (fun _ _ => rfl) rfl
      hw (ok_one (by kernel_rfl) rfl (okWide_bool_mk Try.underlying4 true))⟩

theorem MixApart_holds : Ytlgalckconjljaa.Rows.MixApartSaid :=
  OpenClaim.holds_of_wide 5 Try.f5 rfl rfl rfl rfl rfl rfl rfl ⟨rfl, rfl, rfl, rfl, rfl⟩ rfl rfl rfl rfl rfl (by kernel_rfl) Try.func5 (by kernel_rfl)
    (of_decide_eq_true (by kernel_rfl)) (by unfold Func.isWrapper; first | (rw [if_pos (by decide +kernel)]; kernel_rfl) | (rw [if_neg (by decide +kernel)]; exact ⟨rfl, rfl⟩))
    (fun os started H enc _ => MixApart_lifted os started H enc)

set_option maxRecDepth 100000 in
theorem MixLow_lifted (os : Os) (started : os.Started) (H : Type) (enc : TypeId × Value → H) :
    ReturnsInHanded {} Try.checked os 6 .any (Ytlgalckconjljaa.Rows.mixLowSpec.pre6 enc Try.prog Try.f6 Ytlgalckconjljaa.Rows.mixLowRow.domain false) (Ytlgalckconjljaa.Rows.mixLowSpec.post enc Try.prog Try.f6 false true false false) := by
  refine returnsInHanded_of_change (C := Try.checked) own started (by kernel_rfl) Try.func6
    (ChangeSpec.witness6 (enc := enc) (C := Try.checked) false ⟨#[], #[.string ByteArray.empty], []⟩ 8 (by kernel_rfl) (by kernel_rfl) (by kernel_rfl) (by kernel_rfl)) ?_
  intro W base args ds gs before hval0 hW hcnd _
  have hval : ∀ (j : Nat) t v, Try.f6.params[j]? = some t → args[j]? = some v → Value.okWide Try.prog W .any base t v := hval0
  have hW' := hW
  obtain ⟨p, q, hA0, hV, rfl, hfz, hnd⟩ := hW
  have hA : DataW.TrodAll enc Try.prog W 0 (fun _ => true) true Try.f6.params.toList args.toList ds p := hA0
  rw [Try.params6] at hA hval
  obtain ⟨v0, d0, rfl, rfl, h0⟩ := trodAll_one hA
  obtain ⟨rfl, rfl⟩ := trodVars_none hV
  obtain ⟨x0, rfl, rfl, rfl, w0⟩ := open_string Try.underlying9 (hval 0 9 v0 rfl rfl) h0
  clear hA0 hval0
  simp only [List.append_nil] at hW'
  refine (lowLaw_sound.law (args := [.str x0.data.toList]) (E := E0) rfl rfl ?_).mono fun e W' ⟨he, hw⟩ => ?_
  · intro k hk
    match k, hk with
    | 0, _ => exact .str x0
  · subst he
    exact ⟨_, rfl, post_of_blw (pa := []) (pv := []) hW' (fun _ _ _ => trodAll_mk1 (shut_bool Try.underlying4 true))
      (fun sp _ => trodAll_mk1 (shut_string Try.underlying9 w0)) (fun _ _ => rfl) rfl
      hw (ok_one (by kernel_rfl) rfl (okWide_bool_mk Try.underlying4 true))⟩

theorem MixLow_holds : Ytlgalckconjljaa.Rows.MixLowSaid :=
  OpenClaim.holds_of_wide 6 Try.f6 rfl rfl rfl rfl rfl rfl rfl ⟨rfl, rfl, rfl, rfl, rfl⟩ rfl rfl rfl rfl rfl (by kernel_rfl) Try.func6 (by kernel_rfl)
    (of_decide_eq_true (by kernel_rfl)) (by unfold Func.isWrapper; first | (rw [if_pos (by decide +kernel)]; kernel_rfl) | (rw [if_neg (by decide +kernel)]; exact ⟨rfl, rfl⟩))
    (fun os started H enc _ => MixLow_lifted os started H enc)

end Go.Abs
