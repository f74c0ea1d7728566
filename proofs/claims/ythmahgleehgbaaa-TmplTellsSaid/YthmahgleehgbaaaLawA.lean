/- Part of a proof: a machine of plain data, and what the functions come to on it. -/
import Derived.Test.YthmahgleehgbaaaSxB
import Derived.Test.YthmahgleehgbaaaSnC
set_option linter.unusedSimpArgs false
set_option linter.unusedVariables false
set_option linter.unusedSectionVars false
namespace Go.Abs
open Go
theorem ofInt_i64 (a : Nat) (ha : a < 18446744073709551616) : (BitVec.ofInt 64 (a : Int)).toNat = a := by
  rw [BitVec.ofInt_natCast, BitVec.toNat_ofNat]; exact Nat.mod_eq_of_lt (by omega)
theorem i64_and_nat (a b : Nat) (ha : a < 9223372036854775808) (hb : b < 9223372036854775808) : bits .and .i64 (a : Int) (b : Int) = ((a &&& b : Nat) : Int) := by
  have hx : a &&& b < 2 ^ 63 := Nat.and_lt_two_pow _ (by omega)
  show IntKind.i64.wrap ((BitVec.ofInt 64 (a : Int) &&& BitVec.ofInt 64 (b : Int)).toNat : Int) = _
  rw [BitVec.toNat_and, ofInt_i64 a (by omega), ofInt_i64 b (by omega)]
  exact wrap64 (by omega) (by omega)
/-- a piece -/
def takeS (s : List UInt8) (a n : Int) : Option (List UInt8) := if 0 ≤ a ∧ 0 ≤ n ∧ a ≤ s.length ∧ n ≤ s.length - a then some ((s.drop a.toNat).take n.toNat) else none
@[reducible] def two (o : Option (List UInt8)) : List UInt8 × Bool := match o with
  | some x => (x, true)
  | none => ([], false)
theorem grdp {β : Type} {c : Prop} {i : Decidable c} {b : Option β} (h : c) : @grd β c i b = b := by unfold grd; rw [if_pos h]
end Go.Abs

namespace Go.Abs
open Go
def maxI : Int := 9223372036854775807
theorem ref01_Take_eq {s : List UInt8} (hs : (s.length : Int) ≤ maxI) (a n : Int) : F_ref01_Take s a n = some (two (takeS s a n)) := by
  unfold maxI at hs
  unfold F_ref01_Take takeS
  by_cases h1 : a < 0
  · rw [if_neg (by simpa using h1), if_neg (by omega)]
  rw [if_pos (by simpa using h1)]
  by_cases h2 : n < 0
  · rw [if_neg (by simpa using h2), if_neg (by omega)]
  rw [if_pos (by simpa using h2)]
  by_cases h3 : (s.length : Int) < a
  · rw [if_neg (by simpa using h3), if_neg (by omega)]
  rw [if_pos (by simpa using h3), wrap_id (by omega) (by omega)]
  by_cases h4 : (s.length : Int) - a < n
  · rw [if_pos (by simpa using h4), if_neg (by omega)]
  rw [if_neg (by simpa using h4), wrap_id (by omega) (by omega), natOf_pos (by omega), grd_pos (by omega), natOf_pos (by omega), grd_pos (by omega), if_pos (by omega)]
  simp only [two, List.drop_take]
  congr 3
  omega
end Go.Abs

namespace Go.Abs
open Go
def ints (l : List UInt8) : List Int := l.map fun b => (b.toNat : Int)
end Go.Abs

namespace Go.Abs
open Go
end Go.Abs

namespace Go.Abs
open Go
/-- from a place to a place -/
def cut (msg : List UInt8) (i j : Int) : List UInt8 := List.drop i.toNat (List.take j.toNat msg)
end Go.Abs

namespace Go.Abs
open Go
end Go.Abs

namespace Go.Abs
open Go
end Go.Abs

namespace Go.Abs
open Go
abbrev RRt := List UInt8 × Int × Int × Int × List UInt8
end Go.Abs

namespace Go.Abs
open Go
/-- a label with its length ahead -/
def lab (x : List UInt8) : List UInt8 := UInt8.ofNat x.length :: x
/-- labels, one behind the other -/
def flat (L : List (List UInt8)) : List UInt8 := (L.map lab).flatten
end Go.Abs

namespace Go.Abs
open Go
theorem takeS_mk {s t : List UInt8} {a n : Int} (h0 : 0 ≤ a) (hn : n = t.length) (h1 : a + n ≤ s.length) (h : (s.drop a.toNat).take t.length = t) : takeS s a n = some t := by
  unfold takeS
  rw [if_pos (by omega), show n.toNat = t.length by omega, h]
theorem takeS_mid (u v w : List UInt8) : takeS (u ++ (v ++ w)) u.length v.length = some v := by
  refine takeS_mk (by omega) rfl (by simp; omega) ?_
  rw [show ((u.length : Int)).toNat = u.length by omega, List.drop_left, List.take_left]
def inC (n most : Int) : Bool := decide (0 ≤ n) && decide (n ≤ most)
end Go.Abs

namespace Go.Abs
open Go
theorem wrap8 (n : Nat) : IntKind.u8.wrap (n : Int) = ((n % 256 : Nat) : Int) := by simp [IntKind.wrap, IntKind.bits, IntKind.signed]
theorem ofNat_mod (n : Nat) : UInt8.ofNat (n % 256) = UInt8.ofNat n := by
  apply UInt8.toNat_inj.1
  simp
theorem ints_app (s t : List UInt8) : ints (s ++ t) = ints s ++ ints t := by simp [ints]
end Go.Abs

namespace Go.Abs
open Go
def put4 (n : Int) : List UInt8 := [UInt8.ofNat (n.toNat / 16777216), UInt8.ofNat (n.toNat / 65536), UInt8.ofNat (n.toNat / 256), UInt8.ofNat n.toNat]
theorem fdiv_nat (m k : Nat) : ((m : Int)).fdiv (2 ^ k) = ((m / 2 ^ k : Nat) : Int) := by
  have : (2 : Int) ^ k = ((2 ^ k : Nat) : Int) := by simp
  rw [this, Int.ofNat_fdiv]
theorem and255 {m : Nat} (h : m < 9223372036854775808) : bits .and .i64 (m : Int) 255 = ((m % 256 : Nat) : Int) := by
  have := i64_and_nat m 255 h (by omega)
  rw [show ((255 : Nat) : Int) = 255 from rfl] at this
  rw [this]
  congr 1
  exact Nat.and_two_pow_sub_one_eq_mod m 8
theorem octet_put4 {n : Int} (h0 : 0 ≤ n) (h1 : n < 4294967296) : F_octet_Put n 4 = some (put4 n) := by
  obtain ⟨m, rfl⟩ := Int.eq_ofNat_of_zero_le h0
  have hm : m < 4294967296 := by omega
  have hs : F_octet_sized 4 = some true := rfl
  have hn : ¬ (m : Int) < 0 := by omega
  have h16 : (natOf (Go.IntKind.i64.wrap (8 * 4)) fun n4 => if ((m : Int).fdiv (2 ^ min n4 64) != 0) = true then some (Sum.inl ([] : List UInt8)) else some (Sum.inr ())) = some (Sum.inr ()) := by
    have e : Go.IntKind.i64.wrap (8 * 4) = ((32 : Nat) : Int) := rfl
    rw [e, natOf_nat, show min 32 64 = 32 from rfl, fdiv_nat, show m / 2 ^ 32 = 0 by omega]
    rfl
  have step : ∀ (i j : Nat) (b : List Int), j < 4 → b.length = 4 → i = 3 - j → step_octet_Put_0 (m : Int) 4 (b, (j : Int)) = some (.inl (b.set i ((m / 2 ^ (8 * j) % 256 : Nat) : Int), ((j + 1 : Nat) : Int))) := by
    intro i j b hj hb hi
    simp only [step_octet_Put_0, grdEq_self]
    rw [if_pos (by simp; omega), wrap_id (x := 8 * (j : Int)) (by omega) (by omega), show 8 * (j : Int) = ((8 * j : Nat) : Int) by omega, natOf_nat, show Go.IntKind.i64.wrap (4 - 1) = 3 from rfl,
      wrap_id (x := 3 - (j : Int)) (by omega) (by omega), show 3 - (j : Int) = ((i : Nat) : Int) by omega, natOf_nat, List.getElem?_eq_getElem (by omega), bnd_some, wrap_id (x := (j : Int) + 1) (by omega) (by omega)]
    rw [show min (8 * j) 64 = 8 * j by omega, fdiv_nat, wrap8]
    rfl
  have e1 : loopS (step_octet_Put_0 (m : Int) 4) ([0, 0, 0, 0], 0) = some [((m / 2 ^ 24 % 256 : Nat) : Int), ((m / 2 ^ 16 % 256 : Nat) : Int), ((m / 2 ^ 8 % 256 : Nat) : Int), ((m / 2 ^ 0 % 256 : Nat) : Int)] := by
    have s0 := step 3 0 [0, 0, 0, 0] (by omega) rfl rfl
    have s1 := step 2 1 [0, 0, 0, ((m / 2 ^ 0 % 256 : Nat) : Int)] (by omega) rfl rfl
    have s2 := step 1 2 [0, 0, ((m / 2 ^ 8 % 256 : Nat) : Int), ((m / 2 ^ 0 % 256 : Nat) : Int)] (by omega) rfl rfl
    have s3 := step 0 3 [0, ((m / 2 ^ 16 % 256 : Nat) : Int), ((m / 2 ^ 8 % 256 : Nat) : Int), ((m / 2 ^ 0 % 256 : Nat) : Int)] (by omega) rfl rfl
    refine (loopS_next s0).trans ?_
    refine (loopS_next s1).trans ?_
    refine (loopS_next s2).trans ?_
    refine (loopS_next s3).trans ?_
    refine loopS_out ?_
    simp only [step_octet_Put_0]
    rfl
  unfold F_octet_Put
  simp only [hs, bnd_some, Bool.not_true, if_true, hn, decide_false, grdEq_self, h16]
  rw [grdp (by decide), show (List.replicate (4 : Int).toNat (0 : Int)) = [0, 0, 0, 0] from rfl, e1]
  simp only [bnd_some, List.map_cons, List.map_nil, Int.toNat_natCast, ofNat_mod, put4, Nat.pow_zero, Nat.div_one]
theorem ref_put_step (m : Nat) (hm : m < 4294967296) (size : Int) (j : Nat) (b : List Int) (hj : j < 4) (hb : b.length ≤ 4) : step_ref01_Put_0 (m : Int) size (b, (j : Int)) = some (.inl (b ++ [((m / 2 ^ (8 * j) % 256 : Nat) : Int)], (j : Int) - 1)) := by
  have hmj : m / 2 ^ (8 * j) ≤ m := Nat.div_le_self _ _
  simp only [step_ref01_Put_0, grdEq_self]
  rw [if_pos (by simp), wrap_id (x := 8 * (j : Int)) (by omega) (by omega), show 8 * (j : Int) = ((8 * j : Nat) : Int) by omega, natOf_nat, show min (8 * j) 64 = 8 * j by omega, fdiv_nat, and255 (by omega), wrap8, Nat.mod_mod,
    grdp (by unfold roomLim; simp; omega), wrap_id (x := (j : Int) - 1) (by omega) (by omega)]
theorem ref_put4 {n : Int} (h0 : 0 ≤ n) (h1 : n < 4294967296) : F_ref01_Put n 4 = some (put4 n) := by
  obtain ⟨m, rfl⟩ := Int.eq_ofNat_of_zero_le h0
  have hm : m < 4294967296 := by omega
  have hn : ¬ (m : Int) < 0 := by omega
  have e1 : loopS (step_ref01_Put_0 (m : Int) 4) ([], 3) = some [((m / 2 ^ 24 % 256 : Nat) : Int), ((m / 2 ^ 16 % 256 : Nat) : Int), ((m / 2 ^ 8 % 256 : Nat) : Int), ((m / 2 ^ 0 % 256 : Nat) : Int)] := by
    have s0 := ref_put_step m hm 4 3 [] (by omega) (by simp)
    have s1 := ref_put_step m hm 4 2 [((m / 2 ^ 24 % 256 : Nat) : Int)] (by omega) (by simp)
    have s2 := ref_put_step m hm 4 1 [((m / 2 ^ 24 % 256 : Nat) : Int), ((m / 2 ^ 16 % 256 : Nat) : Int)] (by omega) (by simp)
    have s3 := ref_put_step m hm 4 0 [((m / 2 ^ 24 % 256 : Nat) : Int), ((m / 2 ^ 16 % 256 : Nat) : Int), ((m / 2 ^ 8 % 256 : Nat) : Int)] (by omega) (by simp)
    refine (loopS_next s0).trans ?_
    refine (loopS_next s1).trans ?_
    refine (loopS_next s2).trans ?_
    refine (loopS_next s3).trans ?_
    refine loopS_out ?_
    simp only [step_ref01_Put_0, grdEq_self]
    rfl
  unfold F_ref01_Put
  simp only [show decide ((4 : Int) < 1) = false from rfl, show decide ((4 : Int) < 4) = false from rfl, if_true, hn, decide_false, Bool.false_eq_true, if_false, grdEq_self, bnd_some]
  rw [show Go.IntKind.i64.wrap (4 - 1) = 3 from rfl, e1, bnd_some, show Go.IntKind.i64.wrap (8 * 4) = ((32 : Nat) : Int) from rfl, natOf_nat, show min 32 64 = 32 from rfl, fdiv_nat, show m / 2 ^ 32 = 0 by omega]
  simp only [List.map_cons, List.map_nil, Int.toNat_natCast, ofNat_mod, put4, Nat.pow_zero, Nat.div_one]
  rfl
end Go.Abs

namespace Go.Abs
open Go
end Go.Abs

namespace Go.Abs
open Go
theorem ref01_Lay_eq {u v w p : List UInt8} (hl : p.length = v.length) (hs : (u ++ (v ++ w)).length ≤ 1000000) : F_ref01_Lay (u ++ (v ++ w)) (u.length : Int) p = some (u ++ (p ++ w), true) := by
  have hm : maxI = 9223372036854775807 := rfl
  have hlen : (u ++ (v ++ w)).length = u.length + v.length + w.length := by simp; omega
  unfold F_ref01_Lay
  rw [ref01_Take_eq (by omega), hl, takeS_mid, bnd_some]
  simp only [two, Bool.not_true, Bool.false_eq_true, if_false]
  rw [natOf_nat, grdp (by omega), List.take_left, grdp (by unfold maxStr; omega), wrap_id (by omega) (by omega), show (u.length : Int) + (v.length : Int) = ((u.length + v.length : Nat) : Int) by omega, natOf_nat, grdp (by omega)]
  have : List.drop (u.length + v.length) (u ++ (v ++ w)) = w := by rw [← List.append_assoc, show u.length + v.length = (u ++ v).length by simp, List.drop_left]
  rw [this, grdp (by unfold maxStr; simp; omega)]
  simp
end Go.Abs
