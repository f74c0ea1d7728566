/- Part of a proof: a machine of plain data, and what the functions come to on it. -/
import Derived.Test.YthmahgleehgbaaaSxB
import Derived.Test.YthmahgleehgbaaaSnC
set_option linter.unusedSimpArgs false
set_option linter.unusedVariables false
set_option linter.unusedSectionVars false
namespace Go.Abs
open Go
@[reducible] def two (o : Option (List UInt8)) : List UInt8 × Bool := match o with
  | some x => (x, true)
  | none => ([], false)
theorem grdp {β : Type} {c : Prop} {i : Decidable c} {b : Option β} (h : c) : @grd β c i b = b := by unfold grd; rw [if_pos h]
end Go.Abs

namespace Go.Abs
open Go
def maxI : Int := 9223372036854775807
end Go.Abs

namespace Go.Abs
open Go
def ints (l : List UInt8) : List Int := l.map fun b => (b.toNat : Int)
end Go.Abs

namespace Go.Abs
open Go
end Go.Abs

namespace Go.Abs
open Go
/-- from a place to a place -/
def cut (msg : List UInt8) (i j : Int) : List UInt8 := List.drop i.toNat (List.take j.toNat msg)
end Go.Abs

namespace Go.Abs
open Go
end Go.Abs

namespace Go.Abs
open Go
end Go.Abs

namespace Go.Abs
open Go
abbrev RRt := List UInt8 × Int × Int × Int × List UInt8
end Go.Abs

namespace Go.Abs
open Go
/-- a label with its length ahead -/
def lab (x : List UInt8) : List UInt8 := UInt8.ofNat x.length :: x
/-- labels, one behind the other -/
def flat (L : List (List UInt8)) : List UInt8 := (L.map lab).flatten
end Go.Abs

namespace Go.Abs
open Go
def inC (n most : Int) : Bool := decide (0 ≤ n) && decide (n ≤ most)
end Go.Abs

namespace Go.Abs
open Go
theorem wrap8 (n : Nat) : IntKind.u8.wrap (n : Int) = ((n % 256 : Nat) : Int) := by simp [IntKind.wrap, IntKind.bits, IntKind.signed]
theorem ofNat_mod (n : Nat) : UInt8.ofNat (n % 256) = UInt8.ofNat n := by
  apply UInt8.toNat_inj.1
  simp
theorem ints_app (s t : List UInt8) : ints (s ++ t) = ints s ++ ints t := by simp [ints]
end Go.Abs

namespace Go.Abs
open Go
def put4 (n : Int) : List UInt8 := [UInt8.ofNat (n.toNat / 16777216), UInt8.ofNat (n.toNat / 65536), UInt8.ofNat (n.toNat / 256), UInt8.ofNat n.toNat]
theorem fdiv_nat (m k : Nat) : ((m : Int)).fdiv (2 ^ k) = ((m / 2 ^ k : Nat) : Int) := by
  have : (2 : Int) ^ k = ((2 ^ k : Nat) : Int) := by simp
  rw [this, Int.ofNat_fdiv]
theorem octet_put4 {n : Int} (h0 : 0 ≤ n) (h1 : n < 4294967296) : F_octet_Put n 4 = some (put4 n) := by
  obtain ⟨m, rfl⟩ := Int.eq_ofNat_of_zero_le h0
  have hm : m < 4294967296 := by omega
  have hs : F_octet_sized 4 = some true := rfl
  have hn : ¬ (m : Int) < 0 := by omega
  have h16 : (natOf (Go.IntKind.i64.wrap (8 * 4)) fun n4 => if ((m : Int).fdiv (2 ^ min n4 64) != 0) = true then some (Sum.inl ([] : List UInt8)) else some (Sum.inr ())) = some (Sum.inr ()) := by
    have e : Go.IntKind.i64.wrap (8 * 4) = ((32 : Nat) : Int) := rfl
    rw [e, natOf_nat, show min 32 64 = 32 from rfl, fdiv_nat, show m / 2 ^ 32 = 0 by omega]
    rfl
  have step : ∀ (i j : Nat) (b : List Int), j < 4 → b.length = 4 → i = 3 - j → step_octet_Put_0 (m : Int) 4 (b, (j : Int)) = some (.inl (b.set i ((m / 2 ^ (8 * j) % 256 : Nat) : Int), ((j + 1 : Nat) : Int))) := by
    intro i j b hj hb hi
    simp only [step_octet_Put_0, grdEq_self]
    rw [if_pos (by simp; omega), wrap_id (x := 8 * (j : Int)) (by omega) (by omega), show 8 * (j : Int) = ((8 * j : Nat) : Int) by omega, natOf_nat, show Go.IntKind.i64.wrap (4 - 1) = 3 from rfl,
      wrap_id (x := 3 - (j : Int)) (by omega) (by omega), show 3 - (j : Int) = ((i : Nat) : Int) by omega, natOf_nat, List.getElem?_eq_getElem (by omega), bnd_some, wrap_id (x := (j : Int) + 1) (by omega) (by omega)]
    rw [show min (8 * j) 64 = 8 * j by omega, fdiv_nat, wrap8]
    rfl
  have e1 : loopS (step_octet_Put_0 (m : Int) 4) ([0, 0, 0, 0], 0) = some [((m / 2 ^ 24 % 256 : Nat) : Int), ((m / 2 ^ 16 % 256 : Nat) : Int), ((m / 2 ^ 8 % 256 : Nat) : Int), ((m / 2 ^ 0 % 256 : Nat) : Int)] := by
    have s0 := step 3 0 [0, 0, 0, 0] (by omega) rfl rfl
    have s1 := step 2 1 [0, 0, 0, ((m / 2 ^ 0 % 256 : Nat) : Int)] (by omega) rfl rfl
    have s2 := step 1 2 [0, 0, ((m / 2 ^ 8 % 256 : Nat) : Int), ((m / 2 ^ 0 % 256 : Nat) : Int)] (by omega) rfl rfl
    have s3 := step 0 3 [0, ((m / 2 ^ 16 % 256 : Nat) : Int), ((m / 2 ^ 8 % 256 : Nat) : Int), ((m / 2 ^ 0 % 256 : Nat) : Int)] (by omega) rfl rfl
    refine (loopS_next s0).trans ?_
    refine (loopS_next s1).trans ?_
    refine (loopS_next s2).trans ?_
    refine (loopS_next s3).trans ?_
    refine loopS_out ?_
    simp only [step_octet_Put_0]
    rfl
  unfold F_octet_Put
  simp only [hs, bnd_some, Bool.not_true, if_true, hn, decide_false, grdEq_self, h16]
  rw [grdp (by decide), show (List.replicate (4 : Int).toNat (0 : Int)) = [0, 0, 0, 0] from rfl, e1]
  simp only [bnd_some, List.map_cons, List.map_nil, Int.toNat_natCast, ofNat_mod, put4, Nat.pow_zero, Nat.div_one]
end Go.Abs

namespace Go.Abs
open Go
end Go.Abs

namespace Go.Abs
open Go
end Go.Abs
