/- Part of a proof. -/
import Derived.Test.YthlcfhkcbmikcaaGreatLawB
import Derived.Test.YthlcfhkcbmikcaaGreatSxB
import Derived.Test.YthlcfhkcbmikcaaGreatSnD
set_option linter.unusedSimpArgs false
set_option linter.unusedVariables false
set_option linter.unusedSectionVars false
namespace Go.Abs
open Go
theorem take_next {β : Type} {l : List β} {i : Nat} {x : β} (h : l[i]? = some x) : l.take (i + 1) = l.take i ++ [x] := by
 rw [List.take_add_one, h]; rfl
abbrev Sp := Int × Int × Int
abbrev Pc := List Sp × Int × Bool
end Go.Abs

namespace Go.Abs
open Go
def seg (s : List UInt8) (a b : Nat) : List UInt8 := List.drop a (List.take b s)
end Go.Abs

namespace Go.Abs
open Go
def scanF {β τ : Type} (f : Nat → β → Option τ) (e : τ) : Nat → List β → τ
 | _, [] => e
 | i, x :: l => match f i x with
  | some t => t
  | none => scanF f e (i + 1) l
theorem loop_scan {β τ : Type} {l : List β} {step : Int → Option (Int ⊕ τ)} (f : Nat → β → Option τ) (e : τ)
 (hs : ∀ (i : Nat) x, l[i]? = some x → step (i : Int) = some (match f i x with | some t => .inr t | none => .inl ((i + 1 : Nat) : Int))) (he : step (l.length : Int) = some (.inr e)) : loopS step 0 = some (scanF f e 0 l) := by
 suffices h : ∀ (v u : List β), l = u ++ v → loopS step (u.length : Int) = some (scanF f e u.length v) from h l [] rfl
 intro v
 induction v with
 | nil =>
  intro u hu
  rw [List.append_nil] at hu
  subst hu
  exact loopS_out he
 | cons x v ih =>
  intro u hu
  have hx := hs u.length x (by rw [hu]; simp)
  unfold scanF
  cases hf : f u.length x with
  | some t => rw [hf] at hx; exact loopS_out hx
  | none =>
   rw [hf] at hx
   rw [loopS_next hx]
   have := ih (u ++ [x]) (by rw [hu]; simp)
   simpa using this
theorem map_set {α : Type} {l : List α} {f : α → α} {i : Nat} {x : α} (h : l[i]? = some x) : ((l.take i).map f ++ l.drop i).set i (f x) = (l.take (i + 1)).map f ++ l.drop (i + 1) := by
 have hi := (List.getElem?_eq_some_iff.1 h).1
 have e : l.drop i = x :: l.drop (i + 1) := by
  rw [List.drop_eq_getElem_cons hi]
  congr 1
  have := List.getElem?_eq_getElem hi
  rw [h] at this
  exact (Option.some.inj this).symm
 rw [e, take_next h, List.set_append_right _ _ (by rw [List.length_map, List.length_take]; omega), List.map_append]
 simp [Nat.min_eq_left (Nat.le_of_lt hi)]
end Go.Abs

namespace Go.Abs
open Go
end Go.Abs

namespace Go.Abs
open Go
end Go.Abs

namespace Go.Abs
open Go
abbrev TP := List UInt8 × List Pc
end Go.Abs

namespace Go.Abs
open Go
end Go.Abs

namespace Go.Abs
open Go
def covW : Int → List Sp → Int → Prop
 | a, [], b => a = b
 | a, s :: l, b => s.1 = a ∧ 0 ≤ s.1 ∧ s.1 ≤ 4000000 ∧ s.1 ≤ s.2.1 ∧ s.1 + 5 ≤ s.2.2 ∧ covW s.2.1 l b
def covP : Int → List Pc → Int → Prop
 | a, [], b => a = b
 | a, p :: l, b => ∃ m, covW a p.1 m ∧ covP m l b
structure Made (t : TP) (n : Nat) : Prop where
 cov : covP 0 t.2 (t.1.length : Int)
 len : t.1.length ≤ 136020 * n
 num : t.2.length = n
 few : ∀ p ∈ t.2, p.1.length ≤ 60
end Go.Abs

namespace Go.Abs
open Go
end Go.Abs

namespace Go.Abs
open Go
theorem and_mask (n k : Nat) (hn : n < 9223372036854775808) (hk : k < 60) : Go.bits .and .i64 (n : Int) ((2 ^ k - 1 : Nat) : Int) = ((n % 2 ^ k : Nat) : Int) := by
 have hp : 2 ^ k < 2 ^ 63 := Nat.pow_lt_pow_right (by omega) (by omega)
 rw [i64_and_nat n (2 ^ k - 1) hn (by omega), Nat.and_two_pow_sub_one_eq_mod]
def goodB (b : Int) : Bool := decide (0 ≤ b) && decide (b ≤ 65535)
theorem goodB_iff {b : Int} : goodB b = true ↔ 0 ≤ b ∧ b ≤ 65535 := by simp [goodB]
def ofS (d m : Int) (b : Int) : Int := if goodB b then b / d % m else 0
theorem ofS_yes {d m b : Int} (h0 : 0 ≤ b) (h1 : b ≤ 65535) : ofS d m b = b / d % m := by unfold ofS; rw [if_pos (goodB_iff.2 ⟨h0, h1⟩)]
theorem ofS_lt {d m b : Int} (hm : 0 < m) : 0 ≤ ofS d m b ∧ ofS d m b < m := by
 unfold ofS
 split
 · exact ⟨Int.emod_nonneg _ (by omega), Int.emod_lt_of_pos _ hm⟩
 · exact ⟨by omega, hm⟩
theorem may_eq {f b : Int} (h0 : 0 ≤ f) (h1 : f < 9) : F_flag_Field_may f b = some (goodB b) := by
 unfold F_flag_Field_may goodB
 by_cases h2 : 0 ≤ b
 · by_cases h3 : b ≤ 65535
   · simp [h0, h1, h2, h3]
   · simp [h2, h3]
 · simp [h2]
theorem fof_core {b : Int} (hg : goodB b = true) (s k : Nat) (hs : s < 20) (hk : k < 10) : Go.bits .and .i64 (b.fdiv ((2 ^ s : Nat) : Int)) ((2 ^ k - 1 : Nat) : Int) = b / ((2 ^ s : Nat) : Int) % ((2 ^ k : Nat) : Int) := by
 obtain ⟨h0, h1⟩ := goodB_iff.1 hg
 obtain ⟨n, rfl⟩ := Int.eq_ofNat_of_zero_le h0
 have e : ((n : Int)).fdiv ((2 ^ s : Nat) : Int) = ((n / 2 ^ s : Nat) : Int) := by
  rw [Int.fdiv_eq_ediv_of_nonneg _ (Int.natCast_nonneg _)]; rfl
 have hle : n / 2 ^ s ≤ n := Nat.div_le_self _ _
 rw [e, and_mask (n / 2 ^ s) k (by omega) (by omega)]
 rfl
theorem mask_4_1 : F_flag_place_mask (4, 1) = some 1 := by kernel_rfl
theorem mask_8_1 : F_flag_place_mask (8, 1) = some 1 := by kernel_rfl
theorem mask_11_4 : F_flag_place_mask (11, 4) = some 15 := by kernel_rfl
theorem mask_15_1 : F_flag_place_mask (15, 1) = some 1 := by kernel_rfl
theorem pow_0 : F_ref07_power 0 = some 1 := by kernel_rfl
theorem pow_4 : F_ref07_power 4 = some 16 := by kernel_rfl
theorem pl_8 : F_ref07_place 8 = some (0, 4) := by kernel_rfl
theorem of0_eq (b : Int) : F_flag_Field_Of 0 b = some (ofS 32768 2 b) := by
 unfold F_flag_Field_Of ofS
 rw [may_eq (by omega) (by omega), bnd_some]
 cases hg : goodB b with
 | false => rfl
 | true =>
  simp only [Bool.not_true, Bool.false_eq_true, if_false, beq_self_eq_true, if_true, mask_15_1, bnd_some]
  exact congrArg some (fof_core hg 15 1 (by omega) (by omega))
theorem of1_eq (b : Int) : F_flag_Field_Of 1 b = some (ofS 2048 16 b) := by
 unfold F_flag_Field_Of ofS
 rw [may_eq (by omega) (by omega), bnd_some]
 cases hg : goodB b with
 | false => rfl
 | true =>
  simp only [Bool.not_true, Bool.false_eq_true, if_false, beq_self_eq_true, if_true, mask_11_4, bnd_some, show ((1 : Int) == 0) = false from rfl]
  exact congrArg some (fof_core hg 11 4 (by omega) (by omega))
theorem of4_eq (b : Int) : F_flag_Field_Of 4 b = some (ofS 256 2 b) := by
 unfold F_flag_Field_Of ofS
 rw [may_eq (by omega) (by omega), bnd_some]
 cases hg : goodB b with
 | false => rfl
 | true =>
  simp only [Bool.not_true, Bool.false_eq_true, if_false, beq_self_eq_true, if_true, mask_8_1, bnd_some, show ((4 : Int) == 0) = false from rfl, show ((4 : Int) == 1) = false from rfl, show ((4 : Int) == 2) = false from rfl, show ((4 : Int) == 3) = false from rfl]
  exact congrArg some (fof_core hg 8 1 (by omega) (by omega))
theorem of7_eq (b : Int) : F_flag_Field_Of 7 b = some (ofS 16 2 b) := by
 unfold F_flag_Field_Of ofS
 rw [may_eq (by omega) (by omega), bnd_some]
 cases hg : goodB b with
 | false => rfl
 | true =>
  simp only [Bool.not_true, Bool.false_eq_true, if_false, beq_self_eq_true, if_true, mask_4_1, bnd_some, show ((7 : Int) == 0) = false from rfl, show ((7 : Int) == 1) = false from rfl, show ((7 : Int) == 2) = false from rfl, show ((7 : Int) == 3) = false from rfl, show ((7 : Int) == 4) = false from rfl, show ((7 : Int) == 5) = false from rfl, show ((7 : Int) == 6) = false from rfl]
  exact congrArg some (fof_core hg 4 1 (by omega) (by omega))
theorem rof8_eq (b : Int) : F_ref07_Of 8 b = some (ofS 1 16 b) := by
 unfold F_ref07_Of
 simp only [pl_8, bnd_some, grdEq_self, pow_0, pow_4]
 by_cases h0 : 0 ≤ b
 · have g0 : decide (b < 0) = false := decide_eq_false (by omega)
   by_cases h1 : b ≤ 65535
   · have g1 : decide (65535 < b) = false := decide_eq_false (by omega)
     have e : b.tdiv 1 = b / 1 := Int.tdiv_eq_ediv_of_nonneg h0
     have e2 : (b / 1).tmod 16 = b / 1 % 16 := Int.tmod_eq_emod_of_nonneg (by omega)
     have e3 : IntKind.i64.wrap (b / 1) = b / 1 := wrap_id (by omega) (by omega)
     rw [ofS_yes h0 h1]
     simp only [g0, g1, if_true, show ((4 : Int) == 0) = false from rfl, Bool.false_eq_true, if_false, bnd_some, e, e3, e2]
     rw [if_neg (by omega), if_neg (by omega)]
   · have g1 : decide (65535 < b) = true := decide_eq_true (by omega)
     have g2 : goodB b = false := by simp [goodB, h1]
     unfold ofS
     simp only [g0, g1, g2, if_true, Bool.true_eq_false, Bool.false_eq_true, if_false, bnd_some]
 · have g0 : decide (b < 0) = true := decide_eq_true (by omega)
   have g2 : goodB b = false := by simp [goodB, h0]
   unfold ofS
   simp only [g0, g2, Bool.true_eq_false, Bool.false_eq_true, if_false, bnd_some]
def ansB (o r c k : Int) : Int := 32768 + 2048 * o + 256 * r + 128 + 16 * c + k
theorem lay_5 : F_flag_Field_lay 5 0 1 = some 128 := by kernel_rfl
theorem lay_0 : F_flag_Field_lay 0 128 1 = some 32896 := by kernel_rfl
def tab8 : Bool := (List.range 16).all fun (k : Nat) => decide (F_flag_Field_lay 8 32896 (k : Int) = some (32896 + (k : Int)))
theorem tab8_ok : tab8 = true := by kernel_rfl
def tab1 : Bool := (List.range 16).all fun (k : Nat) => (List.range 16).all fun (o : Nat) => decide (F_flag_Field_lay 1 (32896 + (k : Int)) (o : Int) = some (32896 + (k : Int) + 2048 * (o : Int)))
theorem tab1_ok : tab1 = true := by kernel_rfl
def tab4 : Bool := (List.range 16).all fun (k : Nat) => (List.range 16).all fun (o : Nat) => (List.range 2).all fun (r : Nat) => decide (F_flag_Field_lay 4 (32896 + (k : Int) + 2048 * (o : Int)) (r : Int) = some (32896 + (k : Int) + 2048 * (o : Int) + 256 * (r : Int)))
theorem tab4_ok : tab4 = true := by kernel_rfl
def tab7 : Bool := (List.range 16).all fun (k : Nat) => (List.range 16).all fun (o : Nat) => (List.range 2).all fun (r : Nat) => (List.range 2).all fun (c : Nat) => decide (F_flag_Field_lay 7 (32896 + (k : Int) + 2048 * (o : Int) + 256 * (r : Int)) (c : Int) = some (ansB o r c k))
theorem tab7_ok : tab7 = true := by kernel_rfl
theorem all_range {n : Nat} {p : Nat → Bool} (h : (List.range n).all p = true) {x : Int} (h0 : 0 ≤ x) (h1 : x < n) : ∃ k : Nat, x = (k : Int) ∧ p k = true := by
 obtain ⟨k, rfl⟩ := Int.eq_ofNat_of_zero_le h0
 rw [List.all_eq_true] at h
 exact ⟨k, rfl, h k (by simp; omega)⟩
theorem lay8_eq {k : Int} (h0 : 0 ≤ k) (h1 : k < 16) : F_flag_Field_lay 8 32896 k = some (32896 + k) := by
 obtain ⟨n, rfl, h⟩ := all_range (n := 16) tab8_ok h0 (by omega)
 exact of_decide_eq_true h
theorem lay1_eq {k o : Int} (h0 : 0 ≤ k) (h1 : k < 16) (h2 : 0 ≤ o) (h3 : o < 16) : F_flag_Field_lay 1 (32896 + k) o = some (32896 + k + 2048 * o) := by
 obtain ⟨n, rfl, h⟩ := all_range (n := 16) tab1_ok h0 (by omega)
 obtain ⟨m, rfl, h⟩ := all_range (n := 16) h h2 (by omega)
 exact of_decide_eq_true h
theorem lay4_eq {k o r : Int} (h0 : 0 ≤ k) (h1 : k < 16) (h2 : 0 ≤ o) (h3 : o < 16) (h4 : 0 ≤ r) (h5 : r < 2) : F_flag_Field_lay 4 (32896 + k + 2048 * o) r = some (32896 + k + 2048 * o + 256 * r) := by
 obtain ⟨n, rfl, h⟩ := all_range (n := 16) tab4_ok h0 (by omega)
 obtain ⟨m, rfl, h⟩ := all_range (n := 16) h h2 (by omega)
 obtain ⟨x, rfl, h⟩ := all_range (n := 2) h h4 (by omega)
 exact of_decide_eq_true h
theorem lay7_eq {k o r c : Int} (h0 : 0 ≤ k) (h1 : k < 16) (h2 : 0 ≤ o) (h3 : o < 16) (h4 : 0 ≤ r) (h5 : r < 2) (h6 : 0 ≤ c) (h7 : c < 2) : F_flag_Field_lay 7 (32896 + k + 2048 * o + 256 * r) c = some (ansB o r c k) := by
 obtain ⟨n, rfl, h⟩ := all_range (n := 16) tab7_ok h0 (by omega)
 obtain ⟨m, rfl, h⟩ := all_range (n := 16) h h2 (by omega)
 obtain ⟨x, rfl, h⟩ := all_range (n := 2) h h4 (by omega)
 obtain ⟨y, rfl, h⟩ := all_range (n := 2) h h6 (by omega)
 exact of_decide_eq_true h
def answerS (asked code : Int) : Int := ansB (ofS 2048 16 asked) (ofS 256 2 asked) (ofS 16 2 asked) (code % 16)
theorem flag_Answer_eq {asked code : Int} (h0 : 0 ≤ code) (h1 : code ≤ 255) : F_flag_Answer asked code = some (answerS asked code) := by
 have ho := ofS_lt (d := 2048) (m := 16) (b := asked) (by omega)
 have hr := ofS_lt (d := 256) (m := 2) (b := asked) (by omega)
 have hc := ofS_lt (d := 16) (m := 2) (b := asked) (by omega)
 have hk : Go.bits Go.BinOp.and Go.IntKind.i64 (if 0 > code then 0 else code) 15 = code % 16 := by
  rw [if_neg (by omega)]
  obtain ⟨n, rfl⟩ := Int.eq_ofNat_of_zero_le h0
  exact and_mask n 4 (by omega) (by omega)
 have hk0 : 0 ≤ code % 16 ∧ code % 16 < 16 := by omega
 unfold F_flag_Answer
 simp only [lay_5, bnd_some, lay_0, hk, lay8_eq hk0.1 hk0.2]
 have e1 : step_flag_Answer_0 asked (32896 + code % 16, 0) = some (.inl (32896 + code % 16 + 2048 * ofS 2048 16 asked, 1)) := by
  unfold step_flag_Answer_0
  simp only [show decide ((0 : Int) < 3) = true from rfl, if_true, natOf, show ((0 : Int) ≤ 0) from by omega, Int.toNat_zero, List.getElem?_cons_zero, bnd_some, of1_eq, lay1_eq hk0.1 hk0.2 ho.1 ho.2, grdEq_self]
  rfl
 have e2 : step_flag_Answer_0 asked (32896 + code % 16 + 2048 * ofS 2048 16 asked, 1) = some (.inl (32896 + code % 16 + 2048 * ofS 2048 16 asked + 256 * ofS 256 2 asked, 2)) := by
  unfold step_flag_Answer_0
  simp only [show decide ((1 : Int) < 3) = true from rfl, if_true, natOf, show ((0 : Int) ≤ 1) from by omega, show Int.toNat 1 = 1 from rfl, List.getElem?_cons_succ, List.getElem?_cons_zero, bnd_some, of4_eq, lay4_eq hk0.1 hk0.2 ho.1 ho.2 hr.1 hr.2, grdEq_self]
  rfl
 have e3 : step_flag_Answer_0 asked (32896 + code % 16 + 2048 * ofS 2048 16 asked + 256 * ofS 256 2 asked, 2) = some (.inl (answerS asked code, 3)) := by
  unfold step_flag_Answer_0 answerS
  simp only [show decide ((2 : Int) < 3) = true from rfl, if_true, natOf, show ((0 : Int) ≤ 2) from by omega, show Int.toNat 2 = 2 from rfl, List.getElem?_cons_succ, List.getElem?_cons_zero, bnd_some, of7_eq, lay7_eq hk0.1 hk0.2 ho.1 ho.2 hr.1 hr.2 hc.1 hc.2, grdEq_self]
  rfl
 have e4 : step_flag_Answer_0 asked (answerS asked code, 3) = some (.inr (answerS asked code)) := by
  unfold step_flag_Answer_0
  rfl
 rw [loopS_next e1, loopS_next e2, loopS_next e3, loopS_out e4]
 rfl
theorem answerS_of (asked code : Int) : (0 ≤ answerS asked code ∧ answerS asked code + 512 ≤ 65535) ∧ ofS 32768 2 (answerS asked code) = 1 ∧ ofS 512 2 (answerS asked code) = 0 ∧ ofS 1 16 (answerS asked code) = code % 16 ∧
 ofS 32768 2 (answerS asked code + 512) = 1 ∧ ofS 512 2 (answerS asked code + 512) = 1 ∧ ofS 1 16 (answerS asked code + 512) = code % 16 := by
 have ho := ofS_lt (d := 2048) (m := 16) (b := asked) (by omega)
 have hr := ofS_lt (d := 256) (m := 2) (b := asked) (by omega)
 have hc := ofS_lt (d := 16) (m := 2) (b := asked) (by omega)
 have hb : 0 ≤ answerS asked code ∧ answerS asked code + 512 ≤ 65535 := by unfold answerS ansB; omega
 rw [ofS_yes hb.1 (by omega), ofS_yes hb.1 (by omega), ofS_yes hb.1 (by omega), ofS_yes (by omega) hb.2, ofS_yes (by omega) hb.2, ofS_yes (by omega) hb.2]
 refine ⟨hb, ?_⟩
 unfold answerS ansB
 generalize ofS 2048 16 asked = o at *
 generalize ofS 256 2 asked = r at *
 generalize ofS 16 2 asked = c at *
 omega
end Go.Abs

namespace Go.Abs
open Go
abbrev Ep := Bool × Int × Int × Int × Bool
def op0 : Ep := (false, 0, 0, 0, false)
def isO (r : RRt) : Bool := r.2.1 == 41
def goodO (r : RRt) : Bool := (r.1 == [0]) && inC r.2.2.1 65535 && inC r.2.2.2.1 4294967295
def optO (r : RRt) : Ep := (true, r.2.2.1, r.2.2.2.1 / 16777216, r.2.2.2.1 / 65536 % 256, decide (r.2.2.2.1 / 32768 % 2 = 1))
def findS (m : Mt) : Ep × Int :=
 if (m.2.2.2.1.any isO || m.2.2.2.2.1.any isO) = true then (op0, 7) else
 match m.2.2.2.2.2.filter isO with
 | [] => (op0, 0)
 | [r] => if goodO r = true then (optO r, 0) else (op0, 7)
 | _ => (op0, 7)
def scanO (l : List RRt) : Int ⊕ Unit := scanF (fun i x => if isO x = true then some (Sum.inl (β := Unit) (i : Int)) else none) (.inr ()) 0 l
theorem scanO_go : ∀ (l : List RRt) (i : Nat), (l.any isO = false ∧ scanF (fun i x => if isO x = true then some (Sum.inl (β := Unit) (i : Int)) else none) (.inr ()) i l = .inr ()) ∨
 ∃ u r v, l = u ++ r :: v ∧ u.any isO = false ∧ isO r = true ∧ scanF (fun i x => if isO x = true then some (Sum.inl (β := Unit) (i : Int)) else none) (.inr ()) i l = .inl ((i + u.length : Nat) : Int)
 | [], i => .inl ⟨rfl, rfl⟩
 | x :: l, i => by
  unfold scanF
  by_cases h : isO x = true
  · simp only [h, if_true]
    exact .inr ⟨[], x, l, rfl, rfl, h, rfl⟩
  · simp only [h, Bool.false_eq_true, if_false]
    rcases scanO_go l (i + 1) with ⟨h1, h2⟩ | ⟨u, r, v, h1, h2, h3, h4⟩
    · exact .inl ⟨by simp [h, h1], h2⟩
    · refine .inr ⟨x :: u, r, v, by simp [h1], by simp [h, h2], h3, ?_⟩
      rw [h4]
      congr 2
      simp only [List.length_cons]
      omega
theorem scanO_cases (l : List RRt) : (l.any isO = false ∧ scanO l = .inr ()) ∨ ∃ u r v, l = u ++ r :: v ∧ u.any isO = false ∧ isO r = true ∧ scanO l = .inl (u.length : Int) := by
 have := scanO_go l 0
 simpa [scanO] using this
theorem any_filter (l : List RRt) : l.any isO = false ↔ l.filter isO = [] := by
 rw [List.filter_eq_nil_iff, List.any_eq_false]
theorem edns_in_eq (n m : Int) : F_edns_in n m = some (inC n m) := by
 unfold F_edns_in inC
 by_cases h0 : 0 ≤ n <;> simp [h0]
theorem find_loop {l : List RRt} {step : Int → Option (Int ⊕ (Int ⊕ Unit))} (hl : (l.length : Int) ≤ maxI)
 (hs : ∀ (i : Nat) (x : RRt), l[i]? = some x → i < l.length → step (i : Int) = if isO x = true then some (.inr (.inl (i : Int))) else some (.inl (IntKind.i64.wrap ((i : Int) + 1)))) (he : step (l.length : Int) = some (.inr (.inr ()))) : loopS step 0 = some (scanO l) := by
 refine loop_scan _ _ (fun i x hx => ?_) he
 have hi := (List.getElem?_eq_some_iff.1 hx).1
 unfold maxI at hl
 rw [hs i x hx hi, wrap_id (by omega) (by omega)]
 by_cases h : isO x = true <;> simp [h]
theorem find_step {l : List RRt} {step : Int → Option (Int ⊕ (Int ⊕ Unit))} (hst : step = fun i => if decide (i < (l.length : Int)) = true then natOf i fun n => bnd (l[n]?) fun x => bnd (F_edns_opt (x.1, x.2.1, x.2.2.1, x.2.2.2.1, x.2.2.2.2)) fun v => if v = true then some (.inr (.inl i)) else some (.inl (IntKind.i64.wrap (i + 1))) else some (.inr (.inr ())))
 (hl : (l.length : Int) ≤ maxI) : loopS step 0 = some (scanO l) := by
 subst hst
 refine find_loop hl (fun i x hx hi => ?_) ?_
 · simp only [show decide ((i : Int) < (l.length : Int)) = true from decide_eq_true (by omega), if_true, natOf, Int.natCast_nonneg, Int.toNat_natCast, hx, bnd_some, F_edns_opt]
   rfl
 · simp
theorem and_pow15 (k : Nat) : k &&& 2 ^ 15 = if k / 2 ^ 15 % 2 = 1 then 2 ^ 15 else 0 := by
 apply Nat.eq_of_testBit_eq
 intro i
 rw [Nat.testBit_and, Nat.testBit_two_pow]
 by_cases hi : 15 = i
 · subst hi
   rw [Nat.testBit_eq_decide_div_mod_eq]
   by_cases h : k / 2 ^ 15 % 2 = 1
   · rw [if_pos h, Nat.testBit_two_pow]; simp [h]
   · rw [if_neg h]; simp [h]
 · by_cases h : k / 2 ^ 15 % 2 = 1
   · rw [if_pos h, Nat.testBit_two_pow]; simp [hi]
   · rw [if_neg h]; simp [hi]
theorem do_bit {n : Int} (h0 : 0 ≤ n) (h1 : n ≤ 4294967295) : (Go.bits .and .i64 n 32768 != 0) = decide (n / 32768 % 2 = 1) := by
 obtain ⟨k, rfl⟩ := Int.eq_ofNat_of_zero_le h0
 have := i64_and_nat k 32768 (by omega) (by omega)
 rw [show ((32768 : Nat) : Int) = 32768 from rfl] at this
 rw [this, show (32768 : Nat) = 2 ^ 15 from rfl, and_pow15]
 have e : ((k : Int) / 32768 % 2 = 1) ↔ (k / 2 ^ 15 % 2 = 1) := by omega
 by_cases h : k / 2 ^ 15 % 2 = 1
 · rw [decide_eq_true (e.2 h)]
   simp [h]
 · rw [decide_eq_false (fun q => h (e.1 q))]
   simp [h]
theorem low8 {n : Int} (h0 : 0 ≤ n) (h1 : n ≤ 4294967295) : Go.bits .and .i64 (n.fdiv 65536) 255 = n / 65536 % 256 := by
 obtain ⟨k, rfl⟩ := Int.eq_ofNat_of_zero_le h0
 have e : ((k : Int)).fdiv 65536 = ((k / 65536 : Nat) : Int) := by
  rw [Int.fdiv_eq_ediv_of_nonneg _ (by omega)]; rfl
 rw [e]
 have := and_mask (k / 65536) 8 (by omega) (by omega)
 rw [show ((2 ^ 8 - 1 : Nat) : Int) = 255 from rfl] at this
 rw [this]
 rfl
theorem findS_any {m : Mt} (h : m.2.2.2.1.any isO = true ∨ m.2.2.2.2.1.any isO = true) : findS m = (op0, 7) := by
 unfold findS
 rw [if_pos (by rcases h with h | h <;> simp [h])]
theorem findS_none {m : Mt} (h1 : m.2.2.2.1.any isO = false) (h2 : m.2.2.2.2.1.any isO = false) (h3 : m.2.2.2.2.2.any isO = false) : findS m = (op0, 0) := by
 unfold findS
 rw [if_neg (by simp [h1, h2]), (any_filter _).1 h3]
theorem findS_some {m : Mt} {u v : List RRt} {r : RRt} (h1 : m.2.2.2.1.any isO = false) (h2 : m.2.2.2.2.1.any isO = false) (h3 : m.2.2.2.2.2 = u ++ r :: v) (hu : u.any isO = false) (hr : isO r = true) :
 findS m = if (v.any isO || !goodO r) = true then (op0, 7) else (optO r, 0) := by
 unfold findS
 rw [if_neg (by simp [h1, h2]), h3, List.filter_append, (any_filter _).1 hu, List.nil_append, List.filter_cons, hr, if_pos rfl]
 cases hv : v.any isO with
 | false =>
  rw [(any_filter _).1 hv]
  cases hg : goodO r <;> simp [hg]
 | true =>
  have : v.filter isO ≠ [] := fun h => by rw [← any_filter, hv] at h; simp at h
  obtain ⟨x, l, hx⟩ := List.exists_cons_of_ne_nil this
  rw [hx]
  simp
theorem find_two {m : Mt} (hf : fewM m) : loopS (step_edns_Find_1 m) 0 = some (scanO m.2.2.2.1) ∧ loopS (step_edns_Find_2 m) 0 = some (scanO m.2.2.2.2.1) ∧ loopS (step_edns_Find_3 m) 0 = some (scanO m.2.2.2.2.1) ∧
 loopS (step_edns_Find_5 m) 0 = some (scanO m.2.2.2.1) ∧ loopS (step_edns_Find_6 m) 0 = some (scanO m.2.2.2.2.1) ∧ loopS (step_edns_Find_7 m) 0 = some (scanO m.2.2.2.2.1) :=
 ⟨find_step (by funext i; unfold step_edns_Find_1; simp only [grdEq_self]) hf.2.1, find_step (by funext i; unfold step_edns_Find_2; simp only [grdEq_self]) hf.2.2.1, find_step (by funext i; unfold step_edns_Find_3; simp only [grdEq_self]) hf.2.2.1,
  find_step (by funext i; unfold step_edns_Find_5; simp only [grdEq_self]) hf.2.1, find_step (by funext i; unfold step_edns_Find_6; simp only [grdEq_self]) hf.2.2.1, find_step (by funext i; unfold step_edns_Find_7; simp only [grdEq_self]) hf.2.2.1⟩
theorem edns_Find_eq {m : Mt} (hf : fewM m) : F_edns_Find m = some (findS m) := by
 obtain ⟨e1, e2, e3, e5, e6, e7⟩ := find_two hf
 have e0 : loopS (step_edns_Find_0 m) 0 = some (scanO m.2.2.2.2.2) := find_step (by funext i; unfold step_edns_Find_0; simp only [grdEq_self]) hf.2.2.2
 unfold F_edns_Find
 simp only [grdEq_self]
 rw [e0, bnd_some]
 have hl : (m.2.2.2.2.2.length : Int) ≤ maxI := hf.2.2.2
 rcases scanO_cases m.2.2.2.1 with ⟨a1, a2⟩ | ⟨u1, r1, v1, a1, a2, a3, a4⟩
 · rcases scanO_cases m.2.2.2.2.1 with ⟨b1, b2⟩ | ⟨u2, r2, v2, b1, b2, b3, b4⟩
   · rcases scanO_cases m.2.2.2.2.2 with ⟨c1, c2⟩ | ⟨u, r, v, c1, c2, c3, c4⟩
     · rw [findS_none a1 b1 c1]
       simp only [c2, e5, e6, e7, a2, b2, bnd_some, Bool.false_eq_true, if_false]
       rfl
     · rw [findS_some a1 b1 c1 c2 c3]
       have hn : ¬ ((u.length : Int) < 0) := by omega
       have hlen : u.length + 1 ≤ m.2.2.2.2.2.length := by rw [c1]; simp
       unfold maxI at hl
       have hw : Go.IntKind.i64.wrap ((u.length : Int) + 1) = ((u.length + 1 : Nat) : Int) := by rw [wrap_id (by omega) (by omega)]; rfl
       have hg : m.2.2.2.2.2[u.length]? = some r := by rw [c1]; simp
       have hd : List.drop (u.length + 1) m.2.2.2.2.2 = v := by rw [c1]; simp
       have e4 : loopS (step_edns_Find_4 m r (u.length + 1)) 0 = some (scanO v) := by
        rw [← hd]
        refine find_step (by funext i; unfold step_edns_Find_4; simp only [grdEq_self]) ?_
        unfold maxI
        simp only [List.length_drop]
        omega
       simp only [c4, e1, e2, e3, a2, b2, bnd_some, Bool.false_eq_true, if_false, hn, decide_false, natOf, Int.natCast_nonneg, if_true, Int.toNat_natCast, hg, hw]
       rw [grdp hlen, e4, bnd_some]
       have hgood : ∀ {A : Type} (K : Bool → Option A), bnd (if (!r.fst == [0]) = false then bnd (F_edns_in r.snd.snd.fst 65535) fun v => if (!v) = false then bnd (F_edns_in r.snd.snd.snd.fst 4294967295) fun v => some (!v) else some true else some true) K = K (!goodO r) := by
        intro A K
        simp only [edns_in_eq, bnd_some]
        unfold goodO
        cases (r.fst == [0]) <;> cases inC r.snd.snd.fst 65535 <;> cases inC r.snd.snd.snd.fst 4294967295 <;> rfl
       have hopt : goodO r = true → (true, r.snd.snd.fst, Int.fdiv r.snd.snd.snd.fst 16777216, Go.bits Go.BinOp.and Go.IntKind.i64 (Int.fdiv r.snd.snd.snd.fst 65536) 255, Go.bits Go.BinOp.and Go.IntKind.i64 r.snd.snd.snd.fst 32768 != 0) = optO r := by
        intro h
        unfold goodO inC at h
        simp only [Bool.and_eq_true, decide_eq_true_eq] at h
        unfold optO
        rw [do_bit h.2.1 h.2.2, low8 h.2.1 h.2.2, Int.fdiv_eq_ediv_of_nonneg _ (by omega)]
       rcases scanO_cases v with ⟨d1, d2⟩ | ⟨u3, r3, v3, d1, d2, d3, d4⟩
       · simp only [d2, hgood, d1, Bool.false_or]
         cases hgo : goodO r with
         | false => rfl
         | true =>
          simp only [Bool.not_true, Bool.false_eq_true, if_false, bnd_some]
          rw [← hopt hgo]
       · have hv : v.any isO = true := by rw [d1]; simp [d3]
         simp only [d4, hv, Bool.true_or, if_true, show decide ((0 : Int) ≤ (u3.length : Int)) = true from decide_eq_true (by omega), Bool.true_eq_false, if_false, bnd_some]
         rfl
   · have hb : m.2.2.2.2.1.any isO = true := by rw [b1]; simp [b3]
     rw [findS_any (.inr hb)]
     simp only [e1, e2, e3, e5, e6, e7, a2, b4, bnd_some, show decide ((0 : Int) ≤ (u2.length : Int)) = true from decide_eq_true (by omega), if_true]
     cases scanO m.2.2.2.2.2 <;> rfl
 · have ha : m.2.2.2.1.any isO = true := by rw [a1]; simp [a3]
   rw [findS_any (.inl ha)]
   simp only [e1, e2, e3, e5, e6, e7, a4, bnd_some, show decide ((0 : Int) ≤ (u1.length : Int)) = true from decide_eq_true (by omega), if_true, Bool.true_eq_false, if_false]
   cases scanO m.2.2.2.2.2 <;> rfl
theorem count_eq {l : List RRt} (hl : (l.length : Int) ≤ maxI) : F_ref09_count l = some ((l.filter isO).length : Int) := by
 unfold F_ref09_count
 have key : ∀ (v u : List RRt), l = u ++ v → loopS (step_ref09_count_0 l) (((u.filter isO).length : Int), (u.length : Int)) = some ((l.filter isO).length : Int) := by
  intro v
  induction v with
  | nil =>
   intro u hu
   rw [List.append_nil] at hu
   subst hu
   refine loopS_out ?_
   unfold step_ref09_count_0
   simp
  | cons x v ih =>
   intro u hu
   have hx : l[u.length]? = some x := by rw [hu]; simp
   have hi := (List.getElem?_eq_some_iff.1 hx).1
   have hle := List.length_filter_le isO u
   unfold maxI at hl
   have := ih (u ++ [x]) (by rw [hu]; simp)
   rw [← this]
   refine loopS_next ?_
   unfold step_ref09_count_0
   simp only [show decide ((u.length : Int) < (l.length : Int)) = true from decide_eq_true (by omega), if_true, natOf, Int.natCast_nonneg, Int.toNat_natCast, hx, bnd_some]
   rw [wrap_id (show -9223372036854775808 ≤ (u.length : Int) + 1 by omega) (by omega), wrap_id (show -9223372036854775808 ≤ ((u.filter isO).length : Int) + 1 by omega) (by omega)]
   by_cases h : isO x = true
   · have h' : (x.snd.fst == 41) = true := h
     simp only [h', if_true, List.filter_append, List.filter_cons, h, List.filter_nil, List.length_append, List.length_cons, List.length_nil, grdEq_self]
     rfl
   · have h' : (x.snd.fst == 41) = false := by simpa [isO] using h
     simp only [h', Bool.false_eq_true, if_false, List.filter_append, List.filter_cons, h, List.filter_nil, List.length_append, List.length_cons, List.length_nil, grdEq_self]
     rfl
 have := key l [] rfl
 simp only [List.filter_nil, List.length_nil] at this
 rw [show ((0 : Int), (0 : Int)) = (((0 : Nat) : Int), ((0 : Nat) : Int)) from rfl, this]
 rfl
theorem ref09_Find_eq {m : Mt} (hf : fewM m) : F_ref09_Find m = some (findS m) := by
 have hl : (m.2.2.2.2.2.length : Int) ≤ maxI := hf.2.2.2
 unfold F_ref09_Find
 simp only [grdEq_self, count_eq hf.2.1, count_eq hf.2.2.1, count_eq hl, bnd_some]
 have h1 : ∀ l : List RRt, l.any isO = true → decide ((0 : Int) < ((l.filter isO).length : Int)) = true := by
  intro l h
  refine decide_eq_true ?_
  have : l.filter isO ≠ [] := fun h' => by rw [← any_filter, h] at h'; simp at h'
  have := List.length_pos_iff.2 this
  omega
 have h0 : ∀ l : List RRt, l.any isO = false → decide ((0 : Int) < ((l.filter isO).length : Int)) = false := by
  intro l h
  rw [(any_filter l).1 h]
  rfl
 cases ha : m.2.2.2.1.any isO with
 | true =>
  rw [findS_any (.inl ha)]
  simp only [h1 _ ha, Bool.true_eq_false, if_false, bnd_some, if_true]
  rfl
 | false =>
  cases hb : m.2.2.2.2.1.any isO with
  | true =>
   rw [findS_any (.inr hb)]
   simp only [h0 _ ha, h1 _ hb, Bool.true_eq_false, if_false, bnd_some, if_true]
   rfl
  | false =>
   simp only [h0 _ ha, h0 _ hb, if_true, bnd_some]
   have hloop : loopS (step_ref09_Find_0 m) 0 = some (scanF (fun i x => if isO x = true then some (Sum.inr (α := Unit) (if goodO x = true then ((0 : Int), optO x) else (7, op0))) else none) (.inl ()) 0 m.2.2.2.2.2) := by
    refine loop_scan _ _ (fun i x hx => ?_) (by unfold step_ref09_Find_0; simp [grdEq_self])
    have hi := (List.getElem?_eq_some_iff.1 hx).1
    unfold maxI at hl
    unfold step_ref09_Find_0
    simp only [show decide ((i : Int) < (m.2.2.2.2.2.length : Int)) = true from decide_eq_true (by omega), if_true, natOf, Int.natCast_nonneg, Int.toNat_natCast, hx, bnd_some, grdEq_self]
    rw [wrap_id (show -9223372036854775808 ≤ (i : Int) + 1 by omega) (by omega)]
    by_cases h : isO x = true
    · have h' : (x.snd.fst != 41) = false := by simpa [isO] using h
      simp only [h', Bool.false_eq_true, if_false, h, if_true]
      have hgood : (if (!x.fst == [0]) = false then if decide (x.snd.snd.fst < 0) = false then if decide (65535 < x.snd.snd.fst) = false then if decide (x.snd.snd.snd.fst < 0) = false then some (decide (4294967296 ≤ x.snd.snd.snd.fst)) else some true else some true else some true else some true) = some (!goodO x) := by
       unfold goodO inC
       cases (x.fst == [0])
       · rfl
       · by_cases c1 : x.snd.snd.fst < 0
         · simp [c1, show ¬ 0 ≤ x.snd.snd.fst by omega]
         · by_cases c2 : 65535 < x.snd.snd.fst
           · simp [c1, c2, show ¬ x.snd.snd.fst ≤ 65535 by omega]
           · by_cases c3 : x.snd.snd.snd.fst < 0
             · simp [c1, c2, c3, show ¬ 0 ≤ x.snd.snd.snd.fst by omega]
             · by_cases c4 : 4294967296 ≤ x.snd.snd.snd.fst
               · simp [c1, c2, c3, c4, show ¬ x.snd.snd.snd.fst ≤ 4294967295 by omega]
               · simp [c1, c2, c3, c4, show 0 ≤ x.snd.snd.fst by omega, show x.snd.snd.fst ≤ 65535 by omega, show 0 ≤ x.snd.snd.snd.fst by omega, show x.snd.snd.snd.fst ≤ 4294967295 by omega]
      rw [hgood]
      cases hgo : goodO x with
      | false => rfl
      | true =>
       have hgo' := hgo
       unfold goodO inC at hgo'
       simp only [Bool.and_eq_true, decide_eq_true_eq] at hgo'
       obtain ⟨⟨_, _⟩, g1, g2⟩ := hgo'
       simp only [bnd_some, Bool.not_true, Bool.false_eq_true, if_false, if_true]
       unfold optO
       rw [Int.tdiv_eq_ediv_of_nonneg g1, Int.tdiv_eq_ediv_of_nonneg g1, Int.tdiv_eq_ediv_of_nonneg g1, wrap_id (show -9223372036854775808 ≤ x.snd.snd.snd.fst / 16777216 by omega) (by omega),
        wrap_id (show -9223372036854775808 ≤ x.snd.snd.snd.fst / 65536 by omega) (by omega), wrap_id (show -9223372036854775808 ≤ x.snd.snd.snd.fst / 32768 by omega) (by omega),
        Int.tmod_eq_emod_of_nonneg (show 0 ≤ x.snd.snd.snd.fst / 65536 by omega), Int.tmod_eq_emod_of_nonneg (show 0 ≤ x.snd.snd.snd.fst / 32768 by omega)]
       rfl
    · have h' : (x.snd.fst != 41) = true := by simpa [isO] using h
      simp only [h', if_true, h, Bool.false_eq_true, if_false]
      rfl
   rw [hloop]
   rcases scanO_cases m.2.2.2.2.2 with ⟨c1, c2⟩ | ⟨u, r, v, c1, c2, c3, c4⟩
   · rw [findS_none ha hb c1, (any_filter _).1 c1]
     have : ∀ (l : List RRt) (i : Nat), l.any isO = false → scanF (fun i x => if isO x = true then some (Sum.inr (α := Unit) (if goodO x = true then ((0 : Int), optO x) else (7, op0))) else none) (.inl ()) i l = .inl () := by
      intro l
      induction l with
      | nil => intro i _; rfl
      | cons x l ih =>
       intro i h
       simp only [List.any_cons, Bool.or_eq_false_iff] at h
       unfold scanF
       simp only [h.1, Bool.false_eq_true, if_false]
       exact ih _ h.2
     rw [this _ _ c1]
     rfl
   · rw [findS_some ha hb c1 c2 c3]
     have : ∀ (u : List RRt) (i : Nat), u.any isO = false → scanF (fun i x => if isO x = true then some (Sum.inr (α := Unit) (if goodO x = true then ((0 : Int), optO x) else (7, op0))) else none) (.inl ()) i (u ++ r :: v) = .inr (if goodO r = true then ((0 : Int), optO r) else (7, op0)) := by
      intro u
      induction u with
      | nil => intro i _; simp only [List.nil_append]; unfold scanF; simp only [c3, if_true]
      | cons x l ih =>
       intro i h
       simp only [List.any_cons, Bool.or_eq_false_iff] at h
       simp only [List.cons_append]
       unfold scanF
       simp only [h.1, Bool.false_eq_true, if_false]
       exact ih _ h.2
     rw [c1, this u 0 c2, List.filter_append, (any_filter _).1 c2, List.nil_append, List.filter_cons, c3, if_pos rfl]
     cases hv : v.any isO with
     | false =>
      rw [(any_filter _).1 hv]
      cases goodO r <;> rfl
     | true =>
      have h2 : v.filter isO ≠ [] := fun h => by rw [← any_filter, hv] at h; simp at h
      have h3 := List.length_pos_iff.2 h2
      rw [show decide ((1 : Int) < ((r :: v.filter isO).length : Int)) = true from decide_eq_true (by simp only [List.length_cons]; omega)]
      rfl
def optE (e : Int) (d : Bool) : RRt := ([0], 41, 4096, e * 16777216 + (if d = true then 32768 else 0), [])
def tabO : Bool := (List.range 16).all fun (e : Nat) => decide (F_edns_Opt_Record (true, 4096, (e : Int), 0, true) = some (optE e true, true)) && decide (F_edns_Opt_Record (true, 4096, (e : Int), 0, false) = some (optE e false, true))
theorem tabO_ok : tabO = true := by kernel_rfl
theorem opt_Record_eq {e : Int} (h0 : 0 ≤ e) (h1 : e < 16) (d : Bool) : F_edns_Opt_Record (true, 4096, e, 0, d) = some (optE e d, true) := by
 obtain ⟨n, rfl, h⟩ := all_range (n := 16) tabO_ok h0 (by omega)
 simp only [Bool.and_eq_true] at h
 cases d with
 | true => exact of_decide_eq_true h.1
 | false => exact of_decide_eq_true h.2
end Go.Abs

namespace Go.Abs
open Go
abbrev Ak := Int × Int × List UInt8 × Int × Int × Bool × Int × Int × Int × Bool
def mkA (id bits : Int) (q : Qt) (o : Ep) : Ak := (id, bits, q.1, q.2.1, q.2.2, o.1, o.2.1, o.2.2.1, o.2.2.2.1, o.2.2.2.2)
def q0 : Qt := ([], 0, 0)
def ak0 : Ak := mkA 0 0 q0 op0
def qA (a : Ak) : Qt := (a.2.2.1, a.2.2.2.1, a.2.2.2.2.1)
def askS (s : List UInt8) : Option (Qt × Ep) :=
 if (decS s).2 ≠ 0 ∨ (findS (decS s).1).2 ≠ 0 then none else
 match (decS s).1.2.2.1 with
 | [q] => some (q, (findS (decS s).1).1)
 | _ => none
def readQ (id bits : Int) (q : Qt) (o : Ep) : Ak × Int × Int :=
 if o.2.2.2.1 ≠ 0 then (mkA id bits q o, 1, 16) else if q.2.2 ≠ 1 then (mkA id bits q o, 1, 5)
 else if q.2.1 = 0 ∨ q.2.1 = 41 ∨ (128 ≤ q.2.1 ∧ q.2.1 ≤ 255) then (mkA id bits q o, 1, 4) else (mkA id bits q o, 2, 0)
def readR (s : List UInt8) : Ak × Int × Int :=
 if (headS s).2.2 = false ∨ ofS 32768 2 (headS s).2.1 = 1 then (ak0, 0, 0)
 else if ofS 2048 16 (headS s).2.1 ≠ 0 then (mkA (headS s).1 (headS s).2.1 q0 op0, 1, 4)
 else match askS s with
  | none => (mkA (headS s).1 (headS s).2.1 q0 op0, 1, 1)
  | some (q, o) => readQ (headS s).1 (headS s).2.1 q o
@[reducible] def askT (o : Option (Qt × Ep)) : Qt × Ep × Bool := match o with
 | some (q, o) => (q, o, true)
 | none => (q0, op0, false)
theorem reply_asked_eq {s : List UInt8} (hs : s.length ≤ 1000000) : F_reply_asked s = some (askT (askS s)) := by
 unfold F_reply_asked
 rw [msg_Decode_eq hs, bnd_some]
 have hf := decS_few s
 have e1 : F_edns_Find ((decS s).1.1, (decS s).1.2.1, (decS s).1.2.2.1, (decS s).1.2.2.2.1, (decS s).1.2.2.2.2.1, (decS s).1.2.2.2.2.2) = some (findS (decS s).1) := edns_Find_eq hf
 simp only [e1, bnd_some, grdEq_self]
 unfold askS
 by_cases h : (decS s).2 = 0
 · have h' : ((decS s).2 != 0) = false := by simpa using h
   simp only [h', if_true]
   cases hq : (decS s).1.2.2.1 with
   | nil =>
    simp
    rfl
   | cons q l =>
    cases l with
    | nil =>
     by_cases h2 : (findS (decS s).1).2 = 0
     · have h2' : ((findS (decS s).1).2 != 0) = false := by simpa using h2
       simp [h2', h, h2, askT, bnd_some]
     · have h2' : ((findS (decS s).1).2 != 0) = true := by simpa using h2
       simp [h2', h, h2, askT, q0, op0, bnd_some]
    | cons q2 l =>
     have : (((q :: q2 :: l).length : Int) != 1) = true := by
      simp only [List.length_cons, bne_iff_ne, ne_eq]
      omega
     rw [this]
     simp only [bnd_some, if_true]
     have e : (if (decS s).snd ≠ 0 ∨ (findS (decS s).fst).snd ≠ 0 then none else (none : Option (Qt × Ep))) = none := by split <;> rfl
     rw [e]
     rfl
 · have h' : ((decS s).2 != 0) = true := by simpa using h
   simp only [h', Bool.true_eq_false, if_false, bnd_some, if_true]
   rw [if_pos (.inl h)]
   rfl
theorem kind_eq (k : Int) : (if (k == 0) = false then if (k == 41) = false then if decide (128 ≤ k) = true then some (decide (k ≤ 255)) else some false else some true else some true) = some (decide (k = 0 ∨ k = 41 ∨ (128 ≤ k ∧ k ≤ 255))) := by
 by_cases h0 : k = 0
 · simp [h0]
 · by_cases h1 : k = 41
   · simp [h1]
   · by_cases h2 : 128 ≤ k
     · simp [h0, h1, h2]
     · simp [h0, h1, h2]
theorem readQ_eq (id bits : Int) (q : Qt) (o : Ep) : (if (o.2.2.2.1 != 0) = true then some (mkA id bits q o, (1 : Int), (16 : Int)) else if (q.2.2 != 1) = true then some (mkA id bits q o, 1, 5) else if (decide (q.2.1 = 0 ∨ q.2.1 = 41 ∨ (128 ≤ q.2.1 ∧ q.2.1 ≤ 255))) = true then some (mkA id bits q o, 1, 4) else some (mkA id bits q o, 2, 0)) = some (readQ id bits q o) := by
 unfold readQ
 by_cases h1 : o.2.2.2.1 = 0
 · by_cases h2 : q.2.2 = 1
   · by_cases h3 : q.2.1 = 0 ∨ q.2.1 = 41 ∨ (128 ≤ q.2.1 ∧ q.2.1 ≤ 255)
     · simp [h1, h2, h3]
     · simp [h1, h2, h3]
   · simp [h1, h2]
 · simp [h1]
theorem reply_Read_eq {s : List UInt8} (hs : s.length ≤ 1000000) : F_reply_Read s = some (readR s) := by
 unfold F_reply_Read readR
 rw [msg_Head_eq (by unfold maxI; omega), bnd_some, reply_asked_eq hs]
 rcases headS s with ⟨id, bits, is⟩
 cases is with
 | false =>
  simp only [Bool.not_false, Bool.true_eq_false, if_false, bnd_some, true_or, if_true, grdEq_self]
  rfl
 | true =>
  simp only [of0_eq, of1_eq, bnd_some, grdEq_self, Bool.not_true, if_true]
  by_cases h2 : ofS 32768 2 bits = 1
  · simp only [h2, beq_self_eq_true, if_true, bnd_some, or_true]
    rfl
  · have h2' : (ofS 32768 2 bits == 1) = false := by simpa using h2
    simp only [h2', Bool.false_eq_true, if_false, bnd_some, h2, or_self, Bool.true_eq_false]
    by_cases h3 : ofS 2048 16 bits = 0
    · have h3' : (ofS 2048 16 bits != 0) = false := by simpa using h3
      have h3'' : ¬ (ofS 2048 16 bits ≠ 0) := by simp [h3]
      simp only [h3', Bool.false_eq_true, if_false, h3'']
      rcases askS s with _ | ⟨q, o⟩
      · rfl
      · simp only [askT, Bool.not_true, Bool.false_eq_true, if_false]
        rw [kind_eq, bnd_some]
        exact readQ_eq id bits q o
    · have h3' : (ofS 2048 16 bits != 0) = true := by simpa using h3
      simp only [h3', if_true, ne_eq, h3, not_false_eq_true]
      rfl
theorem readR_kinds (s : List UInt8) : ((readR s).2.1 = 0 ∧ readR s = (ak0, 0, 0)) ∨
 ((readR s).2.1 = 1 ∧ ((readR s).2.2 = 1 ∨ (readR s).2.2 = 4 ∨ (readR s).2.2 = 5 ∨ (readR s).2.2 = 16)) ∨
 ((readR s).2.1 = 2 ∧ (readR s).2.2 = 0 ∧ ∃ q o, askS s = some (q, o) ∧ (readR s).1 = mkA (headS s).1 (headS s).2.1 q o ∧ o.2.2.2.1 = 0 ∧ q.2.2 = 1 ∧ ¬ (q.2.1 = 0 ∨ q.2.1 = 41 ∨ (128 ≤ q.2.1 ∧ q.2.1 ≤ 255))) := by
 unfold readR
 split
 · exact .inl ⟨rfl, rfl⟩
 · split
   · exact .inr (.inl ⟨rfl, .inr (.inl rfl)⟩)
   · cases askS s with
     | none => exact .inr (.inl ⟨rfl, .inl rfl⟩)
     | some p =>
      obtain ⟨q, o⟩ := p
      simp only
      unfold readQ
      split
      · exact .inr (.inl ⟨rfl, .inr (.inr (.inr rfl))⟩)
      · rename_i h1
        split
        · exact .inr (.inl ⟨rfl, .inr (.inr (.inl rfl))⟩)
        · rename_i h2
          split
          · exact .inr (.inl ⟨rfl, .inr (.inl rfl)⟩)
          · rename_i h3
            exact .inr (.inr ⟨rfl, rfl, q, o, rfl, rfl, by simpa using h1, by simpa using h2, h3⟩)
theorem askS_some {s : List UInt8} {q : Qt} {o : Ep} (h : askS s = some (q, o)) : (decS s).2 = 0 ∧ (decS s).1.2.2.1 = [q] ∧ findS (decS s).1 = (o, 0) := by
 unfold askS at h
 split at h
 · simp at h
 · rename_i hn
   have h1 : (decS s).2 = 0 := Classical.byContradiction fun c => hn (.inl c)
   have h2 : (findS (decS s).1).2 = 0 := Classical.byContradiction fun c => hn (.inr c)
   split at h
   · rename_i q' hq
     simp only [Option.some.injEq, Prod.mk.injEq] at h
     obtain ⟨rfl, rfl⟩ := h
     exact ⟨h1, hq, Prod.ext rfl h2⟩
   · simp at h
theorem askS_may {s : List UInt8} {q : Qt} {o : Ep} (h : askS s = some (q, o)) : okQ q = true := by
 obtain ⟨h1, h2, _⟩ := askS_some h
 have := (checkM_iff (decS_may h1)).2.2.2.1
 exact this q (by rw [h2]; simp)
end Go.Abs

namespace Go.Abs
open Go
theorem live17 : F_law17_live = some true := by kernel_rfl
end Go.Abs

namespace Go.Abs
open Go
def qsA (a : Ak) : List Qt := if a.2.2.1 = [] then [] else [qA a]
def arA (a : Ak) (code : Int) : List RRt := if a.2.2.2.2.2.1 = true then [optE (code / 16) a.2.2.2.2.2.2.2.2.2] else []
def headM (a : Ak) (bits code : Int) (an ns : List RRt) : Mt := (a.1, bits, qsA a, an, ns, arA a code)
def refuseS (a : Ak) (code : Int) : List UInt8 := if 0 ≤ code ∧ code ≤ 255 then (encM (headM a (answerS a.2.1 code) code [] [])).1 else []
theorem qsA_eq (a : Ak) : (if (!a.2.2.1 == []) = true then some [(a.2.2.1, a.2.2.2.1, a.2.2.2.2.1)] else some []) = some (qsA a) := by
 unfold qsA
 by_cases h : a.2.2.1 = []
 · rw [if_pos h]; simp [h]
 · rw [if_neg h]; simp [h]; rfl
theorem headM_fine {a : Ak} {bits code : Int} {an ns : List RRt} (hn : (a.2.2.1.length : Int) ≤ maxI) (h1 : an.length ≤ 100000) (h2 : ns.length ≤ 100000) (h3 : ∀ r ∈ an, r.1.length ≤ 300) (h4 : ∀ r ∈ ns, r.1.length ≤ 300) : fineM (headM a bits code an ns) := by
 have hm : maxI = 9223372036854775807 := rfl
 have q1 : (qsA a).length ≤ 1 := by unfold qsA; split <;> simp
 have r1 : (arA a code).length ≤ 1 := by unfold arA; split <;> simp
 refine ⟨⟨?_, ?_, ?_, ?_⟩, fun q hq => ?_, fun r hr => ?_, fun r hr => ?_, fun r hr => ?_⟩
 · show ((qsA a).length : Int) ≤ maxI; omega
 · show (an.length : Int) ≤ maxI; omega
 · show (ns.length : Int) ≤ maxI; omega
 · show ((arA a code).length : Int) ≤ maxI; omega
 · have hq' : q ∈ qsA a := hq
   unfold qsA at hq'
   split at hq'
   · simp at hq'
   · simp only [List.mem_singleton] at hq'; subst hq'; exact hn
 · have := h3 r hr; omega
 · have := h4 r hr; omega
 · have hr' : r ∈ arA a code := hr
   unfold arA at hr'
   split at hr'
   · simp only [List.mem_singleton] at hr'; subst hr'; simp [optE]; omega
   · simp at hr'
theorem head_eq {α : Type} (a : Ak) {code : Int} (h0 : 0 ≤ code) (h1 : code ≤ 255) (K : Int × Int × List Qt × List RRt → Option α) :
 bnd (bnd (F_flag_Answer a.snd.fst code) fun v5 => bnd (if (!a.snd.snd.fst == []) = true then some [(a.snd.snd.fst, a.snd.snd.snd.fst, a.snd.snd.snd.snd.fst)] else some []) fun b3c_6 =>
  if a.snd.snd.snd.snd.snd.fst = true then bnd (F_edns_Opt_Record (true, 4096, Go.IntKind.i64.wrap (code.tdiv 16), 0, a.snd.snd.snd.snd.snd.snd.snd.snd.snd)) fun v => some (a.fst, v5, b3c_6, [(v.1.fst, v.1.snd.fst, v.1.snd.snd.fst, v.1.snd.snd.snd.fst, v.1.snd.snd.snd.snd)])
  else some (a.fst, v5, b3c_6, [])) K = K (a.1, answerS a.2.1 code, qsA a, arA a code) := by
 rw [flag_Answer_eq h0 h1, bnd_some, qsA_eq, bnd_some]
 have e : Go.IntKind.i64.wrap (code.tdiv 16) = code / 16 := by
  rw [Int.tdiv_eq_ediv_of_nonneg h0]; exact wrap_id (by omega) (by omega)
 unfold arA
 cases hh : a.snd.snd.snd.snd.snd.fst with
 | true =>
  simp only [if_true]
  rw [e, opt_Record_eq (by omega) (by omega)]
  rfl
 | false => rfl
theorem refuse_yes {a : Ak} {code : Int} (h0 : 0 ≤ code) (h1 : code ≤ 255) : refuseS a code = (encM (headM a (answerS a.2.1 code) code [] [])).1 := if_pos ⟨h0, h1⟩
theorem refuse_no {a : Ak} {code : Int} (h : code < 0 ∨ 255 < code) : refuseS a code = [] := if_neg (by omega)
theorem reply_Refuse_eq {a : Ak} (hn : (a.2.2.1.length : Int) ≤ maxI) (code : Int) : F_reply_Refuse a code = some (refuseS a code) := by
 unfold F_reply_Refuse
 simp only [grdEq_self]
 by_cases h0 : 0 ≤ code
 · have g0 : decide (code < 0) = false := decide_eq_false (by omega)
   by_cases h1 : code ≤ 255
   · have g1 : decide (255 < code) = false := decide_eq_false (by omega)
     rw [refuse_yes h0 h1]
     simp only [g0, g1, if_true, Bool.false_eq_true, if_false, bnd_some]
     have := head_eq a h0 h1 (fun x => bnd (F_msg_Encode (x.1, x.2.1, x.2.2.1, [], [], x.2.2.2)) fun v => some v.1)
     refine this.trans ?_
     have e : F_msg_Encode (headM a (answerS a.2.1 code) code [] []) = some (encM (headM a (answerS a.2.1 code) code [] [])) := msg_Encode_eq (headM_fine hn (by simp) (by simp) (by simp) (by simp))
     unfold headM at e ⊢
     rw [e]
     rfl
   · have g1 : decide (255 < code) = true := decide_eq_true (by omega)
     rw [refuse_no (.inr (by omega))]
     simp only [g0, g1, if_true, bnd_some]
 · have g0 : decide (code < 0) = true := decide_eq_true (by omega)
   rw [refuse_no (.inl (by omega))]
   simp only [g0, Bool.true_eq_false, if_false, bnd_some]
end Go.Abs

namespace Go.Abs
open Go
end Go.Abs

namespace Go.Abs
open Go
def okH (a : Ak) : Bool := inC a.1 65535 && (qsA a).all okQ
theorem data41 : dataC 41 [] = true := by kernel_rfl
theorem root_name : nameS [0] = true := by kernel_rfl
theorem optE_ok {e : Int} (h0 : 0 ≤ e) (h1 : e < 16) (d : Bool) : recC (optE e d) = true := by
 unfold recC optE inC
 simp only [data41, root_name, Bool.true_and, Bool.and_true, Bool.and_eq_true, decide_eq_true_eq]
 cases d
 · simp; omega
 · simp; omega
theorem arA_ok {a : Ak} {code : Int} (h0 : 0 ≤ code) (h1 : code ≤ 255) : (∀ r ∈ arA a code, recC r = true) ∧ (arA a code).length ≤ 1 := by
 unfold arA
 split
 · exact ⟨fun r hr => by simp only [List.mem_singleton] at hr; subst hr; exact optE_ok (by omega) (by omega) _, by simp⟩
 · exact ⟨by simp, by simp⟩
theorem check_head {a : Ak} {bits code : Int} {an ns : List RRt} (h0 : 0 ≤ code) (h1 : code ≤ 255) (hb : 0 ≤ bits ∧ bits ≤ 65535) (n1 : an.length ≤ 65535) (n2 : ns.length ≤ 65535) (r1 : ∀ r ∈ an, recC r = true) (r2 : ∀ r ∈ ns, recC r = true) : checkM (headM a bits code an ns) = okH a := by
 obtain ⟨a1, a2⟩ := arA_ok (a := a) h0 h1
 have q1 : (qsA a).length ≤ 1 := by unfold qsA; split <;> simp
 have i1 : inC bits 65535 = true := by unfold inC; simp; omega
 have i2 : inC ((qsA a).length : Int) 65535 = true := by unfold inC; simp; omega
 have i3 : inC (an.length : Int) 65535 = true := by unfold inC; simp; omega
 have i4 : inC (ns.length : Int) 65535 = true := by unfold inC; simp; omega
 have i5 : inC ((arA a code).length : Int) 65535 = true := by unfold inC; simp; omega
 have l1 : an.all recC = true := by rw [List.all_eq_true]; exact r1
 have l2 : ns.all recC = true := by rw [List.all_eq_true]; exact r2
 have l3 : (arA a code).all recC = true := by rw [List.all_eq_true]; exact a1
 unfold checkM okH headM
 simp only [i1, i2, i3, i4, i5, l1, l2, l3, Bool.and_true]
theorem qs_len {a : Ak} (h : okH a = true) : ((qsA a).map encQ).flatten.length ≤ 259 := by
 unfold okH at h
 simp only [Bool.and_eq_true, List.all_eq_true] at h
 have := encQs_len h.2
 have q1 : (qsA a).length ≤ 1 := by unfold qsA; split <;> simp
 omega
theorem write_root (base : List UInt8) : writeS base 12 [0] = if nameS base = true then [0] else [] := by
 unfold writeS
 rw [lab_root]
 by_cases h : nameS base = true
 · rw [if_pos ⟨h, root_name, by omega, by omega⟩, if_pos h]
   rfl
 · rw [if_neg (fun q => h q.1), if_neg h]
theorem tailE_sz (r : RRt) : (tailE r).length = 10 + r.2.2.2.2.length := by simp [tailE, put2, put4]; omega
theorem optE_len {base : List UInt8} (e : Int) (d : Bool) : (recE base 12 (optE e d)).length ≤ 11 := by
 have hw : (writeS base 12 (optE e d).1).length ≤ 1 := by
  show (writeS base 12 [0]).length ≤ 1
  rw [write_root]
  split <;> simp
 unfold recE
 split
 · simp
 · rw [List.length_append, tailE_sz]
   simp only [optE, List.length_nil] at hw ⊢
   omega
theorem encs_ar (base : List UInt8) (a : Ak) (code : Int) : (encs base (arA a code)).length ≤ 11 := by
 unfold arA
 split
 · rw [encs_cons]
   have := optE_len (base := base) (code / 16) a.2.2.2.2.2.2.2.2.2
   simpa [encs] using this
 · simp [encs]
end Go.Abs

namespace Go.Abs
open Go
theorem read_okH {s : List UInt8} (h : (readR s).2.1 ≠ 0) : okH (readR s).1 = true := by
 have hid : (headS s).2.2 = true → 0 ≤ (headS s).1 ∧ (headS s).1 ≤ 65535 := by
  intro hh
  unfold headS at hh ⊢
  split
  · rename_i hl; rw [if_pos hl] at hh; simp at hh
  · exact getD_b s 0
 unfold readR at h ⊢
 split at h
 · simp at h
 · rename_i hn
   rw [if_neg hn]
   have his : (headS s).2.2 = true := by
    cases hh : (headS s).2.2 with
    | true => rfl
    | false => exact absurd (.inl hh) hn
   have hi := hid his
   have hin : inC (headS s).1 65535 = true := by unfold inC; simp [hi]
   have key0 : ∀ o, okH (mkA (headS s).1 (headS s).2.1 q0 o) = true := by
    intro o
    unfold okH
    have : qsA (mkA (headS s).1 (headS s).2.1 q0 o) = [] := rfl
    rw [this]
    simpa [mkA] using hin
   have keyq : ∀ q o, okQ q = true → okH (mkA (headS s).1 (headS s).2.1 q o) = true := by
    intro q o hq
    have hne : ¬ (q.1 = []) := fun e => by have := (nameS_pos (okQ_iff hq).1).1; rw [e] at this; simp at this
    unfold okH
    have : qsA (mkA (headS s).1 (headS s).2.1 q o) = [q] := by
     have e : (mkA (headS s).1 (headS s).2.1 q o).2.2.1 = q.1 := rfl
     unfold qsA; rw [e, if_neg hne]; rfl
    rw [this]
    simp only [List.all_cons, List.all_nil, hq, Bool.and_true]
    exact hin
   split
   · exact key0 _
   · cases ha : askS s with
     | none => exact key0 _
     | some p =>
      obtain ⟨q, o⟩ := p
      simp only
      have hq := askS_may ha
      unfold readQ
      split
      · exact keyq q o hq
      · split
        · exact keyq q o hq
        · split <;> exact keyq q o hq
theorem okH_name {a : Ak} (h : okH a = true) : a.2.2.1.length ≤ 255 := by
 unfold okH at h
 simp only [Bool.and_eq_true, List.all_eq_true] at h
 by_cases hn : a.2.2.1 = []
 · rw [hn]; simp
 · have := h.2 (qA a) (by unfold qsA; rw [if_neg hn]; simp)
   exact (nameS_pos (okQ_iff this).1).2
theorem back_root (base : List UInt8) : backS base [0] = [0] := by
 unfold backS
 rw [lab_root]
 rfl
theorem ar_back (base : List UInt8) (a : Ak) (code : Int) : (arA a code).map (backR base) = arA a code := by
 unfold arA
 split
 · simp only [List.map_cons, List.map_nil]
   congr 1
   unfold backR optE
   simp only [back_root]
 · rfl
theorem head_back (a : Ak) (bits code : Int) (an ns : List RRt) : backM (headM a bits code an ns) = headM a bits code (an.map (backR (baseM (headM a bits code an ns)))) (ns.map (backR (baseM (headM a bits code an ns)))) := by
 unfold backM
 have := ar_back (baseM (headM a bits code an ns)) a code
 unfold headM at this ⊢
 rw [this]
theorem optO_E {e : Int} (h0 : 0 ≤ e) (h1 : e < 16) (d : Bool) : goodO (optE e d) = true ∧ optO (optE e d) = (true, 4096, e, 0, d) ∧ isO (optE e d) = true := by
 refine ⟨?_, ?_, rfl⟩
 · unfold goodO optE inC
   cases d
   · simp; omega
   · simp; omega
 · unfold optO optE
   cases d
   · simp only [Bool.false_eq_true, if_false, Prod.mk.injEq, true_and]
     refine ⟨by omega, by omega, ?_⟩
     simp; omega
   · simp only [if_true, Prod.mk.injEq, true_and]
     refine ⟨by omega, by omega, ?_⟩
     simp; omega
theorem find_head {a : Ak} {bits code : Int} {an ns : List RRt} (h0 : 0 ≤ code) (h1 : code ≤ 255) (g1 : an.any isO = false) (g2 : ns.any isO = false) : findS (headM a bits code an ns) = (if a.2.2.2.2.2.1 = true then (true, 4096, code / 16, 0, a.2.2.2.2.2.2.2.2.2) else op0, 0) := by
 by_cases h : a.2.2.2.2.2.1 = true
 · obtain ⟨k1, k2, k3⟩ := optO_E (e := code / 16) (by omega) (by omega) a.2.2.2.2.2.2.2.2.2
   rw [findS_some (u := []) (v := []) (r := optE (code / 16) a.2.2.2.2.2.2.2.2.2) g1 g2 (by unfold headM arA; simp only [h, if_true]; rfl) rfl k3]
   rw [k1, k2, if_pos h]
   rfl
 · rw [findS_none g1 g2 (by unfold headM arA; simp only [h, if_false]; rfl), if_neg h]
theorem head0_len {a : Ak} (h : okH a = true) (bits code : Int) : (wholeE (headM a bits code [] [])).length ≤ 282 := by
 have hq := qs_len h
 have := encs_ar (baseM (headM a bits code [] [])) a code
 unfold wholeE
 simp only [List.length_append, headE_len]
 have e3 : (headM a bits code [] []).2.2.1 = qsA a := rfl
 have e4 : (headM a bits code [] []).2.2.2.2.2 = arA a code := rfl
 have e5 : ∀ b, (encs b (headM a bits code [] []).2.2.2.1).length = 0 := fun b => rfl
 have e6 : ∀ b, (encs b (headM a bits code [] []).2.2.2.2.1).length = 0 := fun b => rfl
 rw [e3, e4, e5, e6]
 omega
theorem refuse_dec {a : Ak} {code : Int} (h : okH a = true) (h0 : 0 ≤ code) (h1 : code ≤ 255) : decS (refuseS a code) = (headM a (answerS a.2.1 code) code [] [], 0) ∧ (refuseS a code).length ≤ 282 := by
 obtain ⟨b1, _⟩ := answerS_of a.2.1 code
 have hc : checkM (headM a (answerS a.2.1 code) code [] []) = true := by
  rw [check_head h0 h1 (by omega) (by simp) (by simp) (by simp) (by simp)]; exact h
 have hl := head0_len h (answerS a.2.1 code) code
 have he := encM_mk hc (by omega)
 rw [refuse_yes h0 h1]
 refine ⟨?_, by rw [he]; exact hl⟩
 rw [dec_enc (by rw [he])]
 rw [head_back]
 rfl
theorem law_ReplyRefuses (s : List UInt8) (code : Int) : F_law17_ReplyRefuses s code = some true := by
 unfold F_law17_ReplyRefuses
 rw [live17]
 simp only [bnd_some, grdEq_self]
 by_cases hs : 2000 < (s.length : Int)
 · rw [if_pos (decide_eq_true hs)]
 · rw [if_neg (by simpa using hs), reply_Read_eq (by omega), bnd_some]
   have hk := readR_kinds s
   have hok := read_okH (s := s)
   rcases hR : readR s with ⟨a, k, c⟩
   rw [hR] at hk hok
   simp only at hk hok ⊢
   by_cases hz : k = 0
   · rcases hk with ⟨_, h1⟩ | ⟨h0, _⟩ | ⟨h0, _⟩
     · simp only [Prod.mk.injEq] at h1
       obtain ⟨rfl, rfl, rfl⟩ := h1
       rfl
     · omega
     · omega
   · have hok := hok hz
     have hz' : (k == 0) = false := by simpa using hz
     have hnm := okH_name hok
     have e1 : F_reply_Refuse (a.fst, a.snd.fst, a.snd.snd.fst, a.snd.snd.snd.fst, a.snd.snd.snd.snd.fst, a.snd.snd.snd.snd.snd.fst, a.snd.snd.snd.snd.snd.snd.fst, a.snd.snd.snd.snd.snd.snd.snd.fst, a.snd.snd.snd.snd.snd.snd.snd.snd.fst, a.snd.snd.snd.snd.snd.snd.snd.snd.snd) code = some (refuseS a code) := reply_Refuse_eq (a := a) (by unfold maxI; omega) code
     simp only [hz', Bool.false_eq_true, if_false, e1, bnd_some]
     by_cases c0 : code < 0
     · have g : decide (code < 0) = true := decide_eq_true c0
       simp only [g, Bool.true_eq_false, if_false, bnd_some, if_true, refuse_no (.inl c0), beq_self_eq_true]
     · have g : decide (code < 0) = false := decide_eq_false c0
       by_cases c1 : 255 < code
       · have g1 : decide (255 < code) = true := decide_eq_true c1
         simp only [g, g1, bnd_some, if_true, refuse_no (.inr c1), beq_self_eq_true]
       · have g1 : decide (255 < code) = false := decide_eq_false c1
         obtain ⟨d1, d2⟩ := refuse_dec hok (by omega : 0 ≤ code) (by omega)
         obtain ⟨_, _, _, b8, _⟩ := answerS_of a.2.1 code
         have hf := find_head (a := a) (bits := answerS a.2.1 code) (code := code) (an := []) (ns := []) (by omega) (by omega) rfl rfl
         have hfew : fewM (headM a (answerS a.2.1 code) code [] []) := (headM_fine (by unfold maxI; omega) (by simp) (by simp) (by simp) (by simp)).1
         have e2 : F_ref09_Find ((headM a (answerS a.2.1 code) code [] []).1, (headM a (answerS a.2.1 code) code [] []).2.1, (headM a (answerS a.2.1 code) code [] []).2.2.1, (headM a (answerS a.2.1 code) code [] []).2.2.2.1, (headM a (answerS a.2.1 code) code [] []).2.2.2.2.1, (headM a (answerS a.2.1 code) code [] []).2.2.2.2.2) = some (findS (headM a (answerS a.2.1 code) code [] [])) := ref09_Find_eq hfew
         simp only [g, g1, bnd_some, if_true, Bool.false_eq_true, if_false, ref08_Decode_eq (show (refuseS a code).length ≤ 1000000 by omega), d1, bne_self_eq_false]
         rw [e2, hf]
         have hid : (headM a (answerS a.2.1 code) code [] []).1 = a.1 := rfl
         have hbt : (headM a (answerS a.2.1 code) code [] []).2.1 = answerS a.2.1 code := rfl
         have hl1 : ((List.length (headM a (answerS a.2.1 code) code [] []).2.2.2.1 : Nat) : Int) = 0 := rfl
         have hl2 : ((List.length (headM a (answerS a.2.1 code) code [] []).2.2.2.2.1 : Nat) : Int) = 0 := rfl
         simp only [hid, hbt, hl1, hl2, bne_self_eq_false, if_true, show decide (512 < ((refuseS a code).length : Int)) = false from decide_eq_false (by omega), Bool.false_eq_true, if_false, bnd_some, rof8_eq, b8]
         by_cases hh : a.2.2.2.2.2.1 = true
         · simp only [hh, if_true, beq_self_eq_true, Bool.not_true, Bool.false_eq_true, if_false, bnd_some]
           have w1 : Go.IntKind.i64.wrap (16 * (code / 16)) = 16 * (code / 16) := wrap_id (by omega) (by omega)
           have w2 : Go.IntKind.i64.wrap (code % 16 + 16 * (code / 16)) = code := by rw [wrap_id (by omega) (by omega)]; omega
           rw [w1, w2]
           simp
         · have hh' : a.2.2.2.2.2.1 = false := by simpa using hh
           simp only [hh', Bool.false_eq_true, if_false, op0, beq_self_eq_true, Bool.not_true, bnd_some]
           have : code.tmod 16 = code % 16 := Int.tmod_eq_emod_of_nonneg (by omega)
           rw [this]
           simp
end Go.Abs
