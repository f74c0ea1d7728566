/- Part of a proof: a machine of plain data, and what the functions come to on it. -/
import Derived.Test.YtlgalckconjljaaChecked
import Derived.Test.YtlgalckconjljaaAbsB
import Derived.ChangeMaps5
import Derived.Test.YtlgalckconjljaaRows
set_option linter.unusedSimpArgs false
set_option linter.unusedVariables false
set_option linter.unusedSectionVars false
namespace Go.Abs
open Go Go.Proofs

theorem mixed : Try.prog.follows .mixedOrders = true := by kernel_rfl
theorem size5 : sizeB Try.prog 5 = some 1 := by kernel_rfl
theorem agg5 : isAggB Try.prog 5 = some false := by kernel_rfl

def small1 (c : Int) : Int := if 65 ≤ c ∧ c ≤ 90 then IntKind.wrap .u8 (c + 32) else c
def smallA : List V → Option V
  | [.int .u8 c] => some (.int .u8 (small1 c))
  | _ => none

theorem small_sound : Sound Try.prog 32 (ans smallA) := by
  refine sound_ans (ext_ans (l := []) mixed (by simp) []) fun args st v h => ?_
  unfold smallA at h
  split at h
  · rename_i c
    simp only [Option.some.injEq] at h
    subst h
    refine ⟨14, ?_⟩
    by_cases h1 : 65 ≤ c
    · by_cases h2 : c ≤ 90
      · simp [small1, run, Cfg.of, Try.func32, Try.f32, opsRun, opRun, wantedB, aop, ev, ofVal, mk, putS, binB, resB, V.under, V.freeze, List.replicate, h1, h2]
      · simp [small1, run, Cfg.of, Try.func32, Try.f32, opsRun, opRun, wantedB, aop, ev, ofVal, mk, putS, binB, resB, V.under, V.freeze, List.replicate, h1, h2]
    · simp [small1, run, Cfg.of, Try.func32, Try.f32, opsRun, opRun, wantedB, aop, ev, ofVal, mk, putS, binB, resB, V.under, V.freeze, List.replicate, h1]
  · simp at h

noncomputable def C30 : Cfg := .of [] ([(32, smallA)].map fun p => (p.1, ans p.2))
theorem X30 : ExtOK Try.prog C30 := ext_ans mixed (by intro p hp; simp only [List.mem_singleton] at hp; subst hp; exact small_sound) []

noncomputable def body30 : Code := (loops (Try.f30.body.getD .skip)).headD .skip

/-- the list as it stands after i rounds -/
def bl (s : List UInt8) (f : Int → Int) (i : Nat) : List V := ((s.take i).map fun b => V.int .u8 (f b.toNat)) ++ ((s.drop i).map fun b => V.int .u8 b.toNat)


theorem call32 : callableB Try.prog 32 = true := by kernel_rfl
theorem ext32 : C30.ext 32 = some (ans smallA) := rfl
theorem told32 (k : Nat) (args : List V) (st : St) : retOf (run C30 Try.prog (k + 1) (.call 32 args st)) = ans smallA args st := told ext32


structure Inv30 (F n i : Nat) (bs : List Int) (s : List V) : Prop where
  len : s.length = 23
  l3 : s[3]? = some (.list (.own F 0) 0 1 (bs.map (V.int .u8)))
  l8 : s[8]? = some (.list (.own F 0) 0 1 (bs.map (V.int .u8)))
  n9 : s[9]? = some (.int .i64 n)
  i10 : s[10]? = some (.int .i64 i)

section
variable {n i F lo flo : Nat} {h : List Box} {fs : List Fam} {ks : List Nat} {s : List V} {bs : List Int} {b : Int}

theorem round30 (hlt : i < n) (hx : bs[i]? = some b) (hf : fs[F]? = some ⟨0, n, 1⟩) (hfl : flo ≤ F) (hw : n ≤ 1048576) (I : Inv30 F n i bs s) :
   ∃ s' h' ks', run C30 Try.prog 20 (.code body30 s ⟨h, fs, lo, flo, ks⟩) = some (.out .normal s' ⟨h', fs, lo, flo, ks'⟩) ∧ Inv30 F n (i + 1) (bs.set i (small1 b)) s' := by
  obtain ⟨h0, h3, h8, h9, h10⟩ := I
  match s, h0 with
  | [x0, x1, x2, x3, x4, x5, x6, x7, x8, x9, x10, x11, x12, x13, x14, x15, x16, x17, x18, x19, x20, x21, x22], _ =>
  simp only [List.getElem?_cons_succ, List.getElem?_cons_zero, Option.some.injEq] at h3 h8 h9 h10
  subst h3 h8 h9 h10
  have hwrap : IntKind.wrap .i64 ((i : Int) + 1) = ((i + 1 : Nat) : Int) := by
    simp [IntKind.wrap, IntKind.signed, IntKind.bits]; omega
  apply Exists.intro
  apply Exists.intro
  apply Exists.intro
  apply And.intro
  · simp only [body30, loops, Try.f30, Option.getD_some, List.cons_append, List.nil_append, List.append_nil, List.headD_cons, run_seq, run_cond, run_block, run_region, run_skip, run_exit]
    simp [run_seq, run_cond, run_block, run_region, run_skip, run_exit, told32, call32, ans, smallA, killAll, V.kills, opsRun, opRun, wantedB, aop, ev, ofVal, mk, putS, binB, builtinB, indexAddrB, loadB, partB, agg5, size5, V.cells, storeB, V.flat, V.free, V.frees, V.upds, V.upd, reElem, splice, Try.underlying34, Try.underlying5, Try.underlying9, upds_ints, hlt, hx, hf, hfl, hwrap]
    exact ⟨rfl, rfl, rfl⟩
  · exact ⟨rfl, by simp [List.map_set], by simp [List.map_set], rfl, rfl⟩

theorem last30 (I : Inv30 F n n bs s) (st : St) : ∃ s', run C30 Try.prog 20 (.code body30 s st) = some (.out (.exit 0) s' st) ∧ Inv30 F n n bs s' := by
  obtain ⟨h0, h3, h8, h9, h10⟩ := I
  match s, h0 with
  | [x0, x1, x2, x3, x4, x5, x6, x7, x8, x9, x10, x11, x12, x13, x14, x15, x16, x17, x18, x19, x20, x21, x22], _ =>
  simp only [List.getElem?_cons_succ, List.getElem?_cons_zero, Option.some.injEq] at h3 h8 h9 h10
  subst h3 h8 h9 h10
  apply Exists.intro
  apply And.intro
  · simp only [body30, loops, Try.f30, Option.getD_some, List.cons_append, List.nil_append, List.append_nil, List.headD_cons, run_seq, run_cond, run_block, run_region, run_skip, run_exit]
    simp [run_seq, run_cond, run_block, run_region, run_skip, run_exit, told32, call32, ans, smallA, killAll, V.kills, opsRun, opRun, wantedB, aop, ev, ofVal, mk, putS, binB, builtinB, indexAddrB, loadB, partB, agg5, size5, V.cells, storeB, V.flat, V.free, V.frees, V.upds, V.upd, reElem, splice, Try.underlying34, Try.underlying5, Try.underlying9, upds_ints]
    rfl
  · exact ⟨rfl, rfl, rfl, rfl, rfl⟩

theorem loop30 (hf : fs[F]? = some ⟨0, n, 1⟩) (hfl : flo ≤ F) (hw : n ≤ 1048576) : ∀ (m i : Nat) (h : List Box) (ks : List Nat) (s : List V) (bs : List Int), i + m = n → bs.length = n → Inv30 F n i bs s →
    ∃ s' h' ks', Runs C30 Try.prog (.code (.loop body30) s ⟨h, fs, lo, flo, ks⟩) (.out (.exit 0) s' ⟨h', fs, lo, flo, ks'⟩) ∧ Inv30 F n n (bs.take i ++ (bs.drop i).map small1) s' := by
  intro m
  induction m with
  | zero =>
    intro i h ks s bs hi hl I
    have hin : i = n := by omega
    subst hin
    obtain ⟨s', h1, h2⟩ := last30 I ⟨h, fs, lo, flo, ks⟩
    refine ⟨s', h, ks, Runs.loop_out (.of 20 h1) (by simp), ?_⟩
    rw [List.take_of_length_le (by omega), List.drop_eq_nil_of_le (by omega)]
    simpa using h2
  | succ m ih =>
    intro i h ks s bs hi hl I
    have hlt : i < bs.length := by omega
    obtain ⟨s1, h1, ks1, g1, g2⟩ := round30 (h := h) (lo := lo) (ks := ks) (by omega) (List.getElem?_eq_getElem hlt) hf hfl hw I
    obtain ⟨s2, h2, ks2, g3, g4⟩ := ih (i + 1) h1 ks1 s1 _ (by omega) (by simp [hl]) g2
    refine ⟨s2, h2, ks2, Runs.loop_next (.of 20 g1) g3, ?_⟩
    have e := set_step small1 bs i bs[i] (List.getElem?_eq_getElem hlt)
    rw [e] at g4
    exact g4
end

def lows (s : List UInt8) : List UInt8 := s.map fun b => UInt8.ofNat (small1 b.toNat).toNat
def lowA : List V → Option V
  | [.str s] => if s.length ≤ 1048576 then some (.str (lows s)) else none
  | _ => none

theorem byte_mapM (bs : List Int) : bs.mapM (byteB ∘ V.int .u8) = some (bs.map fun n => UInt8.ofNat n.toNat) := by
  induction bs with
  | nil => rfl
  | cons b bs ih => simp [List.mapM_cons, byteB, ih]

theorem low_sound : Sound Try.prog 30 (ans lowA) := by
  refine sound_ans X30 fun args st v h => ?_
  unfold lowA at h
  split at h
  · rename_i s
    split at h
    rotate_left
    · simp at h
    rename_i hlen
    simp only [Option.some.injEq] at h
    subst h
    obtain ⟨s1, h1, ks1, g1, g2⟩ := loop30 (n := s.length) (F := st.fams.length) (lo := st.heap.length) (flo := st.fams.length) (fs := st.fams ++ [⟨0, s.length, 1⟩]) (by simp) (Nat.le_refl _) hlen s.length 0 st.heap []
      [.str s, .tup [], .str [], .list (.own st.fams.length 0) 0 1 ((s.map fun b => (b.toNat : Int)).map (V.int .u8)), .tup [], .tup [], .str s, .list (.own st.fams.length 0) 0 1 ((s.map fun b => (b.toNat : Int)).map (V.int .u8)),
        .list (.own st.fams.length 0) 0 1 ((s.map fun b => (b.toNat : Int)).map (V.int .u8)), .int .i64 s.length, .int .i64 0, .tup [], .tup [], .tup [], .tup [], .tup [], .tup [], .tup [], .tup [], .tup [], .tup [], .tup [], .tup []]
      (s.map fun b => (b.toNat : Int)) (by omega) (by simp) ⟨rfl, rfl, rfl, rfl, rfl⟩
    obtain ⟨l0, l3, _, _, _⟩ := g2
    match s1, l0 with
    | [x0, x1, x2, x3, x4, x5, x6, x7, x8, x9, x10, x11, x12, x13, x14, x15, x16, x17, x18, x19, x20, x21, x22], _ =>
    simp only [List.getElem?_cons_succ, List.getElem?_cons_zero, Option.some.injEq, List.take_zero, List.nil_append, List.drop_zero] at l3
    subst l3
    have hl : lows s = (List.map small1 (List.map (fun b : UInt8 => (b.toNat : Int)) s)).map fun n => UInt8.ofNat n.toNat := by simp [lows, List.map_map]
    rw [hl]
    generalize List.map small1 (List.map (fun b : UInt8 => (b.toNat : Int)) s) = bs at g1
    have key : ∃ s2 st2, Runs C30 Try.prog (.code (Try.f30.body.getD .skip) [.str s, .tup [], .tup [], .tup [], .tup [], .tup [], .tup [], .tup [], .tup [], .tup [], .tup [], .tup [], .tup [], .tup [], .tup [], .tup [], .tup [], .tup [], .tup [], .tup [], .tup [], .tup [], .tup []] { st with lo := st.heap.length, flo := st.fams.length, kills := [] }) (.out .ret s2 st2) ∧ s2[2]? = some (.str (bs.map fun n => UInt8.ofNat n.toNat)) := by
      apply Exists.intro
      apply Exists.intro
      apply And.intro
      · simp only [Try.f30, Option.getD_some]
        apply Runs.seq
        · apply Runs.of 3
          simp [run_seq, run_cond, run_block, run_region, run_skip, run_exit, run_rett, told32, call32, ans, smallA, killAll, V.kills, opsRun, opRun, wantedB, aop, ev, ofVal, mk, mkS, putS, binB, builtinB, indexAddrB, loadB, partB, agg5, size5, V.cells, storeB, V.flat, V.free, V.frees, V.upds, V.upd, reElem, splice, Try.underlying34, Try.underlying5, Try.underlying9, upds_ints, convB]
          first | exact ⟨rfl, rfl⟩ | rfl
        apply Runs.seq
        · apply Runs.of 3
          simp [run_seq, run_cond, run_block, run_region, run_skip, run_exit, run_rett, told32, call32, ans, smallA, killAll, V.kills, opsRun, opRun, wantedB, aop, ev, ofVal, mk, mkS, putS, binB, builtinB, indexAddrB, loadB, partB, agg5, size5, V.cells, storeB, V.flat, V.free, V.frees, V.upds, V.upd, reElem, splice, Try.underlying34, Try.underlying5, Try.underlying9, upds_ints, convB]
          first | exact ⟨rfl, rfl⟩ | rfl
        apply Runs.seq
        · apply Runs.seq
          · apply Runs.of 3
            simp [run_seq, run_cond, run_block, run_region, run_skip, run_exit, run_rett, told32, call32, ans, smallA, killAll, V.kills, opsRun, opRun, wantedB, aop, ev, ofVal, mk, mkS, putS, binB, builtinB, indexAddrB, loadB, partB, agg5, size5, V.cells, storeB, V.flat, V.free, V.frees, V.upds, V.upd, reElem, splice, Try.underlying34, Try.underlying5, Try.underlying9, upds_ints, convB]
            first | exact ⟨rfl, rfl⟩ | rfl
          · have := Runs.block (id := 0) g1
            simp [List.map_map] at this
            exact this
        apply Runs.of 4
        simp [run_seq, run_cond, run_block, run_region, run_skip, run_exit, run_rett, told32, call32, ans, smallA, killAll, V.kills, opsRun, opRun, wantedB, aop, ev, ofVal, mk, mkS, putS, binB, builtinB, indexAddrB, loadB, partB, agg5, size5, V.cells, storeB, V.flat, V.free, V.frees, V.upds, V.upd, reElem, splice, Try.underlying34, Try.underlying5, Try.underlying9, upds_ints, convB, byte_mapM]
        first | exact ⟨rfl, rfl⟩ | rfl
      · rfl
    obtain ⟨s2, st2, k1, k2⟩ := key
    refine Runs.call_pure (args := [.str s]) (fn := Try.f30) (c := Try.f30.body.getD .skip) (v := .str (bs.map fun n => UInt8.ofNat n.toNat)) (v' := .str (bs.map fun n => UInt8.ofNat n.toNat)) rfl Try.func30 rfl (by rw [Try.ntmps30]; simp) rfl k1 (.inr rfl) ?_ rfl rfl
    rw [Try.results30]
    simp [resB, k2]
  · simp at h
end Go.Abs

/- Small functions. -/
namespace Go.Abs
open Go Go.Proofs

def great1 (c : Int) : Bool := decide (65 ≤ c) && decide (c ≤ 90)
def greatA : List V → Option V
  | [.int .u8 c] => some (.bool (great1 c))
  | _ => none

theorem great_sound : Sound Try.prog 26 (ans greatA) := by
  refine sound_ans (ext_ans (l := []) mixed (by simp) []) fun args st v h => ?_
  unfold greatA at h
  split at h
  · rename_i c
    simp only [Option.some.injEq] at h
    subst h
    refine ⟨14, ?_⟩
    by_cases h1 : 65 ≤ c
    · simp [great1, run, Cfg.of, Try.func26, Try.f26, opsRun, opRun, wantedB, aop, ev, ofVal, mk, putS, binB, resB, V.under, V.freeze, List.replicate, h1]
    · simp [great1, run, Cfg.of, Try.func26, Try.f26, opsRun, opRun, wantedB, aop, ev, ofVal, mk, putS, binB, resB, V.under, V.freeze, List.replicate, h1]
  · simp at h

/-- mix.letter -/
def letter1 (c : Int) : Bool := great1 c || (great1 (IntKind.wrap .u8 (c - 32)) && decide (97 ≤ c))
def letterA : List V → Option V
  | [.int .u8 c] => some (.bool (letter1 c))
  | _ => none

noncomputable def C29 : Cfg := .of [] ([(26, greatA)].map fun p => (p.1, ans p.2))
theorem X29 : ExtOK Try.prog C29 := ext_ans mixed (by intro p hp; simp only [List.mem_singleton] at hp; subst hp; exact great_sound) []
theorem call26 : callableB Try.prog 26 = true := by kernel_rfl
theorem told29 (k : Nat) (args : List V) (st : St) : retOf (run C29 Try.prog (k + 1) (.call 26 args st)) = ans greatA args st := told rfl

theorem letter_sound : Sound Try.prog 29 (ans letterA) := by
  refine sound_ans X29 fun args st v h => ?_
  unfold letterA at h
  split at h
  · rename_i c
    simp only [Option.some.injEq] at h
    subst h
    have key : ∃ s2, Runs C29 Try.prog (.code (Try.f29.body.getD .skip) [.int .u8 c, .tup [], .tup [], .tup [], .tup [], .tup [], .tup [], .tup [], .tup [], .tup [], .tup [], .tup [], .tup [], .tup []] { st with lo := st.heap.length, flo := st.fams.length, kills := [] }) (.out .ret s2 { st with lo := st.heap.length, flo := st.fams.length, kills := [] }) ∧ s2[2]? = some (.bool (letter1 c)) := by
      cases h1 : great1 c
      · cases h2 : great1 (IntKind.wrap .u8 (c - 32))
        all_goals
          apply Exists.intro
          apply And.intro
          · simp only [Try.f29, Option.getD_some]
            apply Runs.of 10
            simp [run_seq, run_cond, run_block, run_region, run_skip, run_exit, run_rett, told29, call26, ans, greatA, killAll, opsRun, opRun, wantedB, aop, ev, ofVal, mk, putS, binB, h1, h2]
            rfl
          · simp [letter1, h1, h2]
      · apply Exists.intro
        apply And.intro
        · simp only [Try.f29, Option.getD_some]
          apply Runs.of 10
          simp [run_seq, run_cond, run_block, run_region, run_skip, run_exit, run_rett, told29, call26, ans, greatA, killAll, opsRun, opRun, wantedB, aop, ev, ofVal, mk, putS, binB, h1]
          rfl
        · simp [letter1, h1]
    obtain ⟨s2, k1, k2⟩ := key
    refine Runs.call_pure (args := [.int .u8 c]) (fn := Try.f29) (c := Try.f29.body.getD .skip) (v := .bool (letter1 c)) (v' := .bool (letter1 c)) rfl Try.func29 rfl (by rw [Try.ntmps29]; simp) rfl k1 (.inr rfl) ?_ rfl rfl
    rw [Try.results29]
    simp [resB, k2]
  · simp at h
end Go.Abs

/- name.split -/
namespace Go.Abs
open Go Go.Proofs

theorem lits (s : List V) (n : Nat) (h : s.length = n) : s = (List.range n).map fun i => s.getD i .any := by
  apply List.ext_getElem (by simp [h])
  intro i h1 h2
  simp [List.getD_eq_getElem?_getD, h1]

theorem size9 : sizeB Try.prog 9 = some 1 := by kernel_rfl
theorem bytes9 : bytesB Try.prog 9 = some 16 := by kernel_rfl
theorem zero9 : zeroB Try.prog 9 = some (.str []) := by kernel_rfl

noncomputable def C31 : Cfg := .of [] []
theorem X31 : ExtOK Try.prog C31 := ext_of mixed (by simp) (by simp)
noncomputable def body31 : Code := (loops (Try.f31.body.getD .skip)).headD .skip
theorem draw31 : drawB C31 Try.prog ((regions (Try.f31.body.getD .skip)).getD 8 #[]) = true := by kernel_rfl

/-- the list of labels as the loop holds it -/
def Held (l : List (List UInt8)) (fs : List Fam) (flo : Nat) (v : V) : Prop :=
  (l = [] ∧ v = .list .nil 0 0 []) ∨ (l ≠ [] ∧ ∃ F ep, v = .list (.own F ep) 0 1 (l.map .str) ∧ fs[F]? = some ⟨ep, l.length, 1⟩ ∧ flo ≤ F)

structure Inv31 (l : List (List UInt8)) (n : List UInt8) (fs : List Fam) (flo : Nat) (s : List V) : Prop where
  len : s.length = 46
  n0 : s[0]? = some (.str n)
  l4 : ∃ v, s[4]? = some v ∧ Held l fs flo v

section
variable {l : List (List UInt8)} {n : List UInt8} {fs : List Fam} {flo lo : Nat} {h : List Box} {ks : List Nat} {s : List V}

/-- the loop's end -/
theorem end31 (hn : n = [] ∨ n = [0]) (I : Inv31 l n fs flo s) (st : St) : ∃ s', run C31 Try.prog 20 (.code body31 s st) = some (.out (.exit 0) s' st) ∧ Inv31 l n fs flo s' := by
  obtain ⟨h0, h1, lv, h4, H⟩ := I
  obtain ⟨J, rfl⟩ : ∃ J : Nat → V, s = [J 0, J 1, J 2, J 3, J 4, J 5, J 6, J 7, J 8, J 9, J 10, J 11, J 12, J 13, J 14, J 15, J 16, J 17, J 18, J 19, J 20, J 21, J 22, J 23, J 24, J 25, J 26, J 27, J 28, J 29, J 30, J 31, J 32, J 33, J 34, J 35, J 36, J 37, J 38, J 39, J 40, J 41, J 42, J 43, J 44, J 45] := ⟨fun i => s.getD i .any, lits s 46 h0⟩
  simp only [List.getElem?_cons_succ, List.getElem?_cons_zero, Option.some.injEq] at h1 h4
  rcases hn with rfl | rfl
  all_goals
    apply Exists.intro
    apply And.intro
    · simp only [body31, loops, Try.f31, Option.getD_some, List.cons_append, List.nil_append, List.append_nil, List.headD_cons]
      simp [run_seq, run_cond, run_block, run_region, run_skip, run_exit, run_rett, ans, killAll, V.kills, opsRun, opRun, wantedB, aop, ev, ofVal, mk, mk3, mkS, putS, binB, builtinB, newsB, notIntB, appendB, buildSliceB, sliceB, boundB, indexB, convB, size9, bytes9, zero9, V.flat, Try.underlying5, Try.underlying3, Try.underlying9, Try.underlying35, cutTok, h1, h4]
      rfl
    · exact ⟨rfl, by simp [h1], _, rfl, by simpa [h4] using H⟩
theorem wrap64 {x : Int} (h1 : -9223372036854775808 ≤ x) (h2 : x ≤ 9223372036854775807) : IntKind.wrap .i64 x = x := by
  simp [IntKind.wrap, IntKind.signed, IntKind.bits]; omega

variable {c : UInt8} {r : List UInt8}

/-- no label -/
theorem bad31 (hne : ((c :: r) == [0]) = false) (hb : c.toNat < 1 ∨ 63 < c.toNat ∨ r.length ≤ c.toNat) (hlen : r.length ≤ 1048576) (I : Inv31 l (c :: r) fs flo s) (st : St) :
    ∃ s', run C31 Try.prog 20 (.code body31 s st) = some (.out .ret s' st) ∧ s'[2]? = some (.list .nil 0 0 []) ∧ s'[3]? = some (.bool false) := by
  obtain ⟨h0, h1, lv, h4, H⟩ := I
  obtain ⟨J, rfl⟩ : ∃ J : Nat → V, s = [J 0, J 1, J 2, J 3, J 4, J 5, J 6, J 7, J 8, J 9, J 10, J 11, J 12, J 13, J 14, J 15, J 16, J 17, J 18, J 19, J 20, J 21, J 22, J 23, J 24, J 25, J 26, J 27, J 28, J 29, J 30, J 31, J 32, J 33, J 34, J 35, J 36, J 37, J 38, J 39, J 40, J 41, J 42, J 43, J 44, J 45] := ⟨fun i => s.getD i .any, lits s 46 h0⟩
  simp only [List.getElem?_cons_succ, List.getElem?_cons_zero, Option.some.injEq] at h1 h4
  have hc := c.toNat_lt
  have w1 : IntKind.wrap .i64 (c.toNat : Int) = c.toNat := wrap64 (by omega) (by omega)
  have w2 : IntKind.wrap .i64 ((c.toNat : Int) + 1) = (c.toNat : Int) + 1 := wrap64 (by omega) (by omega)
  have hpos : (0 : Int) < (r.length : Int) + 1 := by omega
  have c1 : ((c.toNat : Int) < 1) ∨ (¬ ((c.toNat : Int) < 1) ∧ (63 : Int) < c.toNat) ∨ (¬ ((c.toNat : Int) < 1) ∧ ¬ ((63 : Int) < c.toNat) ∧ ((r.length : Int) + 1 ≤ (c.toNat : Int) + 1)) := by omega
  rcases c1 with c1 | ⟨c1, c2⟩ | ⟨c1, c2, c3⟩
  · apply Exists.intro
    apply And.intro
    · simp only [body31, loops, Try.f31, Option.getD_some, List.cons_append, List.nil_append, List.append_nil, List.headD_cons]
      simp [run_seq, run_cond, run_block, run_region, run_skip, run_exit, run_rett, ans, killAll, V.kills, opsRun, opRun, wantedB, aop, ev, ofVal, mk, mk3, mkS, putS, binB, builtinB, newsB, notIntB, appendB, buildSliceB, sliceB, boundB, indexB, convB, size9, bytes9, zero9, V.flat, Try.underlying5, Try.underlying3, Try.underlying9, Try.underlying35, cutTok, h1, h4, hne, w1, w2, hpos, c1]
      rfl
    · exact ⟨rfl, rfl⟩
  · apply Exists.intro
    apply And.intro
    · simp only [body31, loops, Try.f31, Option.getD_some, List.cons_append, List.nil_append, List.append_nil, List.headD_cons]
      simp [run_seq, run_cond, run_block, run_region, run_skip, run_exit, run_rett, ans, killAll, V.kills, opsRun, opRun, wantedB, aop, ev, ofVal, mk, mk3, mkS, putS, binB, builtinB, newsB, notIntB, appendB, buildSliceB, sliceB, boundB, indexB, convB, size9, bytes9, zero9, V.flat, Try.underlying5, Try.underlying3, Try.underlying9, Try.underlying35, cutTok, h1, h4, hne, w1, w2, hpos, c1, c2]
      rfl
    · exact ⟨rfl, rfl⟩
  · apply Exists.intro
    apply And.intro
    · simp only [body31, loops, Try.f31, Option.getD_some, List.cons_append, List.nil_append, List.append_nil, List.headD_cons]
      simp [run_seq, run_cond, run_block, run_region, run_skip, run_exit, run_rett, ans, killAll, V.kills, opsRun, opRun, wantedB, aop, ev, ofVal, mk, mk3, mkS, putS, binB, builtinB, newsB, notIntB, appendB, buildSliceB, sliceB, boundB, indexB, convB, size9, bytes9, zero9, V.flat, Try.underlying5, Try.underlying3, Try.underlying9, Try.underlying35, cutTok, h1, h4, hne, w1, w2, hpos, c1, c2, c3]
      rfl
    · exact ⟨rfl, rfl⟩

/-- one label more -/
theorem step31 (hne : ((c :: r) == [0]) = false) (h1c : 1 ≤ c.toNat) (h2c : c.toNat ≤ 63) (h3c : c.toNat < r.length) (hlen : r.length ≤ 1048576) (hl : l.length ≤ 1048576) (hfl : flo ≤ fs.length) (I : Inv31 l (c :: r) fs flo s) :
    ∃ s' fs', run C31 Try.prog 20 (.code body31 s ⟨h, fs, lo, flo, ks⟩) = some (.out .normal s' ⟨h, fs', lo, flo, ks⟩) ∧ Inv31 (l ++ [r.take c.toNat]) (r.drop c.toNat) fs' flo s' ∧ flo ≤ fs'.length := by
  obtain ⟨h0, h1, lv, h4, H⟩ := I
  obtain ⟨J, rfl⟩ : ∃ J : Nat → V, s = [J 0, J 1, J 2, J 3, J 4, J 5, J 6, J 7, J 8, J 9, J 10, J 11, J 12, J 13, J 14, J 15, J 16, J 17, J 18, J 19, J 20, J 21, J 22, J 23, J 24, J 25, J 26, J 27, J 28, J 29, J 30, J 31, J 32, J 33, J 34, J 35, J 36, J 37, J 38, J 39, J 40, J 41, J 42, J 43, J 44, J 45] := ⟨fun i => s.getD i .any, lits s 46 h0⟩
  simp only [List.getElem?_cons_succ, List.getElem?_cons_zero, Option.some.injEq] at h1 h4
  have hc := c.toNat_lt
  have w1 : IntKind.wrap .i64 (c.toNat : Int) = c.toNat := wrap64 (by omega) (by omega)
  have w2 : IntKind.wrap .i64 ((c.toNat : Int) + 1) = (c.toNat : Int) + 1 := wrap64 (by omega) (by omega)
  have w3 : IntKind.wrap .i64 (1 + (c.toNat : Int)) = (c.toNat : Int) + 1 := by rw [Int.add_comm]; exact w2
  have hpos : (0 : Int) < (r.length : Int) + 1 := by omega
  have c1 : ¬ ((c.toNat : Int) < 1) := by omega
  have c2 : ¬ ((63 : Int) < c.toNat) := by omega
  have c3 : ¬ ((r.length : Int) + 1 ≤ (c.toNat : Int) + 1) := by omega
  have c4 : (0 : Int) ≤ (c.toNat : Int) + 1 ∧ (c.toNat : Int) + 1 ≤ (r.length : Int) + 1 := by omega
  have c5 : (1 : Int) ≤ (c.toNat : Int) + 1 := by omega
  have c6 : ((c.toNat : Int) + 1).toNat = c.toNat + 1 := by omega
  have d := draw31
  simp only [regions, Try.f31, Option.getD_some, List.cons_append, List.nil_append, List.append_nil, List.getD_cons_succ, List.getD_cons_zero] at d
  rcases H with ⟨rfl, rfl⟩ | ⟨hl0, F, ep, rfl, hF, hFl⟩
  · apply Exists.intro
    apply Exists.intro
    apply And.intro
    · simp only [body31, loops, Try.f31, Option.getD_some, List.cons_append, List.nil_append, List.append_nil, List.headD_cons]
      simp [run_regionD d, run_seq, run_cond, run_block, run_region, run_skip, run_exit, run_rett, ans, killAll, V.kills, opsRun, opRun, wantedB, aop, ev, ofVal, mk, mk3, mkS, putS, binB, builtinB, newsB, notIntB, appendB, buildSliceB, sliceB, boundB, indexB, convB, size9, bytes9, zero9, V.flat, Try.underlying5, Try.underlying3, Try.underlying9, Try.underlying35, cutTok, h1, h4, hne, w1, w2, w3, hpos, c1, c2, c3, c4, c5, c6, roomLim]
      first | exact ⟨rfl, rfl⟩ | rfl
    · exact ⟨⟨rfl, rfl, _, rfl, .inr ⟨by simp, fs.length, 0, by simp, by simp, hfl⟩⟩, by simp; omega⟩
  · have c7 : (l.length + 1) * 16 ≤ 140737488355328 := by omega
    apply Exists.intro
    apply Exists.intro
    apply And.intro
    · simp only [body31, loops, Try.f31, Option.getD_some, List.cons_append, List.nil_append, List.append_nil, List.headD_cons]
      simp [run_regionD d, run_seq, run_cond, run_block, run_region, run_skip, run_exit, run_rett, ans, killAll, V.kills, opsRun, opRun, wantedB, aop, ev, ofVal, mk, mk3, mkS, putS, binB, builtinB, newsB, notIntB, appendB, buildSliceB, sliceB, boundB, indexB, convB, size9, bytes9, zero9, V.flat, Try.underlying5, Try.underlying3, Try.underlying9, Try.underlying35, cutTok, h1, h4, hne, w1, w2, w3, hpos, c1, c2, c3, c4, c5, c6, c7, roomLim, hF, hFl]
      first | exact ⟨rfl, rfl⟩ | rfl
    · exact ⟨⟨rfl, rfl, _, rfl, .inr ⟨by simp, F, ep + 1, by simp, by simp [(List.getElem?_eq_some_iff.1 hF).1], hFl⟩⟩, by simpa using hfl⟩
end
end Go.Abs

/- name.split and name.Check are what they are. -/
namespace Go.Abs
open Go Go.Proofs

def splitF : Nat → List (List UInt8) → List UInt8 → List (List UInt8) × Bool
  | 0, _, _ => ([], false)
  | _ + 1, l, [] => (l, false)
  | k + 1, l, c :: r =>
    if (c :: r) == [0] then (l, true)
    else if c.toNat < 1 ∨ 63 < c.toNat ∨ r.length ≤ c.toNat then ([], false)
    else splitF k (l ++ [r.take c.toNat]) (r.drop c.toNat)

section
variable {flo lo : Nat} {h : List Box} {ks : List Nat}

theorem loop31 : ∀ (k : Nat) (l : List (List UInt8)) (n : List UInt8) (s : List V) (fs : List Fam), n.length < k → l.length + n.length ≤ 1048576 → flo ≤ fs.length → Inv31 l n fs flo s →
    ∃ s' fs' e, Runs C31 Try.prog (.code (.loop body31) s ⟨h, fs, lo, flo, ks⟩) (.out e s' ⟨h, fs', lo, flo, ks⟩) ∧
      ((e = .exit 0 ∧ ∃ l' n', Inv31 l' n' fs' flo s' ∧ splitF k l n = (l', n' == [0])) ∨ (e = .ret ∧ splitF k l n = ([], false) ∧ s'[2]? = some (.list .nil 0 0 []) ∧ s'[3]? = some (.bool false))) := by
  intro k
  induction k with
  | zero => intro l n s fs hk; omega
  | succ k ih =>
    intro l n s fs hk hlen hfl I
    cases n with
    | nil =>
      obtain ⟨s', g1, g2⟩ := end31 (.inl rfl) I ⟨h, fs, lo, flo, ks⟩
      exact ⟨s', fs, _, Runs.loop_out (.of 20 g1) (by simp), .inl ⟨rfl, l, [], g2, rfl⟩⟩
    | cons c r =>
      simp only [List.length_cons] at hk hlen
      by_cases hroot : ((c :: r) == [0]) = true
      · have e : c :: r = [0] := by simpa using hroot
        rw [e] at I ⊢
        obtain ⟨s', g1, g2⟩ := end31 (.inr rfl) I ⟨h, fs, lo, flo, ks⟩
        exact ⟨s', fs, _, Runs.loop_out (.of 20 g1) (by simp), .inl ⟨rfl, l, [0], g2, rfl⟩⟩
      · have hne : ((c :: r) == [0]) = false := by simpa using hroot
        by_cases hb : c.toNat < 1 ∨ 63 < c.toNat ∨ r.length ≤ c.toNat
        · obtain ⟨s', g1, g2, g3⟩ := bad31 hne hb (by omega) I ⟨h, fs, lo, flo, ks⟩
          refine ⟨s', fs, _, Runs.loop_out (.of 20 g1) (by simp), .inr ⟨rfl, ?_, g2, g3⟩⟩
          simp only [splitF, hne, Bool.false_eq_true, if_false, hb, if_true]
        · have hb' : 1 ≤ c.toNat ∧ c.toNat ≤ 63 ∧ c.toNat < r.length := by omega
          obtain ⟨s1, fs1, g1, g2, g3⟩ := step31 (h := h) (lo := lo) (ks := ks) hne hb'.1 hb'.2.1 hb'.2.2 (by omega) (by omega) hfl I
          obtain ⟨s2, fs2, e, k1, k2⟩ := ih _ _ s1 fs1 (by simp; omega) (by simp; omega) g3 g2
          refine ⟨s2, fs2, e, Runs.loop_next (.of 20 g1) k1, ?_⟩
          have e1 : splitF (k + 1) l (c :: r) = splitF k (l ++ [r.take c.toNat]) (r.drop c.toNat) := by
            simp only [splitF, hne, Bool.false_eq_true, if_false, hb]
          rw [e1]
          exact k2
end

/-- the labels as they are answered -/
def VL (l : List (List UInt8)) : V := if l = [] then .list .nil 0 0 [] else .list .ro 0 1 (l.map .str)

def split1 (s : List UInt8) : List (List UInt8) × Bool := if 255 < s.length then ([], false) else splitF (s.length + 1) [] s
def splitA : List V → Option V
  | [.str s] => if s.length ≤ 1048576 then some (.tup [VL (split1 s).1, .bool (split1 s).2]) else none
  | _ => none

theorem unders_strs (h : Nat) : ∀ l : List (List UInt8), V.unders h (l.map .str) = true
  | [] => by simp [V.unders]
  | b :: l => by simp [V.unders, V.under, unders_strs h l]
theorem freezes_strs (f : Nat) (l : List (List UInt8)) : V.freezes f (l.map .str) = l.map .str := by
  rw [freezes_map, List.map_map]
  exact List.map_congr_left fun b _ => by simp [V.freeze]

theorem held_out {l : List (List UInt8)} {fs : List Fam} {flo h : Nat} {v : V} (H : Held l fs flo v) : v.under h = true ∧ v.freeze flo = VL l := by
  rcases H with ⟨rfl, rfl⟩ | ⟨hl, F, ep, rfl, _, hF⟩
  · exact ⟨by simp [V.under, V.unders], by simp [V.freeze, V.freezes, VL]⟩
  · exact ⟨by simp [V.under, unders_strs], by simp [V.freeze, freezes_strs, VL, hl, Nat.not_lt.2 hF]⟩

theorem split_sound : Sound Try.prog 31 (ans splitA) := by
  refine sound_ans X31 fun args st v h => ?_
  unfold splitA at h
  split at h
  · rename_i s
    split at h
    rotate_left
    · simp at h
    rename_i hlen
    simp only [Option.some.injEq] at h
    subst h
    have key : ∃ s2 st2 v2, Runs C31 Try.prog (.code (Try.f31.body.getD .skip) ([.str s] ++ List.replicate 45 (.tup [])) { st with lo := st.heap.length, flo := st.fams.length, kills := [] }) (.out .ret s2 st2) ∧
        s2[2]? = some v2 ∧ s2[3]? = some (.bool (split1 s).2) ∧ v2.under st.heap.length = true ∧ v2.freeze st.fams.length = VL (split1 s).1 := by
      simp only [Try.f31, Option.getD_some, List.replicate, List.cons_append, List.nil_append]
      by_cases h255 : 255 < s.length
      · have h255' : (255 : Int) < s.length := by omega
        apply Exists.intro
        apply Exists.intro
        apply Exists.intro
        apply And.intro
        · apply Runs.seq
          · apply Runs.of 5
            simp [run_seq, run_cond, run_block, run_region, run_skip, run_exit, run_rett, ans, killAll, V.kills, opsRun, opRun, wantedB, aop, ev, ofVal, mk, mk3, mkS, putS, binB, builtinB, Try.underlying5, Try.underlying3, Try.underlying9, Try.underlying35]
            first | exact ⟨rfl, rfl⟩ | rfl
          apply Runs.seq_out
          · apply Runs.of 5
            simp [run_seq, run_cond, run_block, run_region, run_skip, run_exit, run_rett, ans, killAll, V.kills, opsRun, opRun, wantedB, aop, ev, ofVal, mk, mk3, mkS, putS, binB, builtinB, Try.underlying5, Try.underlying3, Try.underlying9, Try.underlying35, h255']
            first | exact ⟨rfl, rfl⟩ | rfl
          · simp
        · exact ⟨rfl, by simp [split1, h255], by simp [V.under, V.unders], by simp [V.freeze, V.freezes, VL, split1, h255]⟩
      · have h255' : ¬ (255 : Int) < s.length := by omega
        obtain ⟨s1, fs1, e, g1, g2⟩ := loop31 (h := st.heap) (lo := st.heap.length) (flo := st.fams.length) (ks := []) (s.length + 1) [] s
          ([.str s, .tup [], .list .nil 0 0 [], .bool false, .list .nil 0 0 [], .tup [], .str s, .int .i64 s.length, .bool false] ++ List.replicate 37 (.tup [])) st.fams (by omega) (by simpa using hlen) (Nat.le_refl _)
          ⟨rfl, rfl, _, rfl, .inl ⟨rfl, rfl⟩⟩
        have hs1 : split1 s = splitF (s.length + 1) [] s := by simp [split1, h255]
        simp only [List.replicate, List.cons_append, List.nil_append] at g1
        rcases g2 with ⟨rfl, l', n', I, hsp⟩ | ⟨rfl, hsp, k2, k3⟩
        · obtain ⟨h0, h1, lv, h4, H⟩ := I
          obtain ⟨J, rfl⟩ : ∃ J : Nat → V, s1 = [J 0, J 1, J 2, J 3, J 4, J 5, J 6, J 7, J 8, J 9, J 10, J 11, J 12, J 13, J 14, J 15, J 16, J 17, J 18, J 19, J 20, J 21, J 22, J 23, J 24, J 25, J 26, J 27, J 28, J 29, J 30, J 31, J 32, J 33, J 34, J 35, J 36, J 37, J 38, J 39, J 40, J 41, J 42, J 43, J 44, J 45] := ⟨fun i => s1.getD i .any, lits s1 46 h0⟩
          simp only [List.getElem?_cons_succ, List.getElem?_cons_zero, Option.some.injEq] at h1 h4
          obtain ⟨u1, u2⟩ := held_out (h := st.heap.length) H
          apply Exists.intro
          apply Exists.intro
          apply Exists.intro
          apply And.intro
          · apply Runs.seq
            · apply Runs.of 5
              simp [run_seq, run_cond, run_block, run_region, run_skip, run_exit, run_rett, ans, killAll, V.kills, opsRun, opRun, wantedB, aop, ev, ofVal, mk, mk3, mkS, putS, binB, builtinB, Try.underlying5, Try.underlying3, Try.underlying9, Try.underlying35]
              first | exact ⟨rfl, rfl⟩ | rfl
            apply Runs.seq
            · apply Runs.of 5
              simp [run_seq, run_cond, run_block, run_region, run_skip, run_exit, run_rett, ans, killAll, V.kills, opsRun, opRun, wantedB, aop, ev, ofVal, mk, mk3, mkS, putS, binB, builtinB, Try.underlying5, Try.underlying3, Try.underlying9, Try.underlying35, h255']
              first | exact ⟨rfl, rfl⟩ | rfl
            apply Runs.seq
            · apply Runs.of 5
              simp [run_seq, run_cond, run_block, run_region, run_skip, run_exit, run_rett, ans, killAll, V.kills, opsRun, opRun, wantedB, aop, ev, ofVal, mk, mk3, mkS, putS, binB, builtinB, Try.underlying5, Try.underlying3, Try.underlying9, Try.underlying35]
              first | exact ⟨rfl, rfl⟩ | rfl
            apply Runs.seq
            · exact Runs.block (id := 0) g1
            apply Runs.of 5
            simp [run_seq, run_cond, run_block, run_region, run_skip, run_exit, run_rett, ans, killAll, V.kills, opsRun, opRun, wantedB, aop, ev, ofVal, mk, mk3, mkS, putS, binB, builtinB, Try.underlying5, Try.underlying3, Try.underlying9, Try.underlying35, h1, h4]
            first | exact ⟨rfl, rfl⟩ | rfl
          · rw [hs1, hsp]
            exact ⟨rfl, rfl, u1, u2⟩
        · have w1 : (V.list .nil 0 0 []).under st.heap.length = true := by simp [V.under, V.unders]
          refine ⟨s1, ⟨st.heap, fs1, st.heap.length, st.fams.length, []⟩, .list .nil 0 0 [], ?_, k2, by rw [hs1, hsp]; exact k3, w1, by rw [hs1, hsp]; simp [V.freeze, V.freezes, VL]⟩
          apply Runs.seq
          · apply Runs.of 5
            simp [run_seq, run_cond, run_block, run_region, run_skip, run_exit, run_rett, ans, killAll, V.kills, opsRun, opRun, wantedB, aop, ev, ofVal, mk, mk3, mkS, putS, binB, builtinB, Try.underlying5, Try.underlying3, Try.underlying9, Try.underlying35]
            first | exact ⟨rfl, rfl⟩ | rfl
          apply Runs.seq
          · apply Runs.of 5
            simp [run_seq, run_cond, run_block, run_region, run_skip, run_exit, run_rett, ans, killAll, V.kills, opsRun, opRun, wantedB, aop, ev, ofVal, mk, mk3, mkS, putS, binB, builtinB, Try.underlying5, Try.underlying3, Try.underlying9, Try.underlying35, h255']
            first | exact ⟨rfl, rfl⟩ | rfl
          apply Runs.seq
          · apply Runs.of 5
            simp [run_seq, run_cond, run_block, run_region, run_skip, run_exit, run_rett, ans, killAll, V.kills, opsRun, opRun, wantedB, aop, ev, ofVal, mk, mk3, mkS, putS, binB, builtinB, Try.underlying5, Try.underlying3, Try.underlying9, Try.underlying35]
            first | exact ⟨rfl, rfl⟩ | rfl
          apply Runs.seq_out
          · exact Runs.block (id := 0) g1
          · simp
    obtain ⟨s2, st2, v2, k1, k2, k3, k4, k5⟩ := key
    refine Runs.call_pure (args := [.str s]) (fn := Try.f31) (c := Try.f31.body.getD .skip) (v := .tup [v2, .bool (split1 s).2]) rfl Try.func31 rfl (by rw [Try.ntmps31]; simp) rfl k1 (.inr rfl) ?_ ?_ ?_
    · rw [Try.results31]
      simp [resB, k2, k3]
    · simp [V.under, V.unders, k4]
    · simp [V.freeze, V.freezes, k5]
  · simp at h
end Go.Abs

/- name.Check, name.Low. -/
namespace Go.Abs
open Go Go.Proofs

theorem call31 : callableB Try.prog 31 = true := by kernel_rfl
theorem call30 : callableB Try.prog 30 = true := by kernel_rfl
theorem call27 : callableB Try.prog 27 = true := by kernel_rfl

def check1 (s : List UInt8) : Bool := (split1 s).2
def checkA : List V → Option V
  | [.str s] => if s.length ≤ 1048576 then some (.bool (check1 s)) else none
  | _ => none

noncomputable def C27 : Cfg := .of [] ([(31, splitA)].map fun p => (p.1, ans p.2))
theorem X27 : ExtOK Try.prog C27 := ext_ans mixed (by
  intro p hp
  simp only [List.mem_cons, List.not_mem_nil, or_false] at hp
  rcases hp with rfl
  · exact split_sound) []
theorem told27_31 (k : Nat) (args : List V) (st : St) : retOf (run C27 Try.prog (k + 1) (.call 31 args st)) = ans splitA args st := told rfl

theorem check_sound : Sound Try.prog 27 (ans checkA) := by
  refine sound_ans X27 fun args st v h => ?_
  unfold checkA at h
  split at h
  · rename_i s
    split at h
    rotate_left
    · simp at h
    rename_i hlen
    simp only [Option.some.injEq] at h
    subst h
    have key : ∃ s2, Runs C27 Try.prog (.code (Try.f27.body.getD .skip) ([.str s] ++ List.replicate 10 (.tup [])) { st with lo := st.heap.length, flo := st.fams.length, kills := [] }) (.out .ret s2 { st with lo := st.heap.length, flo := st.fams.length, kills := [] }) ∧ resB Try.prog { st with lo := st.heap.length, flo := st.fams.length, kills := [] } s2 Try.f27.results = some (.bool (check1 s)) := by
      rw [Try.results27]
      simp only [Try.f27, Option.getD_some, List.replicate, List.cons_append, List.nil_append]
      apply Exists.intro
      apply And.intro
      · apply Runs.of 12
        simp [run_seq, run_cond, run_block, run_region, run_skip, run_exit, run_rett, ans, killAll, V.kills, opsRun, opRun, wantedB, aop, ev, ofVal, mk, mk3, mkS, putS, binB, builtinB, Try.underlying5, Try.underlying3, Try.underlying9, Try.underlying35, told27_31, call31, splitA, hlen]
        first | exact ⟨rfl, rfl⟩ | rfl
      · simp [resB, check1]
    obtain ⟨s2, k1, k2⟩ := key
    refine Runs.call_pure (args := [.str s]) (fn := Try.f27) (c := Try.f27.body.getD .skip) rfl Try.func27 rfl (by rw [Try.ntmps27]; simp) rfl k1 (.inr rfl) k2 ?_ ?_
    · simp [V.under, V.unders]
    · simp [V.freeze, V.freezes]
  · simp at h

def Low1 (s : List UInt8) : List UInt8 := if check1 s then lows s else []
def LowA : List V → Option V
  | [.str s] => if s.length ≤ 1048576 then some (.str (Low1 s)) else none
  | _ => none

noncomputable def C22 : Cfg := .of [] ([(27, checkA), (30, lowA)].map fun p => (p.1, ans p.2))
theorem X22 : ExtOK Try.prog C22 := ext_ans mixed (by
  intro p hp
  simp only [List.mem_cons, List.not_mem_nil, or_false] at hp
  rcases hp with rfl | rfl
  · exact check_sound
  · exact low_sound) []
theorem told22_27 (k : Nat) (args : List V) (st : St) : retOf (run C22 Try.prog (k + 1) (.call 27 args st)) = ans checkA args st := told rfl
theorem told22_30 (k : Nat) (args : List V) (st : St) : retOf (run C22 Try.prog (k + 1) (.call 30 args st)) = ans lowA args st := told rfl

theorem Low_sound : Sound Try.prog 22 (ans LowA) := by
  refine sound_ans X22 fun args st v h => ?_
  unfold LowA at h
  split at h
  · rename_i s
    split at h
    rotate_left
    · simp at h
    rename_i hlen
    simp only [Option.some.injEq] at h
    subst h
    have key : ∃ s2, Runs C22 Try.prog (.code (Try.f22.body.getD .skip) ([.str s] ++ List.replicate 7 (.tup [])) { st with lo := st.heap.length, flo := st.fams.length, kills := [] }) (.out .ret s2 { st with lo := st.heap.length, flo := st.fams.length, kills := [] }) ∧ resB Try.prog { st with lo := st.heap.length, flo := st.fams.length, kills := [] } s2 Try.f22.results = some (.str (Low1 s)) := by
      rw [Try.results22]
      simp only [Try.f22, Option.getD_some, List.replicate, List.cons_append, List.nil_append]
      cases hc : check1 s
      all_goals
        apply Exists.intro
        apply And.intro
        · apply Runs.of 12
          simp [run_seq, run_cond, run_block, run_region, run_skip, run_exit, run_rett, ans, killAll, V.kills, opsRun, opRun, wantedB, aop, ev, ofVal, mk, mk3, mkS, putS, binB, builtinB, Try.underlying5, Try.underlying3, Try.underlying9, Try.underlying35, told22_27, told22_30, call27, call30, checkA, lowA, hc, Low1, hlen]
          first | exact ⟨rfl, rfl⟩ | rfl
        · simp [resB, hc, Low1]
    obtain ⟨s2, k1, k2⟩ := key
    refine Runs.call_pure (args := [.str s]) (fn := Try.f22) (c := Try.f22.body.getD .skip) rfl Try.func22 rfl (by rw [Try.ntmps22]; simp) rfl k1 (.inr rfl) k2 ?_ ?_
    · simp [V.under, V.unders]
    · simp [V.freeze, V.freezes]
  · simp at h

end Go.Abs

/- wellspringref02.Labels. -/
namespace Go.Abs
open Go Go.Proofs

noncomputable def body28 : Code := (loops (Try.f28.body.getD .skip)).headD .skip

structure Inv28 (l : List (List UInt8)) (n : List UInt8) (i : Nat) (fs : List Fam) (flo : Nat) (s : List V) : Prop where
  len : s.length = 56
  n0 : s[0]? = some (.str n)
  i5 : s[5]? = some (.int .i64 i)
  l4 : ∃ v, s[4]? = some v ∧ Held l fs flo v

section
variable {l : List (List UInt8)} {n : List UInt8} {i : Nat} {fs : List Fam} {flo lo : Nat} {h : List Box} {ks : List Nat} {s : List V} {c : UInt8}

theorem end28 (hn : n.length ≤ i) (I : Inv28 l n i fs flo s) (st : St) : ∃ s', run C31 Try.prog 20 (.code body28 s st) = some (.out (.exit 0) s' st) ∧ s'.length = 56 := by
  obtain ⟨h0, h1, h5, lv, h4, H⟩ := I
  obtain ⟨J, rfl⟩ : ∃ J : Nat → V, s = [J 0, J 1, J 2, J 3, J 4, J 5, J 6, J 7, J 8, J 9, J 10, J 11, J 12, J 13, J 14, J 15, J 16, J 17, J 18, J 19, J 20, J 21, J 22, J 23, J 24, J 25, J 26, J 27, J 28, J 29, J 30, J 31, J 32, J 33, J 34, J 35, J 36, J 37, J 38, J 39, J 40, J 41, J 42, J 43, J 44, J 45, J 46, J 47, J 48, J 49, J 50, J 51, J 52, J 53, J 54, J 55] := ⟨fun i => s.getD i .any, lits s 56 h0⟩
  simp only [List.getElem?_cons_succ, List.getElem?_cons_zero, Option.some.injEq] at h1 h4 h5
  have hn' : ¬ (i : Int) < n.length := by omega
  apply Exists.intro
  apply And.intro
  · simp only [body28, loops, Try.f28, Option.getD_some, List.cons_append, List.nil_append, List.append_nil, List.headD_cons]
    simp [run_seq, run_cond, run_block, run_region, run_skip, run_exit, run_rett, ans, killAll, V.kills, opsRun, opRun, wantedB, aop, ev, ofVal, mk, mk3, mkS, putS, binB, builtinB, newsB, notIntB, appendB, buildSliceB, sliceB, boundB, indexB, convB, size9, bytes9, zero9, V.flat, Try.underlying5, Try.underlying3, Try.underlying9, Try.underlying35, cutTok, h1, h4, h5, hn']
    first | exact ⟨rfl, rfl⟩ | rfl
  · rfl

theorem zero28 (hi : n[i]? = some c) (hc0 : c.toNat = 0) (hlen : n.length ≤ 1048576) (I : Inv28 l n i fs flo s) (st : St) :
    ∃ s' v, run C31 Try.prog 20 (.code body28 s st) = some (.out .ret s' st) ∧ s'[2]? = some v ∧ Held l fs flo v ∧ s'[3]? = some (.bool (i == n.length - 1)) := by
  obtain ⟨h0, h1, h5, lv, h4, H⟩ := I
  obtain ⟨J, rfl⟩ : ∃ J : Nat → V, s = [J 0, J 1, J 2, J 3, J 4, J 5, J 6, J 7, J 8, J 9, J 10, J 11, J 12, J 13, J 14, J 15, J 16, J 17, J 18, J 19, J 20, J 21, J 22, J 23, J 24, J 25, J 26, J 27, J 28, J 29, J 30, J 31, J 32, J 33, J 34, J 35, J 36, J 37, J 38, J 39, J 40, J 41, J 42, J 43, J 44, J 45, J 46, J 47, J 48, J 49, J 50, J 51, J 52, J 53, J 54, J 55] := ⟨fun i => s.getD i .any, lits s 56 h0⟩
  simp only [List.getElem?_cons_succ, List.getElem?_cons_zero, Option.some.injEq] at h1 h4 h5
  have hlt : i < n.length := (List.getElem?_eq_some_iff.1 hi).1
  have hg : n[i] = c := (List.getElem?_eq_some_iff.1 hi).2
  have hn' : (i : Int) < n.length := by omega
  have w1 : IntKind.wrap .i64 (0 : Int) = 0 := wrap64 (by omega) (by omega)
  have w2 : IntKind.wrap .i64 ((n.length : Int) - 1) = ((n.length - 1 : Nat) : Int) := by rw [wrap64 (by omega) (by omega)]; omega
  have e1 : ((i : Int) == ((n.length - 1 : Nat) : Int)) = (i == n.length - 1) := by
    rw [Bool.eq_iff_iff]; simp; omega
  apply Exists.intro
  apply Exists.intro
  apply And.intro
  · simp only [body28, loops, Try.f28, Option.getD_some, List.cons_append, List.nil_append, List.append_nil, List.headD_cons]
    simp [run_seq, run_cond, run_block, run_region, run_skip, run_exit, run_rett, ans, killAll, V.kills, opsRun, opRun, wantedB, aop, ev, ofVal, mk, mk3, mkS, putS, binB, builtinB, newsB, notIntB, appendB, buildSliceB, sliceB, boundB, indexB, convB, size9, bytes9, zero9, V.flat, Try.underlying5, Try.underlying3, Try.underlying9, Try.underlying35, cutTok, h1, h4, h5, hlt, hg, hc0, w1, w2]
    first | exact ⟨rfl, rfl⟩ | rfl
  · exact ⟨rfl, H, by simp only [List.getElem?_cons_succ, List.getElem?_cons_zero, e1]⟩

theorem bad28 (hi : n[i]? = some c) (hc0 : c.toNat ≠ 0) (hb : 63 < c.toNat ∨ n.length - i ≤ c.toNat) (hlen : n.length ≤ 1048576) (I : Inv28 l n i fs flo s) (st : St) :
    ∃ s', run C31 Try.prog 20 (.code body28 s st) = some (.out .ret s' st) ∧ s'[2]? = some (.list .nil 0 0 []) ∧ s'[3]? = some (.bool false) := by
  obtain ⟨h0, h1, h5, lv, h4, H⟩ := I
  obtain ⟨J, rfl⟩ : ∃ J : Nat → V, s = [J 0, J 1, J 2, J 3, J 4, J 5, J 6, J 7, J 8, J 9, J 10, J 11, J 12, J 13, J 14, J 15, J 16, J 17, J 18, J 19, J 20, J 21, J 22, J 23, J 24, J 25, J 26, J 27, J 28, J 29, J 30, J 31, J 32, J 33, J 34, J 35, J 36, J 37, J 38, J 39, J 40, J 41, J 42, J 43, J 44, J 45, J 46, J 47, J 48, J 49, J 50, J 51, J 52, J 53, J 54, J 55] := ⟨fun i => s.getD i .any, lits s 56 h0⟩
  simp only [List.getElem?_cons_succ, List.getElem?_cons_zero, Option.some.injEq] at h1 h4 h5
  have hlt : i < n.length := (List.getElem?_eq_some_iff.1 hi).1
  have hg : n[i] = c := (List.getElem?_eq_some_iff.1 hi).2
  have hcl := c.toNat_lt
  have hn' : (i : Int) < n.length := by omega
  have w1 : IntKind.wrap .i64 (c.toNat : Int) = c.toNat := wrap64 (by omega) (by omega)
  have w2 : IntKind.wrap .i64 ((n.length : Int) - i) = (n.length : Int) - i := wrap64 (by omega) (by omega)
  have hc0' : ¬ (c.toNat : Int) = 0 := by omega
  have c1 : ((63 : Int) < c.toNat) ∨ (¬ ((63 : Int) < c.toNat) ∧ ((n.length : Int) - i ≤ c.toNat)) := by omega
  rcases c1 with c1 | ⟨c1, c2⟩
  · apply Exists.intro
    apply And.intro
    · simp only [body28, loops, Try.f28, Option.getD_some, List.cons_append, List.nil_append, List.append_nil, List.headD_cons]
      simp [run_seq, run_cond, run_block, run_region, run_skip, run_exit, run_rett, ans, killAll, V.kills, opsRun, opRun, wantedB, aop, ev, ofVal, mk, mk3, mkS, putS, binB, builtinB, newsB, notIntB, appendB, buildSliceB, sliceB, boundB, indexB, convB, size9, bytes9, zero9, V.flat, Try.underlying5, Try.underlying3, Try.underlying9, Try.underlying35, cutTok, h1, h4, h5, hlt, hg, hc0, w1, w2, c1]
      first | exact ⟨rfl, rfl⟩ | rfl
    · exact ⟨rfl, rfl⟩
  · apply Exists.intro
    apply And.intro
    · simp only [body28, loops, Try.f28, Option.getD_some, List.cons_append, List.nil_append, List.append_nil, List.headD_cons]
      simp [run_seq, run_cond, run_block, run_region, run_skip, run_exit, run_rett, ans, killAll, V.kills, opsRun, opRun, wantedB, aop, ev, ofVal, mk, mk3, mkS, putS, binB, builtinB, newsB, notIntB, appendB, buildSliceB, sliceB, boundB, indexB, convB, size9, bytes9, zero9, V.flat, Try.underlying5, Try.underlying3, Try.underlying9, Try.underlying35, cutTok, h1, h4, h5, hlt, hg, hc0, w1, w2, c1, c2]
      first | exact ⟨rfl, rfl⟩ | rfl
    · exact ⟨rfl, rfl⟩

theorem step28 (hi : n[i]? = some c) (hc0 : c.toNat ≠ 0) (h2c : c.toNat ≤ 63) (h3c : c.toNat < n.length - i) (hlen : n.length ≤ 1048576) (hl : l.length ≤ 1048576) (hfl : flo ≤ fs.length) (I : Inv28 l n i fs flo s) :
    ∃ s' fs', run C31 Try.prog 20 (.code body28 s ⟨h, fs, lo, flo, ks⟩) = some (.out .normal s' ⟨h, fs', lo, flo, ks⟩) ∧ Inv28 (l ++ [(n.take (i + 1 + c.toNat)).drop (i + 1)]) n (i + 1 + c.toNat) fs' flo s' ∧ flo ≤ fs'.length := by
  obtain ⟨h0, h1, h5, lv, h4, H⟩ := I
  obtain ⟨J, rfl⟩ : ∃ J : Nat → V, s = [J 0, J 1, J 2, J 3, J 4, J 5, J 6, J 7, J 8, J 9, J 10, J 11, J 12, J 13, J 14, J 15, J 16, J 17, J 18, J 19, J 20, J 21, J 22, J 23, J 24, J 25, J 26, J 27, J 28, J 29, J 30, J 31, J 32, J 33, J 34, J 35, J 36, J 37, J 38, J 39, J 40, J 41, J 42, J 43, J 44, J 45, J 46, J 47, J 48, J 49, J 50, J 51, J 52, J 53, J 54, J 55] := ⟨fun i => s.getD i .any, lits s 56 h0⟩
  simp only [List.getElem?_cons_succ, List.getElem?_cons_zero, Option.some.injEq] at h1 h4 h5
  have hlt : i < n.length := (List.getElem?_eq_some_iff.1 hi).1
  have hg : n[i] = c := (List.getElem?_eq_some_iff.1 hi).2
  have hcl := c.toNat_lt
  have hn' : (i : Int) < n.length := by omega
  have w1 : IntKind.wrap .i64 (c.toNat : Int) = c.toNat := wrap64 (by omega) (by omega)
  have w2 : IntKind.wrap .i64 ((n.length : Int) - i) = (n.length : Int) - i := wrap64 (by omega) (by omega)
  have w3 : IntKind.wrap .i64 ((i : Int) + 1) = ((i + 1 : Nat) : Int) := by rw [wrap64 (by omega) (by omega)]; omega
  have w4 : IntKind.wrap .i64 (((i + 1 : Nat) : Int) + c.toNat) = ((i + 1 + c.toNat : Nat) : Int) := by rw [wrap64 (by omega) (by omega)]; omega
  have hc0' : ¬ (c.toNat : Int) = 0 := by omega
  have c1 : ¬ ((63 : Int) < c.toNat) := by omega
  have c2 : ¬ ((n.length : Int) - i ≤ c.toNat) := by omega
  have c3 : (0 : Int) ≤ ((i + 1 + c.toNat : Nat) : Int) ∧ ((i + 1 + c.toNat : Nat) : Int) ≤ n.length := by omega
  have c4 : (0 : Int) ≤ ((i + 1 : Nat) : Int) ∧ ((i + 1 : Nat) : Int) ≤ ((i + 1 + c.toNat : Nat) : Int) := by omega
  generalize hA : i + 1 + c.toNat = A at *
  generalize hB : i + 1 = B at *
  have c7 : (l.length + 1) * 16 ≤ 140737488355328 := by omega
  rcases H with ⟨rfl, rfl⟩ | ⟨hl0, F, ep, rfl, hF, hFl⟩
  · apply Exists.intro
    apply Exists.intro
    apply And.intro
    · simp only [body28, loops, Try.f28, Option.getD_some, List.cons_append, List.nil_append, List.append_nil, List.headD_cons]
      simp [run_seq, run_cond, run_block, run_region, run_skip, run_exit, run_rett, ans, killAll, V.kills, opsRun, opRun, wantedB, aop, ev, ofVal, mk, mk3, mkS, putS, binB, builtinB, newsB, notIntB, appendB, buildSliceB, sliceB, boundB, indexB, convB, size9, bytes9, zero9, V.flat, Try.underlying5, Try.underlying3, Try.underlying9, Try.underlying35, cutTok, h1, h4, h5, hlt, hg, hc0, w1, w2, w3, w4, c1, c2, c3, c4, roomLim]
      first | exact ⟨rfl, rfl⟩ | rfl
    · exact ⟨⟨rfl, rfl, rfl, _, rfl, .inr ⟨by simp, fs.length, 0, by simp, by simp, hfl⟩⟩, by simp; omega⟩
  · apply Exists.intro
    apply Exists.intro
    apply And.intro
    · simp only [body28, loops, Try.f28, Option.getD_some, List.cons_append, List.nil_append, List.append_nil, List.headD_cons]
      simp [run_seq, run_cond, run_block, run_region, run_skip, run_exit, run_rett, ans, killAll, V.kills, opsRun, opRun, wantedB, aop, ev, ofVal, mk, mk3, mkS, putS, binB, builtinB, newsB, notIntB, appendB, buildSliceB, sliceB, boundB, indexB, convB, size9, bytes9, zero9, V.flat, Try.underlying5, Try.underlying3, Try.underlying9, Try.underlying35, cutTok, h1, h4, h5, hlt, hg, hc0, w1, w2, w3, w4, c1, c2, c3, c4, c7, roomLim, hF, hFl]
      first | exact ⟨rfl, rfl⟩ | rfl
    · exact ⟨⟨rfl, rfl, rfl, _, rfl, .inr ⟨by simp, F, ep + 1, by simp, by simp [(List.getElem?_eq_some_iff.1 hF).1], hFl⟩⟩, by simpa using hfl⟩
end
end Go.Abs

/- wellspringref02.Labels and Check are what they are. -/
namespace Go.Abs
open Go Go.Proofs

def refF : Nat → List (List UInt8) → List UInt8 → Nat → List (List UInt8) × Bool
  | 0, _, _, _ => ([], false)
  | k + 1, l, n, i =>
    match n[i]? with
    | none => ([], false)
    | some c =>
      if c.toNat = 0 then (l, i == n.length - 1)
      else if 63 < c.toNat ∨ n.length - i ≤ c.toNat then ([], false)
      else refF k (l ++ [(n.take (i + 1 + c.toNat)).drop (i + 1)]) n (i + 1 + c.toNat)

section
variable {flo lo : Nat} {h : List Box} {ks : List Nat}

theorem loop28 (n : List UInt8) (hlen : n.length ≤ 1048576) : ∀ (k : Nat) (l : List (List UInt8)) (i : Nat) (s : List V) (fs : List Fam), n.length - i < k → l.length ≤ i → flo ≤ fs.length → Inv28 l n i fs flo s →
    ∃ s' fs' e, Runs C31 Try.prog (.code (.loop body28) s ⟨h, fs, lo, flo, ks⟩) (.out e s' ⟨h, fs', lo, flo, ks⟩) ∧
      ((e = .exit 0 ∧ s'.length = 56 ∧ refF k l n i = ([], false)) ∨ (e = .ret ∧ ∃ v, s'[2]? = some v ∧ Held (refF k l n i).1 fs' flo v ∧ s'[3]? = some (.bool (refF k l n i).2))) := by
  intro k
  induction k with
  | zero => intro l i s fs hk; omega
  | succ k ih =>
    intro l i s fs hk hl hfl I
    rcases Nat.lt_or_ge i n.length with hlt | hge
    · have hi := List.getElem?_eq_getElem hlt
      generalize n[i] = c at hi
      by_cases h0 : c.toNat = 0
      · obtain ⟨s', v, g1, g2, g3, g4⟩ := zero28 hi h0 hlen I ⟨h, fs, lo, flo, ks⟩
        have e : refF (k + 1) l n i = (l, i == n.length - 1) := by simp only [refF, hi, h0, if_true]
        exact ⟨s', fs, _, Runs.loop_out (.of 20 g1) (by simp), .inr ⟨rfl, v, g2, by rw [e]; exact g3, by rw [e]; exact g4⟩⟩
      · by_cases hb : 63 < c.toNat ∨ n.length - i ≤ c.toNat
        · obtain ⟨s', g1, g2, g3⟩ := bad28 hi h0 hb hlen I ⟨h, fs, lo, flo, ks⟩
          have e : refF (k + 1) l n i = ([], false) := by simp only [refF, hi, h0, if_false, hb, if_true]
          exact ⟨s', fs, _, Runs.loop_out (.of 20 g1) (by simp), .inr ⟨rfl, _, g2, by rw [e]; exact .inl ⟨rfl, rfl⟩, by rw [e]; exact g3⟩⟩
        · have hb' : c.toNat ≤ 63 ∧ c.toNat < n.length - i := by omega
          obtain ⟨s1, fs1, g1, g2, g3⟩ := step28 (h := h) (lo := lo) (ks := ks) hi h0 hb'.1 hb'.2 hlen (by omega) hfl I
          obtain ⟨s2, fs2, e, k1, k2⟩ := ih _ _ s1 fs1 (by omega) (by simp; omega) g3 g2
          have e1 : refF (k + 1) l n i = refF k (l ++ [(n.take (i + 1 + c.toNat)).drop (i + 1)]) n (i + 1 + c.toNat) := by
            conv => lhs; unfold refF
            simp only [hi, h0, if_false, hb]
          rw [e1]
          exact ⟨s2, fs2, e, Runs.loop_next (.of 20 g1) k1, k2⟩
    · obtain ⟨s', g1, g2⟩ := end28 hge I ⟨h, fs, lo, flo, ks⟩
      have e : refF (k + 1) l n i = ([], false) := by simp only [refF, List.getElem?_eq_none hge]
      exact ⟨s', fs, _, Runs.loop_out (.of 20 g1) (by simp), .inl ⟨rfl, g2, e⟩⟩
end

def ref1 (s : List UInt8) : List (List UInt8) × Bool := if s.length < 1 ∨ 255 < s.length then ([], false) else refF (s.length + 1) [] s 0
def refLabelsA : List V → Option V
  | [.str s] => if s.length ≤ 1048576 then some (.tup [VL (ref1 s).1, .bool (ref1 s).2]) else none
  | _ => none

theorem refLabels_sound : Sound Try.prog 28 (ans refLabelsA) := by
  refine sound_ans X31 fun args st v h => ?_
  unfold refLabelsA at h
  split at h
  · rename_i s
    split at h
    rotate_left
    · simp at h
    rename_i hlen
    simp only [Option.some.injEq] at h
    subst h
    have key : ∃ s2 st2 v2, Runs C31 Try.prog (.code (Try.f28.body.getD .skip) ([.str s] ++ List.replicate 55 (.tup [])) { st with lo := st.heap.length, flo := st.fams.length, kills := [] }) (.out .ret s2 st2) ∧
        s2[2]? = some v2 ∧ s2[3]? = some (.bool (ref1 s).2) ∧ v2.under st.heap.length = true ∧ v2.freeze st.fams.length = VL (ref1 s).1 := by
      simp only [Try.f28, Option.getD_some, List.replicate, List.cons_append, List.nil_append]
      by_cases hbad : s.length < 1 ∨ 255 < s.length
      · have hcase : ((s.length : Int) < 1) ∨ (¬ ((s.length : Int) < 1) ∧ (255 : Int) < s.length) := by omega
        have hs1 : ref1 s = ([], false) := by simp only [ref1, hbad, if_true]
        rcases hcase with hA | ⟨hA, hB⟩
        · have hA' : s = [] := List.length_eq_zero_iff.1 (by omega)
          subst hA'
          apply Exists.intro
          apply Exists.intro
          apply Exists.intro
          apply And.intro
          · apply Runs.seq
            · apply Runs.of 5
              simp [run_seq, run_cond, run_block, run_region, run_skip, run_exit, run_rett, ans, killAll, V.kills, opsRun, opRun, wantedB, aop, ev, ofVal, mk, mk3, mkS, putS, binB, builtinB, Try.underlying5, Try.underlying3, Try.underlying9, Try.underlying35]
              first | exact ⟨rfl, rfl⟩ | rfl
            apply Runs.seq
            · apply Runs.of 5
              simp [run_seq, run_cond, run_block, run_region, run_skip, run_exit, run_rett, ans, killAll, V.kills, opsRun, opRun, wantedB, aop, ev, ofVal, mk, mk3, mkS, putS, binB, builtinB, Try.underlying5, Try.underlying3, Try.underlying9, Try.underlying35]
              first | exact ⟨rfl, rfl⟩ | rfl
            apply Runs.seq_out
            · apply Runs.of 5
              simp [run_seq, run_cond, run_block, run_region, run_skip, run_exit, run_rett, ans, killAll, V.kills, opsRun, opRun, wantedB, aop, ev, ofVal, mk, mk3, mkS, putS, binB, builtinB, Try.underlying5, Try.underlying3, Try.underlying9, Try.underlying35]
              first | exact ⟨rfl, rfl⟩ | rfl
            · simp
          · exact ⟨rfl, by rw [hs1]; rfl, by simp [V.under, V.unders], by rw [hs1]; simp [V.freeze, V.freezes, VL]⟩
        · apply Exists.intro
          apply Exists.intro
          apply Exists.intro
          apply And.intro
          · apply Runs.seq
            · apply Runs.of 5
              simp [run_seq, run_cond, run_block, run_region, run_skip, run_exit, run_rett, ans, killAll, V.kills, opsRun, opRun, wantedB, aop, ev, ofVal, mk, mk3, mkS, putS, binB, builtinB, Try.underlying5, Try.underlying3, Try.underlying9, Try.underlying35]
              first | exact ⟨rfl, rfl⟩ | rfl
            apply Runs.seq
            · apply Runs.of 5
              simp [run_seq, run_cond, run_block, run_region, run_skip, run_exit, run_rett, ans, killAll, V.kills, opsRun, opRun, wantedB, aop, ev, ofVal, mk, mk3, mkS, putS, binB, builtinB, Try.underlying5, Try.underlying3, Try.underlying9, Try.underlying35]
              first | exact ⟨rfl, rfl⟩ | rfl
            apply Runs.seq_out
            · apply Runs.of 5
              simp [run_seq, run_cond, run_block, run_region, run_skip, run_exit, run_rett, ans, killAll, V.kills, opsRun, opRun, wantedB, aop, ev, ofVal, mk, mk3, mkS, putS, binB, builtinB, Try.underlying5, Try.underlying3, Try.underlying9, Try.underlying35, hA, hB]
              first | exact ⟨rfl, rfl⟩ | rfl
            · simp
          · exact ⟨rfl, by rw [hs1]; rfl, by simp [V.under, V.unders], by rw [hs1]; simp [V.freeze, V.freezes, VL]⟩
      · have hA : ¬ ((s.length : Int) < 1) := by omega
        have hB : ¬ ((255 : Int) < s.length) := by omega
        have hs1 : ref1 s = refF (s.length + 1) [] s 0 := by simp only [ref1, hbad, if_false]
        obtain ⟨s1, fs1, e, g1, g2⟩ := loop28 (h := st.heap) (lo := st.heap.length) (flo := st.fams.length) (ks := []) s hlen (s.length + 1) [] 0
          ([.str s, .tup [], .list .nil 0 0 [], .bool false, .list .nil 0 0 [], .int .i64 0, .tup [], .str s, .int .i64 s.length, .bool false, .bool false, .str s, .int .i64 s.length, .bool false, .bool false] ++ List.replicate 41 (.tup [])) st.fams (by omega) (by simp) (Nat.le_refl _)
          ⟨rfl, rfl, rfl, _, rfl, .inl ⟨rfl, rfl⟩⟩
        simp only [List.replicate, List.cons_append, List.nil_append] at g1
        rcases g2 with ⟨rfl, h0, hsp⟩ | ⟨rfl, v2, k2, H, k3⟩
        · obtain ⟨J, rfl⟩ : ∃ J : Nat → V, s1 = [J 0, J 1, J 2, J 3, J 4, J 5, J 6, J 7, J 8, J 9, J 10, J 11, J 12, J 13, J 14, J 15, J 16, J 17, J 18, J 19, J 20, J 21, J 22, J 23, J 24, J 25, J 26, J 27, J 28, J 29, J 30, J 31, J 32, J 33, J 34, J 35, J 36, J 37, J 38, J 39, J 40, J 41, J 42, J 43, J 44, J 45, J 46, J 47, J 48, J 49, J 50, J 51, J 52, J 53, J 54, J 55] := ⟨fun i => s1.getD i .any, lits s1 56 h0⟩
          apply Exists.intro
          apply Exists.intro
          apply Exists.intro
          apply And.intro
          · skip
            apply Runs.seq
            · apply Runs.of 5
              simp [run_seq, run_cond, run_block, run_region, run_skip, run_exit, run_rett, ans, killAll, V.kills, opsRun, opRun, wantedB, aop, ev, ofVal, mk, mk3, mkS, putS, binB, builtinB, Try.underlying5, Try.underlying3, Try.underlying9, Try.underlying35]
              first | exact ⟨rfl, rfl⟩ | rfl
            apply Runs.seq
            · apply Runs.of 5
              simp [run_seq, run_cond, run_block, run_region, run_skip, run_exit, run_rett, ans, killAll, V.kills, opsRun, opRun, wantedB, aop, ev, ofVal, mk, mk3, mkS, putS, binB, builtinB, Try.underlying5, Try.underlying3, Try.underlying9, Try.underlying35]
              first | exact ⟨rfl, rfl⟩ | rfl
            apply Runs.seq
            · apply Runs.of 5
              simp [run_seq, run_cond, run_block, run_region, run_skip, run_exit, run_rett, ans, killAll, V.kills, opsRun, opRun, wantedB, aop, ev, ofVal, mk, mk3, mkS, putS, binB, builtinB, Try.underlying5, Try.underlying3, Try.underlying9, Try.underlying35, hA, hB]
              first | exact ⟨rfl, rfl⟩ | rfl
            apply Runs.seq
            · apply Runs.of 5
              simp [run_seq, run_cond, run_block, run_region, run_skip, run_exit, run_rett, ans, killAll, V.kills, opsRun, opRun, wantedB, aop, ev, ofVal, mk, mk3, mkS, putS, binB, builtinB, Try.underlying5, Try.underlying3, Try.underlying9, Try.underlying35]
              first | exact ⟨rfl, rfl⟩ | rfl
            apply Runs.seq
            · exact Runs.block (id := 0) g1
            apply Runs.of 5
            simp [run_seq, run_cond, run_block, run_region, run_skip, run_exit, run_rett, ans, killAll, V.kills, opsRun, opRun, wantedB, aop, ev, ofVal, mk, mk3, mkS, putS, binB, builtinB, Try.underlying5, Try.underlying3, Try.underlying9, Try.underlying35]
            first | exact ⟨rfl, rfl⟩ | rfl
          · exact ⟨rfl, by rw [hs1, hsp]; rfl, by simp [V.under, V.unders], by rw [hs1, hsp]; simp [V.freeze, V.freezes, VL]⟩
        · obtain ⟨u1, u2⟩ := held_out (h := st.heap.length) H
          refine ⟨s1, ⟨st.heap, fs1, st.heap.length, st.fams.length, []⟩, v2, ?_, k2, by rw [hs1]; exact k3, u1, by rw [hs1]; exact u2⟩
          apply Runs.seq
          · apply Runs.of 5
            simp [run_seq, run_cond, run_block, run_region, run_skip, run_exit, run_rett, ans, killAll, V.kills, opsRun, opRun, wantedB, aop, ev, ofVal, mk, mk3, mkS, putS, binB, builtinB, Try.underlying5, Try.underlying3, Try.underlying9, Try.underlying35]
            first | exact ⟨rfl, rfl⟩ | rfl
          apply Runs.seq
          · apply Runs.of 5
            simp [run_seq, run_cond, run_block, run_region, run_skip, run_exit, run_rett, ans, killAll, V.kills, opsRun, opRun, wantedB, aop, ev, ofVal, mk, mk3, mkS, putS, binB, builtinB, Try.underlying5, Try.underlying3, Try.underlying9, Try.underlying35]
            first | exact ⟨rfl, rfl⟩ | rfl
          apply Runs.seq
          · apply Runs.of 5
            simp [run_seq, run_cond, run_block, run_region, run_skip, run_exit, run_rett, ans, killAll, V.kills, opsRun, opRun, wantedB, aop, ev, ofVal, mk, mk3, mkS, putS, binB, builtinB, Try.underlying5, Try.underlying3, Try.underlying9, Try.underlying35, hA, hB]
            first | exact ⟨rfl, rfl⟩ | rfl
          apply Runs.seq
          · apply Runs.of 5
            simp [run_seq, run_cond, run_block, run_region, run_skip, run_exit, run_rett, ans, killAll, V.kills, opsRun, opRun, wantedB, aop, ev, ofVal, mk, mk3, mkS, putS, binB, builtinB, Try.underlying5, Try.underlying3, Try.underlying9, Try.underlying35]
            first | exact ⟨rfl, rfl⟩ | rfl
          apply Runs.seq_out
          · exact Runs.block (id := 0) g1
          · simp
    obtain ⟨s2, st2, v2, k1, k2, k3, k4, k5⟩ := key
    refine Runs.call_pure (args := [.str s]) (fn := Try.f28) (c := Try.f28.body.getD .skip) (v := .tup [v2, .bool (ref1 s).2]) rfl Try.func28 rfl (by rw [Try.ntmps28]; simp) rfl k1 (.inr rfl) ?_ ?_ ?_
    · rw [Try.results28]
      simp [resB, k2, k3]
    · simp [V.under, V.unders, k4]
    · simp [V.freeze, V.freezes, k5]
  · simp at h
end Go.Abs

/- wellspringref02.Check, wellspringref03.letter. -/
namespace Go.Abs
open Go Go.Proofs

theorem call28 : callableB Try.prog 28 = true := by kernel_rfl
theorem call16 : callableB Try.prog 16 = true := by kernel_rfl
theorem call21 : callableB Try.prog 21 = true := by kernel_rfl

def refCheck1 (s : List UInt8) : Bool := (ref1 s).2
def refCheckA : List V → Option V
  | [.str s] => if s.length ≤ 1048576 then some (.bool (refCheck1 s)) else none
  | _ => none

noncomputable def C16 : Cfg := .of [] ([(28, refLabelsA)].map fun p => (p.1, ans p.2))
theorem X16 : ExtOK Try.prog C16 := ext_ans mixed (by
  intro p hp
  simp only [List.mem_cons, List.not_mem_nil, or_false] at hp
  rcases hp with rfl
  · exact refLabels_sound) []
theorem told16_28 (k : Nat) (args : List V) (st : St) : retOf (run C16 Try.prog (k + 1) (.call 28 args st)) = ans refLabelsA args st := told rfl

theorem refCheck_sound : Sound Try.prog 16 (ans refCheckA) := by
  refine sound_ans X16 fun args st v h => ?_
  unfold refCheckA at h
  split at h
  · rename_i s
    split at h
    rotate_left
    · simp at h
    rename_i hlen
    simp only [Option.some.injEq] at h
    subst h
    have key : ∃ s2, Runs C16 Try.prog (.code (Try.f16.body.getD .skip) ([.str s] ++ List.replicate 10 (.tup [])) { st with lo := st.heap.length, flo := st.fams.length, kills := [] }) (.out .ret s2 { st with lo := st.heap.length, flo := st.fams.length, kills := [] }) ∧ resB Try.prog { st with lo := st.heap.length, flo := st.fams.length, kills := [] } s2 Try.f16.results = some (.bool (refCheck1 s)) := by
      rw [Try.results16]
      simp only [Try.f16, Option.getD_some, List.replicate, List.cons_append, List.nil_append]
      apply Exists.intro
      apply And.intro
      · apply Runs.of 12
        simp [run_seq, run_cond, run_block, run_region, run_skip, run_exit, run_rett, ans, killAll, V.kills, opsRun, opRun, wantedB, aop, ev, ofVal, mk, mk3, mkS, putS, binB, builtinB, Try.underlying5, Try.underlying3, Try.underlying9, Try.underlying35, told16_28, call28, refLabelsA, hlen]
        first | exact ⟨rfl, rfl⟩ | rfl
      · simp [resB, refCheck1]
    obtain ⟨s2, k1, k2⟩ := key
    refine Runs.call_pure (args := [.str s]) (fn := Try.f16) (c := Try.f16.body.getD .skip) rfl Try.func16 rfl (by rw [Try.ntmps16]; simp) rfl k1 (.inr rfl) k2 ?_ ?_
    · simp [V.under, V.unders]
    · simp [V.freeze, V.freezes]
  · simp at h

def refLetter1 (c : Int) : Bool := (decide (97 ≤ c) && decide (c ≤ 122)) || (decide (65 ≤ c) && decide (c ≤ 90))
def refLetterA : List V → Option V
  | [.int .u8 c] => some (.bool (refLetter1 c))
  | _ => none

noncomputable def C21 : Cfg := .of [] (([] : List (FuncId × (List V → Option V))).map fun p => (p.1, ans p.2))
theorem X21 : ExtOK Try.prog C21 := ext_ans mixed (by
  intro p hp
  simp at hp) []

theorem refLetter_sound : Sound Try.prog 21 (ans refLetterA) := by
  refine sound_ans X21 fun args st v h => ?_
  unfold refLetterA at h
  split at h
  · rename_i c
    simp only [Option.some.injEq] at h
    subst h
    have key : ∃ s2, Runs C21 Try.prog (.code (Try.f21.body.getD .skip) ([.int .u8 c] ++ List.replicate 16 (.tup [])) { st with lo := st.heap.length, flo := st.fams.length, kills := [] }) (.out .ret s2 { st with lo := st.heap.length, flo := st.fams.length, kills := [] }) ∧ resB Try.prog { st with lo := st.heap.length, flo := st.fams.length, kills := [] } s2 Try.f21.results = some (.bool (refLetter1 c)) := by
      rw [Try.results21]
      simp only [Try.f21, Option.getD_some, List.replicate, List.cons_append, List.nil_append]
      rcases (show ((97 ≤ c) ∧ (c ≤ 122)) ∨ ((97 ≤ c) ∧ ¬ (c ≤ 122) ∧ (65 ≤ c) ∧ ¬ (c ≤ 90)) ∨ (¬ (97 ≤ c) ∧ (65 ≤ c) ∧ (c ≤ 90)) ∨ (¬ (97 ≤ c) ∧ (65 ≤ c) ∧ ¬ (c ≤ 90)) ∨ (¬ (97 ≤ c) ∧ ¬ (65 ≤ c)) by omega) with hc | hc | hc | hc | hc
      all_goals
        apply Exists.intro
        apply And.intro
        · apply Runs.of 12
          simp [run_seq, run_cond, run_block, run_region, run_skip, run_exit, run_rett, ans, killAll, V.kills, opsRun, opRun, wantedB, aop, ev, ofVal, mk, mk3, mkS, putS, binB, builtinB, Try.underlying5, Try.underlying3, Try.underlying9, Try.underlying35, hc, refLetter1]
          first | exact ⟨rfl, rfl⟩ | rfl
        · simp [resB, hc, refLetter1]
    obtain ⟨s2, k1, k2⟩ := key
    refine Runs.call_pure (args := [.int .u8 c]) (fn := Try.f21) (c := Try.f21.body.getD .skip) rfl Try.func21 rfl (by rw [Try.ntmps21]; simp) rfl k1 (.inr rfl) k2 ?_ ?_
    · simp [V.under, V.unders]
    · simp [V.freeze, V.freezes]
  · simp at h

end Go.Abs

/- wellspringref03.Letters. -/
namespace Go.Abs
open Go Go.Proofs

noncomputable def C9 : Cfg := .of [] ([(16, refCheckA), (21, refLetterA)].map fun p => (p.1, ans p.2))
theorem X9 : ExtOK Try.prog C9 := ext_ans mixed (by
  intro p hp
  simp only [List.mem_cons, List.not_mem_nil, or_false] at hp
  rcases hp with rfl | rfl
  · exact refCheck_sound
  · exact refLetter_sound) []
theorem told9_16 (k : Nat) (args : List V) (st : St) : retOf (run C9 Try.prog (k + 1) (.call 16 args st)) = ans refCheckA args st := told rfl
theorem told9_21 (k : Nat) (args : List V) (st : St) : retOf (run C9 Try.prog (k + 1) (.call 21 args st)) = ans refLetterA args st := told rfl
noncomputable def body9 : Code := (loops (Try.f9.body.getD .skip)).headD .skip

structure Inv9 (n : List UInt8) (k i : Nat) (s : List V) : Prop where
  len : s.length = 22
  n0 : s[0]? = some (.str n)
  k3 : s[3]? = some (.int .i64 k)
  i4 : s[4]? = some (.int .i64 i)

section
variable {n : List UInt8} {k i : Nat} {s : List V} {c : UInt8}

theorem end9 (hn : n.length ≤ i ∨ refCheck1 n = false) (hlen : n.length ≤ 1048576) (I : Inv9 n k i s) (st : St) : ∃ s', run C9 Try.prog 20 (.code body9 s st) = some (.out (.exit 0) s' st) ∧ Inv9 n k i s' := by
  obtain ⟨h0, h1, h3, h4⟩ := I
  obtain ⟨J, rfl⟩ : ∃ J : Nat → V, s = [J 0, J 1, J 2, J 3, J 4, J 5, J 6, J 7, J 8, J 9, J 10, J 11, J 12, J 13, J 14, J 15, J 16, J 17, J 18, J 19, J 20, J 21] := ⟨fun i => s.getD i .any, lits s 22 h0⟩
  simp only [List.getElem?_cons_succ, List.getElem?_cons_zero, Option.some.injEq] at h1 h3 h4
  by_cases hlt : i < n.length
  · have hn : refCheck1 n = false := by rcases hn with h | h <;> first | exact h | omega
    apply Exists.intro
    apply And.intro
    · simp only [body9, loops, Try.f9, Option.getD_some, List.cons_append, List.nil_append, List.append_nil, List.headD_cons]
      simp [run_seq, run_cond, run_block, run_region, run_skip, run_exit, run_rett, ans, killAll, V.kills, opsRun, opRun, wantedB, aop, ev, ofVal, mk, mk3, mkS, putS, binB, builtinB, indexB, Try.underlying5, Try.underlying3, Try.underlying9, told9_16, told9_21, call16, call21, refCheckA, refLetterA, h1, h3, h4, hlt, hn, hlen]
      first | exact ⟨rfl, rfl⟩ | rfl
    · exact ⟨rfl, by simp [h1], by simp [h3], by simp [h4]⟩
  · apply Exists.intro
    apply And.intro
    · simp only [body9, loops, Try.f9, Option.getD_some, List.cons_append, List.nil_append, List.append_nil, List.headD_cons]
      simp [run_seq, run_cond, run_block, run_region, run_skip, run_exit, run_rett, ans, killAll, V.kills, opsRun, opRun, wantedB, aop, ev, ofVal, mk, mk3, mkS, putS, binB, builtinB, indexB, Try.underlying5, Try.underlying3, Try.underlying9, told9_16, told9_21, call16, call21, refCheckA, refLetterA, h1, h3, h4, hlt, hlen]
      first | exact ⟨rfl, rfl⟩ | rfl
    · exact ⟨rfl, by simp [h1], by simp [h3], by simp [h4]⟩

theorem step9 (hi : n[i]? = some c) (hn : refCheck1 n = true) (hlen : n.length ≤ 1048576) (hk : k ≤ i) (I : Inv9 n k i s) (st : St) :
    ∃ s', run C9 Try.prog 20 (.code body9 s st) = some (.out .normal s' st) ∧ Inv9 n (if refLetter1 c.toNat then k + 1 else k) (i + 1) s' := by
  obtain ⟨h0, h1, h3, h4⟩ := I
  obtain ⟨J, rfl⟩ : ∃ J : Nat → V, s = [J 0, J 1, J 2, J 3, J 4, J 5, J 6, J 7, J 8, J 9, J 10, J 11, J 12, J 13, J 14, J 15, J 16, J 17, J 18, J 19, J 20, J 21] := ⟨fun i => s.getD i .any, lits s 22 h0⟩
  simp only [List.getElem?_cons_succ, List.getElem?_cons_zero, Option.some.injEq] at h1 h3 h4
  have hlt : i < n.length := (List.getElem?_eq_some_iff.1 hi).1
  have hg : n[i] = c := (List.getElem?_eq_some_iff.1 hi).2
  have w1 : IntKind.wrap .i64 ((i : Int) + 1) = (i : Int) + 1 := wrap64 (by omega) (by omega)
  have w2 : IntKind.wrap .i64 ((k : Int) + 1) = (k : Int) + 1 := wrap64 (by omega) (by omega)
  cases hl : refLetter1 c.toNat
  · apply Exists.intro
    apply And.intro
    · simp only [body9, loops, Try.f9, Option.getD_some, List.cons_append, List.nil_append, List.append_nil, List.headD_cons]
      simp [run_seq, run_cond, run_block, run_region, run_skip, run_exit, run_rett, ans, killAll, V.kills, opsRun, opRun, wantedB, aop, ev, ofVal, mk, mk3, mkS, putS, binB, builtinB, indexB, Try.underlying5, Try.underlying3, Try.underlying9, told9_16, told9_21, call16, call21, refCheckA, refLetterA, h1, h3, h4, hlt, hg, hn, hlen, hl, w1, w2]
      first | exact ⟨rfl, rfl⟩ | rfl
    · exact ⟨rfl, by simp [h1], by simp [h3], by simp⟩
  · apply Exists.intro
    apply And.intro
    · simp only [body9, loops, Try.f9, Option.getD_some, List.cons_append, List.nil_append, List.append_nil, List.headD_cons]
      simp [run_seq, run_cond, run_block, run_region, run_skip, run_exit, run_rett, ans, killAll, V.kills, opsRun, opRun, wantedB, aop, ev, ofVal, mk, mk3, mkS, putS, binB, builtinB, indexB, Try.underlying5, Try.underlying3, Try.underlying9, told9_16, told9_21, call16, call21, refCheckA, refLetterA, h1, h3, h4, hlt, hg, hn, hlen, hl, w1, w2]
      first | exact ⟨rfl, rfl⟩ | rfl
    · exact ⟨rfl, by simp [h1], by simp [h3], by simp⟩
end

def countF (f : Int → Bool) (l : List UInt8) (k : Nat) : Nat := l.foldl (fun k c => if f c.toNat then k + 1 else k) k

theorem loop9 (n : List UInt8) (hlen : n.length ≤ 1048576) (hn : refCheck1 n = true) (st : St) : ∀ (m k i : Nat) (s : List V), i + m = n.length → k ≤ i → Inv9 n k i s →
    ∃ s' i', Runs C9 Try.prog (.code (.loop body9) s st) (.out (.exit 0) s' st) ∧ Inv9 n (countF refLetter1 (n.drop i) k) i' s' := by
  intro m
  induction m with
  | zero =>
    intro k i s hi hk I
    obtain ⟨s', g1, g2⟩ := end9 (.inl (by omega)) hlen I st
    refine ⟨s', i, Runs.loop_out (.of 20 g1) (by simp), ?_⟩
    rw [List.drop_eq_nil_of_le (by omega)]
    exact g2
  | succ m ih =>
    intro k i s hi hk I
    have hlt : i < n.length := by omega
    obtain ⟨s1, g1, g2⟩ := step9 (List.getElem?_eq_getElem hlt) hn hlen hk I st
    obtain ⟨s2, i', g3, g4⟩ := ih _ (i + 1) s1 (by omega) (by split <;> omega) g2
    refine ⟨s2, i', Runs.loop_next (.of 20 g1) g3, ?_⟩
    rw [List.drop_eq_getElem_cons hlt]
    exact g4

def refLetters1 (n : List UInt8) : Nat := if refCheck1 n then countF refLetter1 n 0 else 0
def refLettersA : List V → Option V
  | [.str s] => if s.length ≤ 1048576 then some (.int .i64 (refLetters1 s)) else none
  | _ => none

theorem refLetters_sound : Sound Try.prog 9 (ans refLettersA) := by
  refine sound_ans X9 fun args st v h => ?_
  unfold refLettersA at h
  split at h
  · rename_i s
    split at h
    rotate_left
    · simp at h
    rename_i hlen
    simp only [Option.some.injEq] at h
    subst h
    have hloop : ∀ st : St, ∃ s' i', Runs C9 Try.prog (.code (.loop body9) ([.str s, .tup [], .int .i64 0, .int .i64 0, .int .i64 0] ++ List.replicate 17 (.tup [])) st) (.out (.exit 0) s' st) ∧ Inv9 s (refLetters1 s) i' s' := by
      intro st
      have I0 : Inv9 s 0 0 ([.str s, .tup [], .int .i64 0, .int .i64 0, .int .i64 0] ++ List.replicate 17 (.tup [])) := ⟨rfl, rfl, rfl, rfl⟩
      cases hn : refCheck1 s
      · obtain ⟨s', g1, g2⟩ := end9 (.inr hn) hlen I0 st
        exact ⟨s', 0, Runs.loop_out (.of 20 g1) (by simp), by simpa [refLetters1, hn] using g2⟩
      · obtain ⟨s', i', g1, g2⟩ := loop9 s hlen hn st s.length 0 0 _ (by omega) (by omega) I0
        exact ⟨s', i', g1, by simpa [refLetters1, hn] using g2⟩
    have key : ∃ s2, Runs C9 Try.prog (.code (Try.f9.body.getD .skip) ([.str s] ++ List.replicate 21 (.tup [])) { st with lo := st.heap.length, flo := st.fams.length, kills := [] }) (.out .ret s2 { st with lo := st.heap.length, flo := st.fams.length, kills := [] }) ∧ s2[2]? = some (.int .i64 (refLetters1 s)) := by
      obtain ⟨s1, i', g1, g2⟩ := hloop { st with lo := st.heap.length, flo := st.fams.length, kills := [] }
      obtain ⟨h0, h1, h3, h4⟩ := g2
      obtain ⟨J, rfl⟩ : ∃ J : Nat → V, s1 = [J 0, J 1, J 2, J 3, J 4, J 5, J 6, J 7, J 8, J 9, J 10, J 11, J 12, J 13, J 14, J 15, J 16, J 17, J 18, J 19, J 20, J 21] := ⟨fun i => s1.getD i .any, lits s1 22 h0⟩
      simp only [List.getElem?_cons_succ, List.getElem?_cons_zero, Option.some.injEq] at h3
      simp only [Try.f9, Option.getD_some, List.replicate, List.cons_append, List.nil_append] at g1 ⊢
      apply Exists.intro
      apply And.intro
      · apply Runs.seq
        · apply Runs.of 5
          simp [run_seq, run_cond, run_block, run_region, run_skip, run_exit, run_rett, ans, killAll, V.kills, opsRun, opRun, wantedB, aop, ev, ofVal, mk, mk3, mkS, putS, binB, builtinB, indexB, Try.underlying5, Try.underlying3, Try.underlying9, told9_16, told9_21, call16, call21, refCheckA, refLetterA]
          first | exact ⟨rfl, rfl⟩ | rfl
        apply Runs.seq
        · apply Runs.of 5
          simp [run_seq, run_cond, run_block, run_region, run_skip, run_exit, run_rett, ans, killAll, V.kills, opsRun, opRun, wantedB, aop, ev, ofVal, mk, mk3, mkS, putS, binB, builtinB, indexB, Try.underlying5, Try.underlying3, Try.underlying9, told9_16, told9_21, call16, call21, refCheckA, refLetterA]
          first | exact ⟨rfl, rfl⟩ | rfl
        apply Runs.seq
        · apply Runs.seq
          · apply Runs.of 5
            simp [run_seq, run_cond, run_block, run_region, run_skip, run_exit, run_rett, ans, killAll, V.kills, opsRun, opRun, wantedB, aop, ev, ofVal, mk, mk3, mkS, putS, binB, builtinB, indexB, Try.underlying5, Try.underlying3, Try.underlying9, told9_16, told9_21, call16, call21, refCheckA, refLetterA]
            first | exact ⟨rfl, rfl⟩ | rfl
          · exact Runs.block (id := 0) g1
        apply Runs.of 5
        simp [run_seq, run_cond, run_block, run_region, run_skip, run_exit, run_rett, ans, killAll, V.kills, opsRun, opRun, wantedB, aop, ev, ofVal, mk, mk3, mkS, putS, binB, builtinB, indexB, Try.underlying5, Try.underlying3, Try.underlying9, told9_16, told9_21, call16, call21, refCheckA, refLetterA, h3]
        first | exact ⟨rfl, rfl⟩ | rfl
      · rfl
    obtain ⟨s2, k1, k2⟩ := key
    refine Runs.call_pure (args := [.str s]) (fn := Try.f9) (c := Try.f9.body.getD .skip) (v := .int .i64 (refLetters1 s)) rfl Try.func9 rfl (by rw [Try.ntmps9]; simp) rfl k1 (.inr rfl) ?_ ?_ ?_
    · rw [Try.results9]
      simp [resB, k2]
    · simp [V.under]
    · simp [V.freeze]
  · simp at h
end Go.Abs

/- wellspringref02.Small. -/
namespace Go.Abs
open Go Go.Proofs

noncomputable def body24 : Code := (loops (Try.f24.body.getD .skip)).headD .skip

structure Inv24 (F n i : Nat) (bs : List Int) (s : List V) : Prop where
  len : s.length = 35
  l3 : s[3]? = some (.list (.own F 0) 0 1 (bs.map (V.int .u8)))
  i4 : s[4]? = some (.int .i64 i)

section
variable {n i F lo flo : Nat} {h : List Box} {fs : List Fam} {ks : List Nat} {s : List V} {bs : List Int} {b : Int}

theorem round24 (hlt : i < n) (hl : bs.length = n) (hx : bs[i]? = some b) (hf : fs[F]? = some ⟨0, n, 1⟩) (hfl : flo ≤ F) (hw : n ≤ 1048576) (I : Inv24 F n i bs s) :
   ∃ s' h' ks', run C31 Try.prog 20 (.code body24 s ⟨h, fs, lo, flo, ks⟩) = some (.out .normal s' ⟨h', fs, lo, flo, ks'⟩) ∧ Inv24 F n (i + 1) (bs.set i (small1 b)) s' := by
  obtain ⟨h0, h3, h4⟩ := I
  obtain ⟨J, rfl⟩ : ∃ J : Nat → V, s = [J 0, J 1, J 2, J 3, J 4, J 5, J 6, J 7, J 8, J 9, J 10, J 11, J 12, J 13, J 14, J 15, J 16, J 17, J 18, J 19, J 20, J 21, J 22, J 23, J 24, J 25, J 26, J 27, J 28, J 29, J 30, J 31, J 32, J 33, J 34] := ⟨fun i => s.getD i .any, lits s 35 h0⟩
  simp only [List.getElem?_cons_succ, List.getElem?_cons_zero, Option.some.injEq] at h3 h4
  have hwrap : IntKind.wrap .i64 ((i : Int) + 1) = ((i : Int) + 1) := wrap64 (by omega) (by omega)
  have hlt2 : i < bs.length := by omega
  have hg : bs[i] = b := (List.getElem?_eq_some_iff.1 hx).2
  rcases (show (65 ≤ b ∧ b ≤ 90) ∨ (65 ≤ b ∧ ¬ b ≤ 90) ∨ ¬ 65 ≤ b by omega) with hc | hc | hc
  · apply Exists.intro
    apply Exists.intro
    apply Exists.intro
    apply And.intro
    · simp only [body24, loops, Try.f24, Option.getD_some, List.cons_append, List.nil_append, List.append_nil, List.headD_cons]
      simp [run_seq, run_cond, run_block, run_region, run_skip, run_exit, run_rett, killAll, V.kills, opsRun, opRun, wantedB, aop, ev, ofVal, mk, mkS, putS, binB, builtinB, indexAddrB, loadB, partB, agg5, size5, V.cells, storeB, V.flat, V.free, V.frees, V.upds, V.upd, reElem, splice, Try.underlying34, Try.underlying5, Try.underlying3, Try.underlying9, upds_ints, convB, hlt, hl, hlt2, hg, hf, hfl, hwrap, h3, h4, hc]
      exact ⟨rfl, rfl, rfl⟩
    · exact ⟨rfl, by simp [List.map_set, small1, hc], by simp⟩
  · have e : bs.set i (small1 b) = bs := by
      have e1 : small1 b = b := by unfold small1; rw [if_neg (by omega)]
      rw [e1, ← hg]; simp
    rw [e]
    apply Exists.intro
    apply Exists.intro
    apply Exists.intro
    apply And.intro
    · simp only [body24, loops, Try.f24, Option.getD_some, List.cons_append, List.nil_append, List.append_nil, List.headD_cons]
      simp [run_seq, run_cond, run_block, run_region, run_skip, run_exit, run_rett, killAll, V.kills, opsRun, opRun, wantedB, aop, ev, ofVal, mk, mkS, putS, binB, builtinB, indexAddrB, loadB, partB, agg5, size5, V.cells, storeB, V.flat, V.free, V.frees, V.upds, V.upd, reElem, splice, Try.underlying34, Try.underlying5, Try.underlying3, Try.underlying9, upds_ints, convB, hlt, hl, hlt2, hg, hf, hfl, hwrap, h3, h4, hc]
      exact ⟨rfl, rfl, rfl⟩
    · exact ⟨rfl, by simp [h3], by simp⟩
  · have e : bs.set i (small1 b) = bs := by
      have e1 : small1 b = b := by unfold small1; rw [if_neg (by omega)]
      rw [e1, ← hg]; simp
    rw [e]
    apply Exists.intro
    apply Exists.intro
    apply Exists.intro
    apply And.intro
    · simp only [body24, loops, Try.f24, Option.getD_some, List.cons_append, List.nil_append, List.append_nil, List.headD_cons]
      simp [run_seq, run_cond, run_block, run_region, run_skip, run_exit, run_rett, killAll, V.kills, opsRun, opRun, wantedB, aop, ev, ofVal, mk, mkS, putS, binB, builtinB, indexAddrB, loadB, partB, agg5, size5, V.cells, storeB, V.flat, V.free, V.frees, V.upds, V.upd, reElem, splice, Try.underlying34, Try.underlying5, Try.underlying3, Try.underlying9, upds_ints, convB, hlt, hl, hlt2, hg, hf, hfl, hwrap, h3, h4, hc]
      exact ⟨rfl, rfl, rfl⟩
    · exact ⟨rfl, by simp [h3], by simp⟩

theorem last24 (hl : bs.length = n) (I : Inv24 F n n bs s) (st : St) : ∃ s', run C31 Try.prog 20 (.code body24 s st) = some (.out (.exit 0) s' st) ∧ Inv24 F n n bs s' := by
  obtain ⟨h0, h3, h4⟩ := I
  obtain ⟨J, rfl⟩ : ∃ J : Nat → V, s = [J 0, J 1, J 2, J 3, J 4, J 5, J 6, J 7, J 8, J 9, J 10, J 11, J 12, J 13, J 14, J 15, J 16, J 17, J 18, J 19, J 20, J 21, J 22, J 23, J 24, J 25, J 26, J 27, J 28, J 29, J 30, J 31, J 32, J 33, J 34] := ⟨fun i => s.getD i .any, lits s 35 h0⟩
  simp only [List.getElem?_cons_succ, List.getElem?_cons_zero, Option.some.injEq] at h3 h4
  apply Exists.intro
  apply And.intro
  · simp only [body24, loops, Try.f24, Option.getD_some, List.cons_append, List.nil_append, List.append_nil, List.headD_cons]
    simp [run_seq, run_cond, run_block, run_region, run_skip, run_exit, run_rett, killAll, V.kills, opsRun, opRun, wantedB, aop, ev, ofVal, mk, mkS, putS, binB, builtinB, indexAddrB, loadB, partB, agg5, size5, V.cells, storeB, V.flat, V.free, V.frees, V.upds, V.upd, reElem, splice, Try.underlying34, Try.underlying5, Try.underlying3, Try.underlying9, upds_ints, convB, h3, h4, hl]
    rfl
  · exact ⟨rfl, by simp [h3], by simp [h4]⟩

theorem loop24 (hf : fs[F]? = some ⟨0, n, 1⟩) (hfl : flo ≤ F) (hw : n ≤ 1048576) : ∀ (m i : Nat) (h : List Box) (ks : List Nat) (s : List V) (bs : List Int), i + m = n → bs.length = n → Inv24 F n i bs s →
    ∃ s' h' ks', Runs C31 Try.prog (.code (.loop body24) s ⟨h, fs, lo, flo, ks⟩) (.out (.exit 0) s' ⟨h', fs, lo, flo, ks'⟩) ∧ Inv24 F n n (bs.take i ++ (bs.drop i).map small1) s' := by
  intro m
  induction m with
  | zero =>
    intro i h ks s bs hi hl I
    have hin : i = n := by omega
    subst hin
    obtain ⟨s', h1, h2⟩ := last24 hl I ⟨h, fs, lo, flo, ks⟩
    refine ⟨s', h, ks, Runs.loop_out (.of 20 h1) (by simp), ?_⟩
    rw [List.take_of_length_le (by omega), List.drop_eq_nil_of_le (by omega)]
    simpa using h2
  | succ m ih =>
    intro i h ks s bs hi hl I
    have hlt : i < bs.length := by omega
    obtain ⟨s1, h1, ks1, g1, g2⟩ := round24 (h := h) (lo := lo) (ks := ks) (by omega) hl (List.getElem?_eq_getElem hlt) hf hfl hw I
    obtain ⟨s2, h2, ks2, g3, g4⟩ := ih (i + 1) h1 ks1 s1 _ (by omega) (by simp [hl]) g2
    refine ⟨s2, h2, ks2, Runs.loop_next (.of 20 g1) g3, ?_⟩
    have e := set_step small1 bs i bs[i] (List.getElem?_eq_getElem hlt)
    rw [e] at g4
    exact g4
end

theorem refSmall_sound : Sound Try.prog 24 (ans lowA) := by
  refine sound_ans X31 fun args st v h => ?_
  unfold lowA at h
  split at h
  · rename_i s
    split at h
    rotate_left
    · simp at h
    rename_i hlen
    simp only [Option.some.injEq] at h
    subst h
    obtain ⟨s1, h1, ks1, g1, g2⟩ := loop24 (n := s.length) (F := st.fams.length) (lo := st.heap.length) (flo := st.fams.length) (fs := st.fams ++ [⟨0, s.length, 1⟩]) (by simp) (Nat.le_refl _) hlen s.length 0 st.heap []
      ([.str s, .tup [], .str [], .list (.own st.fams.length 0) 0 1 ((s.map fun b => (b.toNat : Int)).map (V.int .u8)), .int .i64 0, .str s, .list (.own st.fams.length 0) 0 1 ((s.map fun b => (b.toNat : Int)).map (V.int .u8))] ++ List.replicate 28 (.tup []))
      (s.map fun b => (b.toNat : Int)) (by omega) (by simp) ⟨rfl, rfl, rfl⟩
    obtain ⟨l0, l3, _⟩ := g2
    obtain ⟨J, rfl⟩ : ∃ J : Nat → V, s1 = [J 0, J 1, J 2, J 3, J 4, J 5, J 6, J 7, J 8, J 9, J 10, J 11, J 12, J 13, J 14, J 15, J 16, J 17, J 18, J 19, J 20, J 21, J 22, J 23, J 24, J 25, J 26, J 27, J 28, J 29, J 30, J 31, J 32, J 33, J 34] := ⟨fun i => s1.getD i .any, lits s1 35 l0⟩
    simp only [List.getElem?_cons_succ, List.getElem?_cons_zero, Option.some.injEq, List.take_zero, List.nil_append, List.drop_zero] at l3
    have hl : lows s = (List.map small1 (List.map (fun b : UInt8 => (b.toNat : Int)) s)).map fun n => UInt8.ofNat n.toNat := by simp [lows, List.map_map]
    rw [hl]
    generalize List.map small1 (List.map (fun b : UInt8 => (b.toNat : Int)) s) = bs at l3
    have key : ∃ s2 st2, Runs C31 Try.prog (.code (Try.f24.body.getD .skip) ([.str s] ++ List.replicate 34 (.tup [])) { st with lo := st.heap.length, flo := st.fams.length, kills := [] }) (.out .ret s2 st2) ∧ s2[2]? = some (.str (bs.map fun n => UInt8.ofNat n.toNat)) := by
      simp only [Try.f24, Option.getD_some, List.replicate, List.cons_append, List.nil_append] at g1 ⊢
      apply Exists.intro
      apply Exists.intro
      apply And.intro
      · apply Runs.seq
        · apply Runs.of 3
          simp [run_seq, run_cond, run_block, run_region, run_skip, run_exit, run_rett, killAll, V.kills, opsRun, opRun, wantedB, aop, ev, ofVal, mk, mkS, putS, binB, builtinB, indexAddrB, loadB, partB, agg5, size5, V.cells, storeB, V.flat, V.free, V.frees, V.upds, V.upd, reElem, splice, Try.underlying34, Try.underlying5, Try.underlying3, Try.underlying9, upds_ints, convB]
          first | exact ⟨rfl, rfl⟩ | rfl
        apply Runs.seq
        · apply Runs.of 3
          simp [run_seq, run_cond, run_block, run_region, run_skip, run_exit, run_rett, killAll, V.kills, opsRun, opRun, wantedB, aop, ev, ofVal, mk, mkS, putS, binB, builtinB, indexAddrB, loadB, partB, agg5, size5, V.cells, storeB, V.flat, V.free, V.frees, V.upds, V.upd, reElem, splice, Try.underlying34, Try.underlying5, Try.underlying3, Try.underlying9, upds_ints, convB]
          first | exact ⟨rfl, rfl⟩ | rfl
        apply Runs.seq
        · apply Runs.seq
          · apply Runs.of 3
            simp [run_seq, run_cond, run_block, run_region, run_skip, run_exit, run_rett, killAll, V.kills, opsRun, opRun, wantedB, aop, ev, ofVal, mk, mkS, putS, binB, builtinB, indexAddrB, loadB, partB, agg5, size5, V.cells, storeB, V.flat, V.free, V.frees, V.upds, V.upd, reElem, splice, Try.underlying34, Try.underlying5, Try.underlying3, Try.underlying9, upds_ints, convB]
            first | exact ⟨rfl, rfl⟩ | rfl
          · have := Runs.block (id := 0) g1
            simp [List.map_map] at this
            exact this
        apply Runs.of 4
        simp [run_seq, run_cond, run_block, run_region, run_skip, run_exit, run_rett, killAll, V.kills, opsRun, opRun, wantedB, aop, ev, ofVal, mk, mkS, putS, binB, builtinB, indexAddrB, loadB, partB, agg5, size5, V.cells, storeB, V.flat, V.free, V.frees, V.upds, V.upd, reElem, splice, Try.underlying34, Try.underlying5, Try.underlying3, Try.underlying9, upds_ints, convB, l3, byte_mapM]
        first | exact ⟨rfl, rfl⟩ | rfl
      · rfl
    obtain ⟨s2, st2, k1, k2⟩ := key
    refine Runs.call_pure (args := [.str s]) (fn := Try.f24) (c := Try.f24.body.getD .skip) (v := .str (bs.map fun n => UInt8.ofNat n.toNat)) (v' := .str (bs.map fun n => UInt8.ofNat n.toNat)) rfl Try.func24 rfl (by rw [Try.ntmps24]; simp) rfl k1 (.inr rfl) ?_ rfl rfl
    rw [Try.results24]
    simp [resB, k2]
  · simp at h
end Go.Abs

/- wellspringref02.Low, Same; Echoes. -/
namespace Go.Abs
open Go Go.Proofs

theorem call24 : callableB Try.prog 24 = true := by kernel_rfl
abbrev refSmallA := lowA

def refLow1 (s : List UInt8) : List UInt8 := if refCheck1 s then lows s else []
def refLowA : List V → Option V
  | [.str s] => if s.length ≤ 1048576 then some (.str (refLow1 s)) else none
  | _ => none

noncomputable def C18 : Cfg := .of [] ([(16, refCheckA), (24, refSmallA)].map fun p => (p.1, ans p.2))
theorem X18 : ExtOK Try.prog C18 := ext_ans mixed (by
  intro p hp
  simp only [List.mem_cons, List.not_mem_nil, or_false] at hp
  rcases hp with rfl | rfl
  · exact refCheck_sound
  · exact refSmall_sound) []
theorem told18_16 (k : Nat) (args : List V) (st : St) : retOf (run C18 Try.prog (k + 1) (.call 16 args st)) = ans refCheckA args st := told rfl
theorem told18_24 (k : Nat) (args : List V) (st : St) : retOf (run C18 Try.prog (k + 1) (.call 24 args st)) = ans refSmallA args st := told rfl

theorem refLow_sound : Sound Try.prog 18 (ans refLowA) := by
  refine sound_ans X18 fun args st v h => ?_
  unfold refLowA at h
  split at h
  · rename_i s
    split at h
    rotate_left
    · simp at h
    rename_i hlen
    simp only [Option.some.injEq] at h
    subst h
    have key : ∃ s2, Runs C18 Try.prog (.code (Try.f18.body.getD .skip) ([.str s] ++ List.replicate 7 (.tup [])) { st with lo := st.heap.length, flo := st.fams.length, kills := [] }) (.out .ret s2 { st with lo := st.heap.length, flo := st.fams.length, kills := [] }) ∧ resB Try.prog { st with lo := st.heap.length, flo := st.fams.length, kills := [] } s2 Try.f18.results = some (.str (refLow1 s)) := by
      rw [Try.results18]
      simp only [Try.f18, Option.getD_some, List.replicate, List.cons_append, List.nil_append]
      cases hc : refCheck1 s
      all_goals
        apply Exists.intro
        apply And.intro
        · apply Runs.of 12
          simp [run_seq, run_cond, run_block, run_region, run_skip, run_exit, run_rett, ans, killAll, V.kills, opsRun, opRun, wantedB, aop, ev, ofVal, mk, mk3, mkS, putS, binB, builtinB, Try.underlying5, Try.underlying3, Try.underlying9, Try.underlying35, told18_16, told18_24, call16, call24, refCheckA, refSmallA, hc, refLow1, lowA, hlen]
          first | exact ⟨rfl, rfl⟩ | rfl
        · simp [resB, hc, refLow1, lowA]
    obtain ⟨s2, k1, k2⟩ := key
    refine Runs.call_pure (args := [.str s]) (fn := Try.f18) (c := Try.f18.body.getD .skip) rfl Try.func18 rfl (by rw [Try.ntmps18]; simp) rfl k1 (.inr rfl) k2 ?_ ?_
    · simp [V.under, V.unders]
    · simp [V.freeze, V.freezes]
  · simp at h

def refSame1 (a b : List UInt8) : Bool := refCheck1 a && refCheck1 b && (lows a == lows b)
def refSameA : List V → Option V
  | [.str a, .str b] => if a.length ≤ 1048576 ∧ b.length ≤ 1048576 then some (.bool (refSame1 a b)) else none
  | _ => none

noncomputable def C17 : Cfg := .of [] ([(16, refCheckA), (24, refSmallA)].map fun p => (p.1, ans p.2))
theorem X17 : ExtOK Try.prog C17 := ext_ans mixed (by
  intro p hp
  simp only [List.mem_cons, List.not_mem_nil, or_false] at hp
  rcases hp with rfl | rfl
  · exact refCheck_sound
  · exact refSmall_sound) []
theorem told17_16 (k : Nat) (args : List V) (st : St) : retOf (run C17 Try.prog (k + 1) (.call 16 args st)) = ans refCheckA args st := told rfl
theorem told17_24 (k : Nat) (args : List V) (st : St) : retOf (run C17 Try.prog (k + 1) (.call 24 args st)) = ans refSmallA args st := told rfl

theorem refSame_sound : Sound Try.prog 17 (ans refSameA) := by
  refine sound_ans X17 fun args st v h => ?_
  unfold refSameA at h
  split at h
  · rename_i a b
    split at h
    rotate_left
    · simp at h
    rename_i hlen
    simp only [Option.some.injEq] at h
    subst h
    have key : ∃ s2, Runs C17 Try.prog (.code (Try.f17.body.getD .skip) ([.str a, .str b] ++ List.replicate 16 (.tup [])) { st with lo := st.heap.length, flo := st.fams.length, kills := [] }) (.out .ret s2 { st with lo := st.heap.length, flo := st.fams.length, kills := [] }) ∧ resB Try.prog { st with lo := st.heap.length, flo := st.fams.length, kills := [] } s2 Try.f17.results = some (.bool (refSame1 a b)) := by
      rw [Try.results17]
      simp only [Try.f17, Option.getD_some, List.replicate, List.cons_append, List.nil_append]
      cases hc : refCheck1 a <;> cases hd : refCheck1 b
      all_goals
        apply Exists.intro
        apply And.intro
        · apply Runs.of 12
          simp [run_seq, run_cond, run_block, run_region, run_skip, run_exit, run_rett, ans, killAll, V.kills, opsRun, opRun, wantedB, aop, ev, ofVal, mk, mk3, mkS, putS, binB, builtinB, Try.underlying5, Try.underlying3, Try.underlying9, Try.underlying35, told17_16, told17_24, call16, call24, refCheckA, refSmallA, hc, hd, refSame1, lowA, hlen]
          first | exact ⟨rfl, rfl⟩ | rfl
        · simp [resB, hc, hd, refSame1, lowA]
    obtain ⟨s2, k1, k2⟩ := key
    refine Runs.call_pure (args := [.str a, .str b]) (fn := Try.f17) (c := Try.f17.body.getD .skip) rfl Try.func17 rfl (by rw [Try.ntmps17]; simp) rfl k1 (.inr rfl) k2 ?_ ?_
    · simp [V.under, V.unders]
    · simp [V.freeze, V.freezes]
  · simp at h

def echoes1 (a b : List UInt8) : Bool := check1 a && (a == b)
def echoesA : List V → Option V
  | [.str a, .str b] => if a.length ≤ 1048576 ∧ b.length ≤ 1048576 then some (.bool (echoes1 a b)) else none
  | _ => none

noncomputable def C14 : Cfg := .of [] ([(27, checkA)].map fun p => (p.1, ans p.2))
theorem X14 : ExtOK Try.prog C14 := ext_ans mixed (by
  intro p hp
  simp only [List.mem_cons, List.not_mem_nil, or_false] at hp
  rcases hp with rfl
  · exact check_sound) []
theorem told14_27 (k : Nat) (args : List V) (st : St) : retOf (run C14 Try.prog (k + 1) (.call 27 args st)) = ans checkA args st := told rfl

theorem echoes_sound : Sound Try.prog 14 (ans echoesA) := by
  refine sound_ans X14 fun args st v h => ?_
  unfold echoesA at h
  split at h
  · rename_i a b
    split at h
    rotate_left
    · simp at h
    rename_i hlen
    simp only [Option.some.injEq] at h
    subst h
    have key : ∃ s2, Runs C14 Try.prog (.code (Try.f14.body.getD .skip) ([.str a, .str b] ++ List.replicate 10 (.tup [])) { st with lo := st.heap.length, flo := st.fams.length, kills := [] }) (.out .ret s2 { st with lo := st.heap.length, flo := st.fams.length, kills := [] }) ∧ resB Try.prog { st with lo := st.heap.length, flo := st.fams.length, kills := [] } s2 Try.f14.results = some (.bool (echoes1 a b)) := by
      rw [Try.results14]
      simp only [Try.f14, Option.getD_some, List.replicate, List.cons_append, List.nil_append]
      cases hc : check1 a
      all_goals
        apply Exists.intro
        apply And.intro
        · apply Runs.of 12
          simp [run_seq, run_cond, run_block, run_region, run_skip, run_exit, run_rett, ans, killAll, V.kills, opsRun, opRun, wantedB, aop, ev, ofVal, mk, mk3, mkS, putS, binB, builtinB, Try.underlying5, Try.underlying3, Try.underlying9, Try.underlying35, told14_27, call27, checkA, hc, echoes1, hlen]
          first | exact ⟨rfl, rfl⟩ | rfl
        · simp [resB, hc, echoes1]
    obtain ⟨s2, k1, k2⟩ := key
    refine Runs.call_pure (args := [.str a, .str b]) (fn := Try.f14) (c := Try.f14.body.getD .skip) rfl Try.func14 rfl (by rw [Try.ntmps14]; simp) rfl k1 (.inr rfl) k2 ?_ ?_
    · simp [V.under, V.unders]
    · simp [V.freeze, V.freezes]
  · simp at h

def refEchoes1 (a b : List UInt8) : Bool := refCheck1 a && (a == b)
def refEchoesA : List V → Option V
  | [.str a, .str b] => if a.length ≤ 1048576 ∧ b.length ≤ 1048576 then some (.bool (refEchoes1 a b)) else none
  | _ => none

noncomputable def C15 : Cfg := .of [] ([(16, refCheckA)].map fun p => (p.1, ans p.2))
theorem X15 : ExtOK Try.prog C15 := ext_ans mixed (by
  intro p hp
  simp only [List.mem_cons, List.not_mem_nil, or_false] at hp
  rcases hp with rfl
  · exact refCheck_sound) []
theorem told15_16 (k : Nat) (args : List V) (st : St) : retOf (run C15 Try.prog (k + 1) (.call 16 args st)) = ans refCheckA args st := told rfl

theorem refEchoes_sound : Sound Try.prog 15 (ans refEchoesA) := by
  refine sound_ans X15 fun args st v h => ?_
  unfold refEchoesA at h
  split at h
  · rename_i a b
    split at h
    rotate_left
    · simp at h
    rename_i hlen
    simp only [Option.some.injEq] at h
    subst h
    have key : ∃ s2, Runs C15 Try.prog (.code (Try.f15.body.getD .skip) ([.str a, .str b] ++ List.replicate 10 (.tup [])) { st with lo := st.heap.length, flo := st.fams.length, kills := [] }) (.out .ret s2 { st with lo := st.heap.length, flo := st.fams.length, kills := [] }) ∧ resB Try.prog { st with lo := st.heap.length, flo := st.fams.length, kills := [] } s2 Try.f15.results = some (.bool (refEchoes1 a b)) := by
      rw [Try.results15]
      simp only [Try.f15, Option.getD_some, List.replicate, List.cons_append, List.nil_append]
      cases hc : refCheck1 a
      all_goals
        apply Exists.intro
        apply And.intro
        · apply Runs.of 12
          simp [run_seq, run_cond, run_block, run_region, run_skip, run_exit, run_rett, ans, killAll, V.kills, opsRun, opRun, wantedB, aop, ev, ofVal, mk, mk3, mkS, putS, binB, builtinB, Try.underlying5, Try.underlying3, Try.underlying9, Try.underlying35, told15_16, call16, refCheckA, hc, refEchoes1, hlen]
          first | exact ⟨rfl, rfl⟩ | rfl
        · simp [resB, hc, refEchoes1]
    obtain ⟨s2, k1, k2⟩ := key
    refine Runs.call_pure (args := [.str a, .str b]) (fn := Try.f15) (c := Try.f15.body.getD .skip) rfl Try.func15 rfl (by rw [Try.ntmps15]; simp) rfl k1 (.inr rfl) k2 ?_ ?_
    · simp [V.under, V.unders]
    · simp [V.freeze, V.freezes]
  · simp at h

end Go.Abs

/- wellspringref03.Bits. -/
namespace Go.Abs
open Go Go.Proofs

noncomputable def body13 : Code := (loops (Try.f13.body.getD .skip)).headD .skip

/-- one letter's turn -/
def bitStep (p : Int × Nat) (c : Int) : Int × Nat :=
  if refLetter1 c then (if p.2 < 40 ∧ c ≤ 90 then IntKind.wrap .i64 (p.1 + IntKind.wrap .i64 (2 ^ (min p.2 64))) else p.1, p.2 + 1) else p

structure Inv13 (n : List UInt8) (p : Int × Nat) (i : Nat) (s : List V) : Prop where
  len : s.length = 35
  n0 : s[0]? = some (.str n)
  b3 : s[3]? = some (.int .i64 p.1)
  k4 : s[4]? = some (.int .i64 p.2)
  i5 : s[5]? = some (.int .i64 i)

section
variable {n : List UInt8} {i : Nat} {p : Int × Nat} {s : List V} {c : UInt8}

theorem end13 (hn : n.length ≤ i ∨ refCheck1 n = false) (hlen : n.length ≤ 1048576) (I : Inv13 n p i s) (st : St) : ∃ s', run C9 Try.prog 20 (.code body13 s st) = some (.out (.exit 0) s' st) ∧ Inv13 n p i s' := by
  obtain ⟨h0, h1, h3, h4, h5⟩ := I
  obtain ⟨J, rfl⟩ : ∃ J : Nat → V, s = [J 0, J 1, J 2, J 3, J 4, J 5, J 6, J 7, J 8, J 9, J 10, J 11, J 12, J 13, J 14, J 15, J 16, J 17, J 18, J 19, J 20, J 21, J 22, J 23, J 24, J 25, J 26, J 27, J 28, J 29, J 30, J 31, J 32, J 33, J 34] := ⟨fun i => s.getD i .any, lits s 35 h0⟩
  simp only [List.getElem?_cons_succ, List.getElem?_cons_zero, Option.some.injEq] at h1 h3 h4 h5
  by_cases hlt : i < n.length
  · have hn : refCheck1 n = false := by rcases hn with h | h <;> first | exact h | omega
    apply Exists.intro
    apply And.intro
    · simp only [body13, loops, Try.f13, Option.getD_some, List.cons_append, List.nil_append, List.append_nil, List.headD_cons]
      simp [run_seq, run_cond, run_block, run_region, run_skip, run_exit, run_rett, ans, killAll, V.kills, opsRun, opRun, wantedB, aop, ev, ofVal, mk, mk3, mkS, putS, binB, builtinB, indexB, Try.underlying5, Try.underlying3, Try.underlying9, told9_16, told9_21, call16, call21, refCheckA, refLetterA, h1, h3, h4, h5, hlt, hn, hlen]
      first | exact ⟨rfl, rfl⟩ | rfl
    · exact ⟨rfl, by simp [h1], by simp [h3], by simp [h4], by simp [h5]⟩
  · apply Exists.intro
    apply And.intro
    · simp only [body13, loops, Try.f13, Option.getD_some, List.cons_append, List.nil_append, List.append_nil, List.headD_cons]
      simp [run_seq, run_cond, run_block, run_region, run_skip, run_exit, run_rett, ans, killAll, V.kills, opsRun, opRun, wantedB, aop, ev, ofVal, mk, mk3, mkS, putS, binB, builtinB, indexB, Try.underlying5, Try.underlying3, Try.underlying9, told9_16, told9_21, call16, call21, refCheckA, refLetterA, h1, h3, h4, h5, hlt, hlen]
      first | exact ⟨rfl, rfl⟩ | rfl
    · exact ⟨rfl, by simp [h1], by simp [h3], by simp [h4], by simp [h5]⟩

theorem step13 (hi : n[i]? = some c) (hn : refCheck1 n = true) (hlen : n.length ≤ 1048576) (hk : p.2 ≤ i) (I : Inv13 n p i s) (st : St) :
    ∃ s', run C9 Try.prog 20 (.code body13 s st) = some (.out .normal s' st) ∧ Inv13 n (bitStep p c.toNat) (i + 1) s' := by
  obtain ⟨h0, h1, h3, h4, h5⟩ := I
  obtain ⟨J, rfl⟩ : ∃ J : Nat → V, s = [J 0, J 1, J 2, J 3, J 4, J 5, J 6, J 7, J 8, J 9, J 10, J 11, J 12, J 13, J 14, J 15, J 16, J 17, J 18, J 19, J 20, J 21, J 22, J 23, J 24, J 25, J 26, J 27, J 28, J 29, J 30, J 31, J 32, J 33, J 34] := ⟨fun i => s.getD i .any, lits s 35 h0⟩
  simp only [List.getElem?_cons_succ, List.getElem?_cons_zero, Option.some.injEq] at h1 h3 h4 h5
  obtain ⟨q, k⟩ := p
  simp only at h3 h4 hk
  have hlt : i < n.length := (List.getElem?_eq_some_iff.1 hi).1
  have hg : n[i] = c := (List.getElem?_eq_some_iff.1 hi).2
  have w1 : IntKind.wrap .i64 ((i : Int) + 1) = (i : Int) + 1 := wrap64 (by omega) (by omega)
  have w2 : IntKind.wrap .i64 ((k : Int) + 1) = (k : Int) + 1 := wrap64 (by omega) (by omega)
  have hb64 : IntKind.i64.bits = 64 := rfl
  cases hl : refLetter1 c.toNat
  · have e : bitStep (q, k) c.toNat = (q, k) := by simp [bitStep, hl]
    rw [e]
    apply Exists.intro
    apply And.intro
    · simp only [body13, loops, Try.f13, Option.getD_some, List.cons_append, List.nil_append, List.append_nil, List.headD_cons]
      simp [run_seq, run_cond, run_block, run_region, run_skip, run_exit, run_rett, ans, killAll, V.kills, opsRun, opRun, wantedB, aop, ev, ofVal, mk, mk3, mkS, putS, binB, builtinB, indexB, Try.underlying5, Try.underlying3, Try.underlying9, told9_16, told9_21, call16, call21, refCheckA, refLetterA, h1, h3, h4, h5, hlt, hg, hn, hlen, hl, w1, w2]
      first | exact ⟨rfl, rfl⟩ | rfl
    · exact ⟨rfl, by simp [h1], by simp [h3], by simp [h4], by simp⟩
  · rcases (show ((k : Int) < 40 ∧ (c.toNat : Int) ≤ 90) ∨ ((k : Int) < 40 ∧ ¬ (c.toNat : Int) ≤ 90) ∨ (¬ (k : Int) < 40) by omega) with ⟨hA, hB⟩ | ⟨hA, hB⟩ | hA
    · have e : bitStep (q, k) c.toNat = (IntKind.wrap .i64 (q + IntKind.wrap .i64 (2 ^ (min k 64))), k + 1) := by
        simp only [bitStep, hl, if_true]; rw [if_pos ⟨by omega, hB⟩]
      rw [e]
      apply Exists.intro
      apply And.intro
      · simp only [body13, loops, Try.f13, Option.getD_some, List.cons_append, List.nil_append, List.append_nil, List.headD_cons]
        simp [run_seq, run_cond, run_block, run_region, run_skip, run_exit, run_rett, ans, killAll, V.kills, opsRun, opRun, wantedB, aop, ev, ofVal, mk, mk3, mkS, putS, binB, builtinB, indexB, Try.underlying5, Try.underlying3, Try.underlying9, told9_16, told9_21, call16, call21, refCheckA, refLetterA, h1, h3, h4, h5, hlt, hg, hn, hlen, hl, w1, w2, hA, hB, hb64]
        first | exact ⟨rfl, rfl⟩ | rfl
      · exact ⟨rfl, by simp [h1], by simp, by simp, by simp⟩
    · have e : bitStep (q, k) c.toNat = (q, k + 1) := by
        simp only [bitStep, hl, if_true]; rw [if_neg (by omega)]
      rw [e]
      apply Exists.intro
      apply And.intro
      · simp only [body13, loops, Try.f13, Option.getD_some, List.cons_append, List.nil_append, List.append_nil, List.headD_cons]
        simp [run_seq, run_cond, run_block, run_region, run_skip, run_exit, run_rett, ans, killAll, V.kills, opsRun, opRun, wantedB, aop, ev, ofVal, mk, mk3, mkS, putS, binB, builtinB, indexB, Try.underlying5, Try.underlying3, Try.underlying9, told9_16, told9_21, call16, call21, refCheckA, refLetterA, h1, h3, h4, h5, hlt, hg, hn, hlen, hl, w1, w2, hA, hB]
        first | exact ⟨rfl, rfl⟩ | rfl
      · exact ⟨rfl, by simp [h1], by simp [h3], by simp, by simp⟩
    · have e : bitStep (q, k) c.toNat = (q, k + 1) := by
        simp only [bitStep, hl, if_true]; rw [if_neg (by omega)]
      rw [e]
      apply Exists.intro
      apply And.intro
      · simp only [body13, loops, Try.f13, Option.getD_some, List.cons_append, List.nil_append, List.append_nil, List.headD_cons]
        simp [run_seq, run_cond, run_block, run_region, run_skip, run_exit, run_rett, ans, killAll, V.kills, opsRun, opRun, wantedB, aop, ev, ofVal, mk, mk3, mkS, putS, binB, builtinB, indexB, Try.underlying5, Try.underlying3, Try.underlying9, told9_16, told9_21, call16, call21, refCheckA, refLetterA, h1, h3, h4, h5, hlt, hg, hn, hlen, hl, w1, w2, hA]
        first | exact ⟨rfl, rfl⟩ | rfl
      · exact ⟨rfl, by simp [h1], by simp [h3], by simp, by simp⟩

theorem bitStep_k (p : Int × Nat) (c : Int) : (bitStep p c).2 ≤ p.2 + 1 := by
  unfold bitStep; split <;> simp
end

def bitsF (l : List UInt8) (p : Int × Nat) : Int × Nat := l.foldl (fun p c => bitStep p c.toNat) p

theorem loop13 (n : List UInt8) (hlen : n.length ≤ 1048576) (hn : refCheck1 n = true) (st : St) : ∀ (m : Nat) (p : Int × Nat) (i : Nat) (s : List V), i + m = n.length → p.2 ≤ i → Inv13 n p i s →
    ∃ s' i', Runs C9 Try.prog (.code (.loop body13) s st) (.out (.exit 0) s' st) ∧ Inv13 n (bitsF (n.drop i) p) i' s' := by
  intro m
  induction m with
  | zero =>
    intro p i s hi hk I
    obtain ⟨s', g1, g2⟩ := end13 (.inl (by omega)) hlen I st
    refine ⟨s', i, Runs.loop_out (.of 20 g1) (by simp), ?_⟩
    rw [List.drop_eq_nil_of_le (by omega)]
    exact g2
  | succ m ih =>
    intro p i s hi hk I
    have hlt : i < n.length := by omega
    obtain ⟨s1, g1, g2⟩ := step13 (List.getElem?_eq_getElem hlt) hn hlen hk I st
    obtain ⟨s2, i', g3, g4⟩ := ih _ (i + 1) s1 (by omega) (Nat.le_trans (bitStep_k _ _) (by omega)) g2
    refine ⟨s2, i', Runs.loop_next (.of 20 g1) g3, ?_⟩
    rw [List.drop_eq_getElem_cons hlt]
    exact g4

def refBits1 (n : List UInt8) : Int := if refCheck1 n then (bitsF n (0, 0)).1 else 0
def refBitsA : List V → Option V
  | [.str s] => if s.length ≤ 1048576 then some (.int .i64 (refBits1 s)) else none
  | _ => none

theorem refBits_sound : Sound Try.prog 13 (ans refBitsA) := by
  refine sound_ans X9 fun args st v h => ?_
  unfold refBitsA at h
  split at h
  · rename_i s
    split at h
    rotate_left
    · simp at h
    rename_i hlen
    simp only [Option.some.injEq] at h
    subst h
    have hloop : ∀ st : St, ∃ s' p' i', Runs C9 Try.prog (.code (.loop body13) ([.str s, .tup [], .int .i64 0, .int .i64 0, .int .i64 0, .int .i64 0] ++ List.replicate 29 (.tup [])) st) (.out (.exit 0) s' st) ∧ Inv13 s p' i' s' ∧ p'.1 = refBits1 s := by
      intro st
      have I0 : Inv13 s (0, 0) 0 ([.str s, .tup [], .int .i64 0, .int .i64 0, .int .i64 0, .int .i64 0] ++ List.replicate 29 (.tup [])) := ⟨rfl, rfl, rfl, rfl, rfl⟩
      cases hn : refCheck1 s
      · obtain ⟨s', g1, g2⟩ := end13 (.inr hn) hlen I0 st
        exact ⟨s', _, 0, Runs.loop_out (.of 20 g1) (by simp), g2, by simp [refBits1, hn]⟩
      · obtain ⟨s', i', g1, g2⟩ := loop13 s hlen hn st s.length (0, 0) 0 _ (by omega) (by omega) I0
        exact ⟨s', _, i', g1, g2, by simp [refBits1, hn]⟩
    have key : ∃ s2, Runs C9 Try.prog (.code (Try.f13.body.getD .skip) ([.str s] ++ List.replicate 34 (.tup [])) { st with lo := st.heap.length, flo := st.fams.length, kills := [] }) (.out .ret s2 { st with lo := st.heap.length, flo := st.fams.length, kills := [] }) ∧ s2[2]? = some (.int .i64 (refBits1 s)) := by
      obtain ⟨s1, p', i', g1, g2, hp⟩ := hloop { st with lo := st.heap.length, flo := st.fams.length, kills := [] }
      obtain ⟨h0, h1, h3, h4, h5⟩ := g2
      obtain ⟨J, rfl⟩ : ∃ J : Nat → V, s1 = [J 0, J 1, J 2, J 3, J 4, J 5, J 6, J 7, J 8, J 9, J 10, J 11, J 12, J 13, J 14, J 15, J 16, J 17, J 18, J 19, J 20, J 21, J 22, J 23, J 24, J 25, J 26, J 27, J 28, J 29, J 30, J 31, J 32, J 33, J 34] := ⟨fun i => s1.getD i .any, lits s1 35 h0⟩
      simp only [List.getElem?_cons_succ, List.getElem?_cons_zero, Option.some.injEq] at h3
      rw [hp] at h3
      simp only [Try.f13, Option.getD_some, List.replicate, List.cons_append, List.nil_append] at g1 ⊢
      apply Exists.intro
      apply And.intro
      · apply Runs.seq
        · apply Runs.of 5
          simp [run_seq, run_cond, run_block, run_region, run_skip, run_exit, run_rett, ans, killAll, V.kills, opsRun, opRun, wantedB, aop, ev, ofVal, mk, mk3, mkS, putS, binB, builtinB, indexB, Try.underlying5, Try.underlying3, Try.underlying9, told9_16, told9_21, call16, call21, refCheckA, refLetterA]
          first | exact ⟨rfl, rfl⟩ | rfl
        apply Runs.seq
        · apply Runs.of 5
          simp [run_seq, run_cond, run_block, run_region, run_skip, run_exit, run_rett, ans, killAll, V.kills, opsRun, opRun, wantedB, aop, ev, ofVal, mk, mk3, mkS, putS, binB, builtinB, indexB, Try.underlying5, Try.underlying3, Try.underlying9, told9_16, told9_21, call16, call21, refCheckA, refLetterA]
          first | exact ⟨rfl, rfl⟩ | rfl
        apply Runs.seq
        · apply Runs.of 5
          simp [run_seq, run_cond, run_block, run_region, run_skip, run_exit, run_rett, ans, killAll, V.kills, opsRun, opRun, wantedB, aop, ev, ofVal, mk, mk3, mkS, putS, binB, builtinB, indexB, Try.underlying5, Try.underlying3, Try.underlying9, told9_16, told9_21, call16, call21, refCheckA, refLetterA]
          first | exact ⟨rfl, rfl⟩ | rfl
        apply Runs.seq
        · apply Runs.seq
          · apply Runs.of 5
            simp [run_seq, run_cond, run_block, run_region, run_skip, run_exit, run_rett, ans, killAll, V.kills, opsRun, opRun, wantedB, aop, ev, ofVal, mk, mk3, mkS, putS, binB, builtinB, indexB, Try.underlying5, Try.underlying3, Try.underlying9, told9_16, told9_21, call16, call21, refCheckA, refLetterA]
            first | exact ⟨rfl, rfl⟩ | rfl
          · exact Runs.block (id := 0) g1
        apply Runs.of 5
        simp [run_seq, run_cond, run_block, run_region, run_skip, run_exit, run_rett, ans, killAll, V.kills, opsRun, opRun, wantedB, aop, ev, ofVal, mk, mk3, mkS, putS, binB, builtinB, indexB, Try.underlying5, Try.underlying3, Try.underlying9, told9_16, told9_21, call16, call21, refCheckA, refLetterA, h3]
        first | exact ⟨rfl, rfl⟩ | rfl
      · rfl
    obtain ⟨s2, k1, k2⟩ := key
    refine Runs.call_pure (args := [.str s]) (fn := Try.f13) (c := Try.f13.body.getD .skip) (v := .int .i64 (refBits1 s)) rfl Try.func13 rfl (by rw [Try.ntmps13]; simp) rfl k1 (.inr rfl) ?_ ?_ ?_
    · rw [Try.results13]
      simp [resB, k2]
    · simp [V.under]
    · simp [V.freeze]
  · simp at h
end Go.Abs

/- wellspringref03.Mix. -/
namespace Go.Abs
open Go Go.Proofs

noncomputable def C11 : Cfg := .of [] ([(16, refCheckA), (21, refLetterA), (24, lowA)].map fun p => (p.1, ans p.2))
theorem X11 : ExtOK Try.prog C11 := ext_ans mixed (by
  intro p hp
  simp only [List.mem_cons, List.not_mem_nil, or_false] at hp
  rcases hp with rfl | rfl | rfl
  · exact refCheck_sound
  · exact refLetter_sound
  · exact refSmall_sound) []
theorem told11_16 (k : Nat) (args : List V) (st : St) : retOf (run C11 Try.prog (k + 1) (.call 16 args st)) = ans refCheckA args st := told rfl
theorem told11_21 (k : Nat) (args : List V) (st : St) : retOf (run C11 Try.prog (k + 1) (.call 21 args st)) = ans refLetterA args st := told rfl
theorem told11_24 (k : Nat) (args : List V) (st : St) : retOf (run C11 Try.prog (k + 1) (.call 24 args st)) = ans lowA args st := told rfl
noncomputable def body11 : Code := (loops (Try.f11.body.getD .skip)).headD .skip

/-- is the k-th bit set, as the code asks it -/
def bitAt (q : Int) (k : Nat) : Bool := bits .and .i64 (q.fdiv (2 ^ (min ((k : Int).tmod 40).toNat 64))) 1 == 1
def mixB (q : Int) (k : Nat) (b : Int) : Int := if refLetter1 b && bitAt q k then IntKind.wrap .u8 (b - 32) else b
def mixK (k : Nat) (b : Int) : Nat := if refLetter1 b then k + 1 else k

structure Inv11 (F : Nat) (q : Int) (k i : Nat) (bs : List Int) (s : List V) : Prop where
  len : s.length = 51
  q1 : s[1]? = some (.int .i64 q)
  l5 : s[5]? = some (.list (.own F 0) 0 1 (bs.map (V.int .u8)))
  k6 : s[6]? = some (.int .i64 k)
  i7 : s[7]? = some (.int .i64 i)

section
variable {n i k F lo flo : Nat} {q : Int} {h : List Box} {fs : List Fam} {ks : List Nat} {s : List V} {bs : List Int} {b : Int}

theorem round11 (hlt : i < n) (hl : bs.length = n) (hx : bs[i]? = some b) (hf : fs[F]? = some ⟨0, n, 1⟩) (hfl : flo ≤ F) (hw : n ≤ 1048576) (hk : k ≤ i) (I : Inv11 F q k i bs s) :
   ∃ s' h' ks', run C11 Try.prog 20 (.code body11 s ⟨h, fs, lo, flo, ks⟩) = some (.out .normal s' ⟨h', fs, lo, flo, ks'⟩) ∧ Inv11 F q (mixK k b) (i + 1) (bs.set i (mixB q k b)) s' := by
  obtain ⟨h0, h1, h5, h6, h7⟩ := I
  obtain ⟨J, rfl⟩ : ∃ J : Nat → V, s = [J 0, J 1, J 2, J 3, J 4, J 5, J 6, J 7, J 8, J 9, J 10, J 11, J 12, J 13, J 14, J 15, J 16, J 17, J 18, J 19, J 20, J 21, J 22, J 23, J 24, J 25, J 26, J 27, J 28, J 29, J 30, J 31, J 32, J 33, J 34, J 35, J 36, J 37, J 38, J 39, J 40, J 41, J 42, J 43, J 44, J 45, J 46, J 47, J 48, J 49, J 50] := ⟨fun i => s.getD i .any, lits s 51 h0⟩
  simp only [List.getElem?_cons_succ, List.getElem?_cons_zero, Option.some.injEq] at h1 h5 h6 h7
  have w1 : IntKind.wrap .i64 ((i : Int) + 1) = ((i : Int) + 1) := wrap64 (by omega) (by omega)
  have w2 : IntKind.wrap .i64 ((k : Int) + 1) = ((k : Int) + 1) := wrap64 (by omega) (by omega)
  have w3 : IntKind.i64.bits = 64 := rfl
  have hlt2 : i < bs.length := by omega
  have hg : bs[i] = b := (List.getElem?_eq_some_iff.1 hx).2
  have hset : bs.set i b = bs := by rw [← hg]; simp
  cases hr : refLetter1 b
  · have e1 : mixB q k b = b := by simp [mixB, hr]
    have e2 : mixK k b = k := by simp [mixK, hr]
    rw [e1, e2, hset]
    apply Exists.intro
    apply Exists.intro
    apply Exists.intro
    apply And.intro
    · simp only [body11, loops, Try.f11, Option.getD_some, List.cons_append, List.nil_append, List.append_nil, List.headD_cons]
      simp [run_seq, run_cond, run_block, run_region, run_skip, run_exit, run_rett, ans, killAll, V.kills, opsRun, opRun, wantedB, aop, ev, ofVal, mk, mkS, putS, binB, builtinB, indexAddrB, loadB, partB, agg5, size5, V.cells, storeB, V.flat, V.free, V.frees, V.upds, V.upd, reElem, splice, Try.underlying34, Try.underlying5, Try.underlying3, Try.underlying9, upds_ints, convB, told11_21, told11_16, told11_24, call16, call21, call24, refLetterA, refCheckA, lowA, hlt, hl, hlt2, hg, hf, hfl, w1, w2, w3, h1, h5, h6, h7, hr]
      exact ⟨rfl, rfl, rfl⟩
    · exact ⟨rfl, by simp [h1], by simp [List.map_set, h5], by simp [h6], by simp⟩

  · have e2 : mixK k b = k + 1 := by simp [mixK, hr]
    rw [e2]
    have hnn : (0 : Int) ≤ (k : Int).tmod 40 := Int.tmod_nonneg _ (by omega)
    cases hq : bitAt q k
    · have e1 : mixB q k b = b := by simp [mixB, hr, hq]
      rw [e1, hset]
      simp only [bitAt] at hq
      apply Exists.intro
      apply Exists.intro
      apply Exists.intro
      apply And.intro
      · simp only [body11, loops, Try.f11, Option.getD_some, List.cons_append, List.nil_append, List.append_nil, List.headD_cons]
        simp [run_seq, run_cond, run_block, run_region, run_skip, run_exit, run_rett, ans, killAll, V.kills, opsRun, opRun, wantedB, aop, ev, ofVal, mk, mkS, putS, binB, builtinB, indexAddrB, loadB, partB, agg5, size5, V.cells, storeB, V.flat, V.free, V.frees, V.upds, V.upd, reElem, splice, Try.underlying34, Try.underlying5, Try.underlying3, Try.underlying9, upds_ints, convB, told11_21, told11_16, told11_24, call16, call21, call24, refLetterA, refCheckA, lowA, hlt, hl, hlt2, hg, hf, hfl, w1, w2, w3, h1, h5, h6, h7, hr, hq, hnn]
        exact ⟨rfl, rfl, rfl⟩
      · exact ⟨rfl, by simp [h1], by simp [List.map_set, h5], by simp [h6], by simp⟩

    · have e1 : mixB q k b = IntKind.wrap .u8 (b - 32) := by simp [mixB, hr, hq]
      rw [e1]
      simp only [bitAt] at hq
      apply Exists.intro
      apply Exists.intro
      apply Exists.intro
      apply And.intro
      · simp only [body11, loops, Try.f11, Option.getD_some, List.cons_append, List.nil_append, List.append_nil, List.headD_cons]
        simp [run_seq, run_cond, run_block, run_region, run_skip, run_exit, run_rett, ans, killAll, V.kills, opsRun, opRun, wantedB, aop, ev, ofVal, mk, mkS, putS, binB, builtinB, indexAddrB, loadB, partB, agg5, size5, V.cells, storeB, V.flat, V.free, V.frees, V.upds, V.upd, reElem, splice, Try.underlying34, Try.underlying5, Try.underlying3, Try.underlying9, upds_ints, convB, told11_21, told11_16, told11_24, call16, call21, call24, refLetterA, refCheckA, lowA, hlt, hl, hlt2, hg, hf, hfl, w1, w2, w3, h1, h5, h6, h7, hr, hq, hnn]
        exact ⟨rfl, rfl, rfl⟩
      · exact ⟨rfl, by simp [h1], by simp [List.map_set, h5], by simp [h6], by simp⟩

end
end Go.Abs

/- wellspringref03.Mix is what it is. -/
namespace Go.Abs
open Go Go.Proofs

def mixF (q : Int) : Nat → List Int → List Int
  | _, [] => []
  | k, b :: bs => mixB q k b :: mixF q (mixK k b) bs

theorem take_set {α : Type} : ∀ (bs : List α) (i : Nat) (x : α), i < bs.length → (bs.set i x).take (i + 1) = bs.take i ++ [x] ∧ (bs.set i x).drop (i + 1) = bs.drop (i + 1)
  | [], i, x, h => by simp at h
  | b :: bs, 0, x, h => by simp
  | b :: bs, i + 1, x, h => by
    have := take_set bs i x (by simpa using h)
    simp [this.1, this.2]

section
variable {n F lo flo : Nat} {q : Int} {fs : List Fam}

theorem last11 {k : Nat} {bs : List Int} {s : List V} (hl : bs.length = n) (I : Inv11 F q k n bs s) (st : St) : ∃ s', run C11 Try.prog 20 (.code body11 s st) = some (.out (.exit 0) s' st) ∧ Inv11 F q k n bs s' := by
  obtain ⟨h0, h1, h5, h6, h7⟩ := I
  obtain ⟨J, rfl⟩ : ∃ J : Nat → V, s = [J 0, J 1, J 2, J 3, J 4, J 5, J 6, J 7, J 8, J 9, J 10, J 11, J 12, J 13, J 14, J 15, J 16, J 17, J 18, J 19, J 20, J 21, J 22, J 23, J 24, J 25, J 26, J 27, J 28, J 29, J 30, J 31, J 32, J 33, J 34, J 35, J 36, J 37, J 38, J 39, J 40, J 41, J 42, J 43, J 44, J 45, J 46, J 47, J 48, J 49, J 50] := ⟨fun i => s.getD i .any, lits s 51 h0⟩
  simp only [List.getElem?_cons_succ, List.getElem?_cons_zero, Option.some.injEq] at h1 h5 h6 h7
  apply Exists.intro
  apply And.intro
  · simp only [body11, loops, Try.f11, Option.getD_some, List.cons_append, List.nil_append, List.append_nil, List.headD_cons]
    simp [run_seq, run_cond, run_block, run_region, run_skip, run_exit, run_rett, ans, killAll, V.kills, opsRun, opRun, wantedB, aop, ev, ofVal, mk, mkS, putS, binB, builtinB, indexAddrB, loadB, partB, agg5, size5, V.cells, storeB, V.flat, V.free, V.frees, V.upds, V.upd, reElem, splice, Try.underlying34, Try.underlying5, Try.underlying3, Try.underlying9, upds_ints, convB, told11_21, told11_16, told11_24, call16, call21, call24, refLetterA, refCheckA, lowA, h1, h5, h6, h7, hl]
    rfl
  · exact ⟨rfl, by simp [h1], by simp [h5], by simp [h6], by simp [h7]⟩

theorem loop11 (hf : fs[F]? = some ⟨0, n, 1⟩) (hfl : flo ≤ F) (hw : n ≤ 1048576) : ∀ (m k i : Nat) (h : List Box) (ks : List Nat) (s : List V) (bs : List Int), i + m = n → bs.length = n → k ≤ i → Inv11 F q k i bs s →
    ∃ s' h' ks' k', Runs C11 Try.prog (.code (.loop body11) s ⟨h, fs, lo, flo, ks⟩) (.out (.exit 0) s' ⟨h', fs, lo, flo, ks'⟩) ∧ Inv11 F q k' n (bs.take i ++ mixF q k (bs.drop i)) s' := by
  intro m
  induction m with
  | zero =>
    intro k i h ks s bs hi hl hk I
    have hin : i = n := by omega
    subst hin
    obtain ⟨s', h1, h2⟩ := last11 hl I ⟨h, fs, lo, flo, ks⟩
    refine ⟨s', h, ks, k, Runs.loop_out (.of 20 h1) (by simp), ?_⟩
    rw [List.take_of_length_le (by omega), List.drop_eq_nil_of_le (by omega)]
    simpa [mixF] using h2
  | succ m ih =>
    intro k i h ks s bs hi hl hk I
    have hlt : i < bs.length := by omega
    obtain ⟨s1, h1, ks1, g1, g2⟩ := round11 (h := h) (lo := lo) (ks := ks) (by omega) hl (List.getElem?_eq_getElem hlt) hf hfl hw hk I
    obtain ⟨s2, h2, ks2, k2, g3, g4⟩ := ih (mixK k bs[i]) (i + 1) h1 ks1 s1 _ (by omega) (by simp [hl]) (by unfold mixK; split <;> omega) g2
    refine ⟨s2, h2, ks2, k2, Runs.loop_next (.of 20 g1) g3, ?_⟩
    obtain ⟨e1, e2⟩ := take_set bs i (mixB q k bs[i]) hlt
    rw [e1, e2, List.append_assoc] at g4
    rw [List.drop_eq_getElem_cons hlt]
    exact g4
end
end Go.Abs

/- wellspringref03.Mix is sound. -/
namespace Go.Abs
open Go Go.Proofs

def refMix1 (s : List UInt8) (q : Int) : List UInt8 :=
  if refCheck1 s = false ∨ q < 0 ∨ 1099511627776 ≤ q then [] else (mixF q 0 ((lows s).map fun b => (b.toNat : Int))).map fun n => UInt8.ofNat n.toNat
def refMixA : List V → Option V
  | [.str s, .int .i64 q] => if s.length ≤ 1048576 then some (.str (refMix1 s q)) else none
  | _ => none

theorem refMix_sound : Sound Try.prog 11 (ans refMixA) := by
  refine sound_ans X11 fun args st v h => ?_
  unfold refMixA at h
  split at h
  · rename_i s q
    split at h
    rotate_left
    · simp at h
    rename_i hlen
    simp only [Option.some.injEq] at h
    subst h
    have key : ∃ s2 st2, Runs C11 Try.prog (.code (Try.f11.body.getD .skip) ([.str s, .int .i64 q] ++ List.replicate 49 (.tup [])) { st with lo := st.heap.length, flo := st.fams.length, kills := [] }) (.out .ret s2 st2) ∧ s2[4]? = some (.str (refMix1 s q)) := by
      by_cases hbad : refCheck1 s = false ∨ q < 0 ∨ 1099511627776 ≤ q
      · have e : refMix1 s q = [] := by simp only [refMix1, hbad, if_true]
        rw [e]
        simp only [Try.f11, Option.getD_some, List.replicate, List.cons_append, List.nil_append]
        rcases (show (refCheck1 s = false) ∨ (refCheck1 s = true ∧ q < 0) ∨ (refCheck1 s = true ∧ ¬ q < 0 ∧ 1099511627776 ≤ q) by
          cases hc : refCheck1 s <;> simp [hc] at hbad ⊢ <;> omega) with hc | ⟨hc, hq⟩ | ⟨hc, hq, hr⟩
        · apply Exists.intro
          apply Exists.intro
          apply And.intro
          · apply Runs.of 9
            simp [run_seq, run_cond, run_block, run_region, run_skip, run_exit, run_rett, ans, killAll, V.kills, opsRun, opRun, wantedB, aop, ev, ofVal, mk, mkS, putS, binB, builtinB, indexAddrB, loadB, partB, agg5, size5, V.cells, storeB, V.flat, V.free, V.frees, V.upds, V.upd, reElem, splice, Try.underlying34, Try.underlying5, Try.underlying3, Try.underlying9, upds_ints, convB, told11_21, told11_16, told11_24, call16, call21, call24, refLetterA, refCheckA, lowA, hc, hlen]
            first | exact ⟨rfl, rfl⟩ | rfl
          · rfl
        · apply Exists.intro
          apply Exists.intro
          apply And.intro
          · apply Runs.of 9
            simp [run_seq, run_cond, run_block, run_region, run_skip, run_exit, run_rett, ans, killAll, V.kills, opsRun, opRun, wantedB, aop, ev, ofVal, mk, mkS, putS, binB, builtinB, indexAddrB, loadB, partB, agg5, size5, V.cells, storeB, V.flat, V.free, V.frees, V.upds, V.upd, reElem, splice, Try.underlying34, Try.underlying5, Try.underlying3, Try.underlying9, upds_ints, convB, told11_21, told11_16, told11_24, call16, call21, call24, refLetterA, refCheckA, lowA, hc, hq, hlen]
            first | exact ⟨rfl, rfl⟩ | rfl
          · rfl
        · apply Exists.intro
          apply Exists.intro
          apply And.intro
          · apply Runs.of 9
            simp [run_seq, run_cond, run_block, run_region, run_skip, run_exit, run_rett, ans, killAll, V.kills, opsRun, opRun, wantedB, aop, ev, ofVal, mk, mkS, putS, binB, builtinB, indexAddrB, loadB, partB, agg5, size5, V.cells, storeB, V.flat, V.free, V.frees, V.upds, V.upd, reElem, splice, Try.underlying34, Try.underlying5, Try.underlying3, Try.underlying9, upds_ints, convB, told11_21, told11_16, told11_24, call16, call21, call24, refLetterA, refCheckA, lowA, hc, hq, hr, hlen]
            first | exact ⟨rfl, rfl⟩ | rfl
          · rfl
      · have hc : refCheck1 s = true := by cases hc : refCheck1 s <;> simp [hc] at hbad ⊢
        have hq : ¬ q < 0 := by omega
        have hr : ¬ 1099511627776 ≤ q := by omega
        have e : refMix1 s q = (mixF q 0 ((lows s).map fun b => (b.toNat : Int))).map fun n => UInt8.ofNat n.toNat := by simp only [refMix1, hbad, if_false]
        have hll : (lows s).length = s.length := by simp [lows]
        obtain ⟨s1, h1, ks1, k', g1, g2⟩ := loop11 (n := (lows s).length) (q := q) (F := st.fams.length) (lo := st.heap.length) (flo := st.fams.length) (fs := st.fams ++ [⟨0, (lows s).length, 1⟩]) (by simp) (Nat.le_refl _) (by omega) (lows s).length 0 0 st.heap []
          ([.str s, .int .i64 q, .tup [], .tup [], .str [], .list (.own st.fams.length 0) 0 1 (((lows s).map fun b => (b.toNat : Int)).map (V.int .u8)), .int .i64 0, .int .i64 0, .str s, .bool true, .bool false, .bool false, .int .i64 q, .bool false, .bool false, .bool false, .int .i64 q, .bool false, .bool false, .str s, .str (lows s), .list (.own st.fams.length 0) 0 1 (((lows s).map fun b => (b.toNat : Int)).map (V.int .u8))] ++ List.replicate 29 (.tup []))
          ((lows s).map fun b => (b.toNat : Int)) (by omega) (by simp) (by omega) ⟨rfl, rfl, rfl, rfl, rfl⟩
        obtain ⟨l0, _, l5, _, _⟩ := g2
        obtain ⟨J, rfl⟩ : ∃ J : Nat → V, s1 = [J 0, J 1, J 2, J 3, J 4, J 5, J 6, J 7, J 8, J 9, J 10, J 11, J 12, J 13, J 14, J 15, J 16, J 17, J 18, J 19, J 20, J 21, J 22, J 23, J 24, J 25, J 26, J 27, J 28, J 29, J 30, J 31, J 32, J 33, J 34, J 35, J 36, J 37, J 38, J 39, J 40, J 41, J 42, J 43, J 44, J 45, J 46, J 47, J 48, J 49, J 50] := ⟨fun i => s1.getD i .any, lits s1 51 l0⟩
        simp only [List.getElem?_cons_succ, List.getElem?_cons_zero, Option.some.injEq, List.take_zero, List.nil_append, List.drop_zero] at l5
        rw [e]
        generalize mixF q 0 (List.map (fun b : UInt8 => (b.toNat : Int)) (lows s)) = bs at l5
        simp only [Try.f11, Option.getD_some, List.replicate, List.cons_append, List.nil_append] at g1 ⊢
        apply Exists.intro
        apply Exists.intro
        apply And.intro
        · apply Runs.seq
          · apply Runs.of 4
            simp [run_seq, run_cond, run_block, run_region, run_skip, run_exit, run_rett, ans, killAll, V.kills, opsRun, opRun, wantedB, aop, ev, ofVal, mk, mkS, putS, binB, builtinB, indexAddrB, loadB, partB, agg5, size5, V.cells, storeB, V.flat, V.free, V.frees, V.upds, V.upd, reElem, splice, Try.underlying34, Try.underlying5, Try.underlying3, Try.underlying9, upds_ints, convB, told11_21, told11_16, told11_24, call16, call21, call24, refLetterA, refCheckA, lowA]
            first | exact ⟨rfl, rfl⟩ | rfl
          apply Runs.seq
          · apply Runs.of 4
            simp [run_seq, run_cond, run_block, run_region, run_skip, run_exit, run_rett, ans, killAll, V.kills, opsRun, opRun, wantedB, aop, ev, ofVal, mk, mkS, putS, binB, builtinB, indexAddrB, loadB, partB, agg5, size5, V.cells, storeB, V.flat, V.free, V.frees, V.upds, V.upd, reElem, splice, Try.underlying34, Try.underlying5, Try.underlying3, Try.underlying9, upds_ints, convB, told11_21, told11_16, told11_24, call16, call21, call24, refLetterA, refCheckA, lowA, hc, hq, hr, hlen]
            first | exact ⟨rfl, rfl⟩ | rfl
          apply Runs.seq
          · apply Runs.of 4
            simp [run_seq, run_cond, run_block, run_region, run_skip, run_exit, run_rett, ans, killAll, V.kills, opsRun, opRun, wantedB, aop, ev, ofVal, mk, mkS, putS, binB, builtinB, indexAddrB, loadB, partB, agg5, size5, V.cells, storeB, V.flat, V.free, V.frees, V.upds, V.upd, reElem, splice, Try.underlying34, Try.underlying5, Try.underlying3, Try.underlying9, upds_ints, convB, told11_21, told11_16, told11_24, call16, call21, call24, refLetterA, refCheckA, lowA, hlen]
            first | exact ⟨rfl, rfl⟩ | rfl
          apply Runs.seq
          · apply Runs.of 4
            simp [run_seq, run_cond, run_block, run_region, run_skip, run_exit, run_rett, ans, killAll, V.kills, opsRun, opRun, wantedB, aop, ev, ofVal, mk, mkS, putS, binB, builtinB, indexAddrB, loadB, partB, agg5, size5, V.cells, storeB, V.flat, V.free, V.frees, V.upds, V.upd, reElem, splice, Try.underlying34, Try.underlying5, Try.underlying3, Try.underlying9, upds_ints, convB, told11_21, told11_16, told11_24, call16, call21, call24, refLetterA, refCheckA, lowA]
            first | exact ⟨rfl, rfl⟩ | rfl
          apply Runs.seq
          · apply Runs.seq
            · apply Runs.of 4
              simp [run_seq, run_cond, run_block, run_region, run_skip, run_exit, run_rett, ans, killAll, V.kills, opsRun, opRun, wantedB, aop, ev, ofVal, mk, mkS, putS, binB, builtinB, indexAddrB, loadB, partB, agg5, size5, V.cells, storeB, V.flat, V.free, V.frees, V.upds, V.upd, reElem, splice, Try.underlying34, Try.underlying5, Try.underlying3, Try.underlying9, upds_ints, convB, told11_21, told11_16, told11_24, call16, call21, call24, refLetterA, refCheckA, lowA]
              first | exact ⟨rfl, rfl⟩ | rfl
            · have := Runs.block (id := 0) g1
              simp [List.map_map] at this
              exact this
          apply Runs.of 4
          simp [run_seq, run_cond, run_block, run_region, run_skip, run_exit, run_rett, ans, killAll, V.kills, opsRun, opRun, wantedB, aop, ev, ofVal, mk, mkS, putS, binB, builtinB, indexAddrB, loadB, partB, agg5, size5, V.cells, storeB, V.flat, V.free, V.frees, V.upds, V.upd, reElem, splice, Try.underlying34, Try.underlying5, Try.underlying3, Try.underlying9, upds_ints, convB, told11_21, told11_16, told11_24, call16, call21, call24, refLetterA, refCheckA, lowA, l5, byte_mapM]
          first | exact ⟨rfl, rfl⟩ | rfl
        · rfl
    obtain ⟨s2, st2, k1, k2⟩ := key
    refine Runs.call_pure (args := [.str s, .int .i64 q]) (fn := Try.f11) (c := Try.f11.body.getD .skip) (v := .str (refMix1 s q)) (v' := .str (refMix1 s q)) rfl Try.func11 rfl (by rw [Try.ntmps11]; simp) rfl k1 (.inr rfl) ?_ rfl rfl
    rw [Try.results11]
    simp [resB, k2]
  · simp at h
end Go.Abs

/- mix.each with any of its closures. -/
namespace Go.Abs
open Go Go.Proofs

theorem size3 : sizeB Try.prog 3 = some 1 := by kernel_rfl
theorem agg3 : isAggB Try.prog 3 = some false := by kernel_rfl
theorem call29 : callableB Try.prog 29 = true := by kernel_rfl
theorem call19 : callableB Try.prog 19 = true := by kernel_rfl
theorem call20 : callableB Try.prog 20 = true := by kernel_rfl
theorem call23 : callableB Try.prog 23 = true := by kernel_rfl
theorem call25 : callableB Try.prog 25 = true := by kernel_rfl

noncomputable def CK : Cfg := .of [19, 20, 23, 25] ([(22, LowA), (26, greatA), (27, checkA), (29, letterA)].map fun p => (p.1, ans p.2))
theorem XK : ExtOK Try.prog CK := ext_ans mixed (by
  intro p hp
  simp only [List.mem_cons, List.not_mem_nil, or_false] at hp
  rcases hp with rfl | rfl | rfl | rfl
  · exact Low_sound
  · exact great_sound
  · exact check_sound
  · exact letter_sound) [19, 20, 23, 25]
theorem toldK_22 (k : Nat) (args : List V) (st : St) : retOf (run CK Try.prog (k + 1) (.call 22 args st)) = ans LowA args st := told rfl
theorem toldK_26 (k : Nat) (args : List V) (st : St) : retOf (run CK Try.prog (k + 1) (.call 26 args st)) = ans greatA args st := told rfl
theorem toldK_27 (k : Nat) (args : List V) (st : St) : retOf (run CK Try.prog (k + 1) (.call 27 args st)) = ans checkA args st := told rfl
theorem toldK_29 (k : Nat) (args : List V) (st : St) : retOf (run CK Try.prog (k + 1) (.call 29 args st)) = ans letterA args st := told rfl
noncomputable def body19 : Code := (loops (Try.f19.body.getD .skip)).headD .skip

structure Inv19 (n : List UInt8) (g : FuncId) (cap : List V) (k i : Nat) (s : List V) : Prop where
  len : s.length = 25
  n0 : s[0]? = some (.str n)
  f1 : s[1]? = some (.func (.func g) [] cap)
  k4 : s[4]? = some (.int .i64 k)
  n10 : s[10]? = some (.int .i64 n.length)
  i11 : s[11]? = some (.int .i64 i)

section
variable {n : List UInt8} {g : FuncId} {cap : List V} {k i : Nat} {s : List V} {c : UInt8} {h h1 : List Box} {fs fs1 : List Fam} {lo flo lo1 flo1 : Nat} {ks ks1 : List Nat}

theorem end19 (I : Inv19 n g cap k n.length s) (st : St) : ∃ s', run CK Try.prog 30 (.code body19 s st) = some (.out (.exit 0) s' st) := by
  obtain ⟨h0, h1, h2, h3, h4, h5⟩ := I
  obtain ⟨J, rfl⟩ : ∃ J : Nat → V, s = [J 0, J 1, J 2, J 3, J 4, J 5, J 6, J 7, J 8, J 9, J 10, J 11, J 12, J 13, J 14, J 15, J 16, J 17, J 18, J 19, J 20, J 21, J 22, J 23, J 24] := ⟨fun i => s.getD i .any, lits s 25 h0⟩
  simp only [List.getElem?_cons_succ, List.getElem?_cons_zero, Option.some.injEq] at h1 h2 h3 h4 h5
  apply Exists.intro
  simp only [body19, loops, Try.f19, Option.getD_some, List.cons_append, List.nil_append, List.append_nil, List.headD_cons]
  simp [run_seq, run_cond, run_block, run_region, run_skip, run_exit, run_rett, ans, kill_all, kills_nil, kill_nil, V.kills, V.kill, opsRun, opRun, wantedB, aop, ev, ofVal, mk, putS, binB, builtinB, indexB, Try.underlying5, Try.underlying3, Try.underlying9, toldK_29, toldK_27, call29, call27, letterA, checkA, h1, h2, h3, h4, h5]
  first | exact ⟨rfl, rfl⟩ | rfl

theorem pass19 (hi : n[i]? = some c) (hlen : n.length ≤ 1048576) (hl : letter1 c.toNat = false) (I : Inv19 n g cap k i s) (st : St) :
    ∃ s', run CK Try.prog 30 (.code body19 s st) = some (.out .normal s' st) ∧ Inv19 n g cap k (i + 1) s' := by
  obtain ⟨h0, h1, h2, h3, h4, h5⟩ := I
  obtain ⟨J, rfl⟩ : ∃ J : Nat → V, s = [J 0, J 1, J 2, J 3, J 4, J 5, J 6, J 7, J 8, J 9, J 10, J 11, J 12, J 13, J 14, J 15, J 16, J 17, J 18, J 19, J 20, J 21, J 22, J 23, J 24] := ⟨fun i => s.getD i .any, lits s 25 h0⟩
  simp only [List.getElem?_cons_succ, List.getElem?_cons_zero, Option.some.injEq] at h1 h2 h3 h4 h5
  have hlt : i < n.length := (List.getElem?_eq_some_iff.1 hi).1
  have hg : n[i] = c := (List.getElem?_eq_some_iff.1 hi).2
  have w1 : IntKind.wrap .i64 ((i : Int) + 1) = (i : Int) + 1 := wrap64 (by omega) (by omega)
  apply Exists.intro
  apply And.intro
  · simp only [body19, loops, Try.f19, Option.getD_some, List.cons_append, List.nil_append, List.append_nil, List.headD_cons]
    simp [run_seq, run_cond, run_block, run_region, run_skip, run_exit, run_rett, ans, kill_all, kills_nil, kill_nil, V.kills, V.kill, opsRun, opRun, wantedB, aop, ev, ofVal, mk, putS, binB, builtinB, indexB, Try.underlying5, Try.underlying3, Try.underlying9, toldK_29, toldK_27, call29, call27, letterA, checkA, h1, h2, h3, h4, h5, hlt, hg, hl, w1]
    first | exact ⟨rfl, rfl⟩ | rfl
  · exact ⟨rfl, by simp [h1], by simp [h2], by simp [h3], by simp [h4], by simp⟩

theorem turn19 (hi : n[i]? = some c) (hlen : n.length ≤ 1048576) (hk : k ≤ i) (hl : letter1 c.toNat = true) (hgc : callableB Try.prog g = true) (hcap : ∀ ks, V.kills ks cap = cap)
    (hc : ∀ fuel, retOf (run CK Try.prog (fuel + 8) (.call g (.int .i64 k :: .int .i64 i :: cap) ⟨h, fs, lo, flo, []⟩)) = some (.tup [], ⟨h1, fs1, lo1, flo1, ks1⟩)) (I : Inv19 n g cap k i s) :
    ∃ s', run CK Try.prog 30 (.code body19 s ⟨h, fs, lo, flo, ks⟩) = some (.out .normal s' ⟨h1, fs1, lo1, flo1, ks1 ++ ks⟩) ∧ Inv19 n g cap (k + 1) (i + 1) s' := by
  obtain ⟨h0, h1, h2, h3, h4, h5⟩ := I
  obtain ⟨J, rfl⟩ : ∃ J : Nat → V, s = [J 0, J 1, J 2, J 3, J 4, J 5, J 6, J 7, J 8, J 9, J 10, J 11, J 12, J 13, J 14, J 15, J 16, J 17, J 18, J 19, J 20, J 21, J 22, J 23, J 24] := ⟨fun i => s.getD i .any, lits s 25 h0⟩
  simp only [List.getElem?_cons_succ, List.getElem?_cons_zero, Option.some.injEq] at h1 h2 h3 h4 h5
  have hlt : i < n.length := (List.getElem?_eq_some_iff.1 hi).1
  have hg : n[i] = c := (List.getElem?_eq_some_iff.1 hi).2
  have w1 : IntKind.wrap .i64 ((i : Int) + 1) = (i : Int) + 1 := wrap64 (by omega) (by omega)
  have w2 : IntKind.wrap .i64 ((k : Int) + 1) = (k : Int) + 1 := wrap64 (by omega) (by omega)
  apply Exists.intro
  apply And.intro
  · simp only [body19, loops, Try.f19, Option.getD_some, List.cons_append, List.nil_append, List.append_nil, List.headD_cons]
    simp [run_seq, run_cond, run_block, run_region, run_skip, run_exit, run_rett, ans, kill_all, kills_nil, kill_nil, V.kills, V.kill, opsRun, opRun, wantedB, aop, ev, ofVal, mk, putS, binB, builtinB, indexB, Try.underlying5, Try.underlying3, Try.underlying9, toldK_29, toldK_27, call29, call27, letterA, checkA, h1, h2, h3, h4, h5, hlt, hg, hl, w1, w2, hgc, hcap, hc]
    first | exact ⟨rfl, rfl⟩ | rfl
  · exact ⟨rfl, by simp, by simp, by simp, by simp, by simp⟩
end
end Go.Abs

/- mix.each, run whole. -/
namespace Go.Abs
open Go Go.Proofs

/-- the calls that mix.each makes, kept to by the closure: G k i st holds ahead of place i, when k letters have been -/
structure Kept (n : List UInt8) (g : FuncId) (cap : List V) (G : Nat → Nat → St → Prop) : Prop where
  callable : callableB Try.prog g = true
  still : ∀ ks, V.kills ks cap = cap
  pass : ∀ k i c st, n[i]? = some c → letter1 c.toNat = false → G k i st → G k (i + 1) st
  turn : ∀ k i c st, n[i]? = some c → letter1 c.toNat = true → k ≤ i → G k i st →
    ∃ st1, (∀ fuel, retOf (run CK Try.prog (fuel + 8) (.call g (.int .i64 k :: .int .i64 i :: cap) { st with kills := [] })) = some (.tup [], st1)) ∧ G (k + 1) (i + 1) { st1 with kills := st1.kills ++ st.kills }

section
variable {n : List UInt8} {g : FuncId} {cap : List V} {G : Nat → Nat → St → Prop}

theorem loop19 (hlen : n.length ≤ 1048576) (H : Kept n g cap G) : ∀ (m k i : Nat) (s : List V) (st : St), i + m = n.length → k ≤ i → Inv19 n g cap k i s → G k i st →
    ∃ s' st' k', Runs CK Try.prog (.code (.loop body19) s st) (.out (.exit 0) s' st') ∧ G k' n.length st' := by
  intro m
  induction m with
  | zero =>
    intro k i s st hi hk I hG
    have e : i = n.length := by omega
    subst e
    obtain ⟨s', h1⟩ := end19 I st
    exact ⟨s', st, k, Runs.loop_out (.of 30 h1) (by simp), hG⟩
  | succ m ih =>
    intro k i s st hi hk I hG
    have hlt : i < n.length := by omega
    have hx := List.getElem?_eq_getElem hlt
    cases hl : letter1 n[i].toNat
    · obtain ⟨s1, g1, g2⟩ := pass19 hx hlen hl I st
      obtain ⟨s2, st2, k2, g3, g4⟩ := ih k (i + 1) s1 st (by omega) (by omega) g2 (H.pass _ _ _ _ hx hl hG)
      exact ⟨s2, st2, k2, Runs.loop_next (.of 30 g1) g3, g4⟩
    · obtain ⟨st1, hc, hG1⟩ := H.turn k i _ st hx hl hk hG
      obtain ⟨s1, g1, g2⟩ := turn19 (h := st.heap) (fs := st.fams) (lo := st.lo) (flo := st.flo) (ks := st.kills) (h1 := st1.heap) (fs1 := st1.fams) (lo1 := st1.lo) (flo1 := st1.flo) (ks1 := st1.kills) hx hlen hk hl H.callable H.still hc I
      obtain ⟨s2, st2, k2, g3, g4⟩ := ih (k + 1) (i + 1) s1 _ (by omega) (by omega) g2 hG1
      exact ⟨s2, st2, k2, Runs.loop_next (.of 30 g1) g3, g4⟩

theorem each19_bad (hlen : n.length ≤ 1048576) (st : St) (hc : check1 n = false) : Runs CK Try.prog (.call 19 [.str n, .func (.func g) [] cap] st) (.ret (.tup []) st) := by
  have key : ∃ s2, Runs CK Try.prog (.code (Try.f19.body.getD .skip) ([.str n, .func (.func g) [] cap] ++ List.replicate 23 (.tup [])) st) (.out .ret s2 st) := by
    simp only [Try.f19, Option.getD_some, List.replicate, List.cons_append, List.nil_append]
    apply Exists.intro
    apply Runs.of 9
    simp [run_seq, run_cond, run_block, run_region, run_skip, run_exit, run_rett, ans, kill_all, kills_nil, kill_nil, V.kills, V.kill, opsRun, opRun, wantedB, aop, ev, ofVal, mk, putS, binB, builtinB, indexB, Try.underlying5, Try.underlying3, Try.underlying9, toldK_29, toldK_27, call29, call27, letterA, checkA, hc, hlen]
    first | exact ⟨rfl, rfl⟩ | rfl
  obtain ⟨s2, k1⟩ := key
  exact Runs.call_keep (fn := Try.f19) (c := Try.f19.body.getD .skip) rfl Try.func19 rfl (by rw [Try.ntmps19]; simp) rfl k1 (.inr rfl) (by rw [Try.results19]; rfl)

theorem each19 (hlen : n.length ≤ 1048576) (H : Kept n g cap G) (st : St) (hG : G 0 0 st) :
    ∃ st', Runs CK Try.prog (.call 19 [.str n, .func (.func g) [] cap] st) (.ret (.tup []) st') ∧ ((check1 n = false ∧ st' = st) ∨ (check1 n = true ∧ ∃ k, G k n.length st')) := by
  cases hc : check1 n
  · exact ⟨st, each19_bad hlen st hc, .inl ⟨rfl, rfl⟩⟩
  · obtain ⟨s1, st1, k', g1, g2⟩ := loop19 hlen H n.length 0 0
      ([.str n, .func (.func g) [] cap, .tup [], .tup [], .int .i64 0, .tup [], .str n, .bool true, .bool false, .str n, .int .i64 n.length, .int .i64 0] ++ List.replicate 13 (.tup [])) st (by omega) (by omega) ⟨rfl, rfl, rfl, rfl, rfl, rfl⟩ hG
    have key : Runs CK Try.prog (.code (Try.f19.body.getD .skip) ([.str n, .func (.func g) [] cap] ++ List.replicate 23 (.tup [])) st) (.out .normal s1 st1) := by
      simp only [Try.f19, Option.getD_some, List.replicate, List.cons_append, List.nil_append] at g1 ⊢
      apply Runs.seq
      · apply Runs.of 9
        simp [run_seq, run_cond, run_block, run_region, run_skip, run_exit, run_rett, ans, kill_all, kills_nil, kill_nil, V.kills, V.kill, opsRun, opRun, wantedB, aop, ev, ofVal, mk, putS, binB, builtinB, indexB, Try.underlying5, Try.underlying3, Try.underlying9, toldK_29, toldK_27, call29, call27, letterA, checkA, hc, hlen]
        first | exact ⟨rfl, rfl⟩ | rfl
      apply Runs.seq
      · apply Runs.of 9
        simp [run_seq, run_cond, run_block, run_region, run_skip, run_exit, run_rett, ans, kill_all, kills_nil, kill_nil, V.kills, V.kill, opsRun, opRun, wantedB, aop, ev, ofVal, mk, putS, binB, builtinB, indexB, Try.underlying5, Try.underlying3, Try.underlying9, toldK_29, toldK_27, call29, call27, letterA, checkA]
        first | exact ⟨rfl, rfl⟩ | rfl
      apply Runs.seq
      · apply Runs.of 9
        simp [run_seq, run_cond, run_block, run_region, run_skip, run_exit, run_rett, ans, kill_all, kills_nil, kill_nil, V.kills, V.kill, opsRun, opRun, wantedB, aop, ev, ofVal, mk, putS, binB, builtinB, indexB, Try.underlying5, Try.underlying3, Try.underlying9, toldK_29, toldK_27, call29, call27, letterA, checkA]
        first | exact ⟨rfl, rfl⟩ | rfl
      exact Runs.block (id := 0) g1
    exact ⟨st1, Runs.call_keep (fn := Try.f19) (c := Try.f19.body.getD .skip) rfl Try.func19 rfl (by rw [Try.ntmps19]; simp) rfl key (.inl rfl) (by rw [Try.results19]; rfl), .inr ⟨rfl, k', g2⟩⟩
end
end Go.Abs

/- mix.Letters is sound. -/
namespace Go.Abs
open Go Go.Proofs

theorem zero3 : zeroB Try.prog 3 = some (.int .i64 0) := by kernel_rfl

theorem countF_le (f : Int → Bool) : ∀ (l : List UInt8) (k : Nat), countF f l k ≤ k + l.length
  | [], k => by simp [countF]
  | c :: l, k => by
    have := countF_le f l (if f c.toNat then k + 1 else k)
    simp only [countF, List.foldl_cons, List.length_cons] at this ⊢
    split at this <;> rename_i h <;> simp only [h, if_true, if_false, Bool.false_eq_true] at this ⊢ <;> omega

theorem countF_snoc (f : Int → Bool) (n : List UInt8) (i : Nat) (c : UInt8) (hi : n[i]? = some c) : countF f (n.take (i + 1)) 0 = if f c.toNat then countF f (n.take i) 0 + 1 else countF f (n.take i) 0 := by
  rw [List.take_add_one, hi]
  simp [countF, List.foldl_append]

theorem Runs.fuel {P : Program} {C : Cfg} {f : FuncId} {args : List V} {st st' : St} {v : V} (h : Runs C P (.call f args st) (.ret v st')) :
    ∃ k, ∀ m, retOf (run C P (k + m) (.call f args st)) = some (v, st') := by
  obtain ⟨k, h⟩ := h
  exact ⟨k, fun m => by rw [run_mono (Nat.le_add_right k m) h]; rfl⟩

def GL (h : List Box) (fs : List Fam) (n : List UInt8) (k i : Nat) (st : St) : Prop :=
  k = countF letter1 (n.take i) 0 ∧ st = ⟨h ++ [.cells [.int .i64 k]], fs, h.length, fs.length, []⟩

theorem clos20 (h : List Box) (fs : List Fam) (k i : Nat) (hk : k ≤ 1048576) (fuel : Nat) :
    run CK Try.prog (fuel + 8) (.call 20 [.int .i64 k, .int .i64 i, .ptr h.length 0] ⟨h ++ [.cells [.int .i64 k]], fs, h.length, fs.length, []⟩) =
      some (.ret (.tup []) ⟨h ++ [.cells [.int .i64 (k + 1 : Nat)]], fs, h.length, fs.length, []⟩) := by
  have w1 : IntKind.wrap .i64 ((k : Int) + 1) = (k : Int) + 1 := wrap64 (by omega) (by omega)
  have key : ∃ s1, run CK Try.prog (fuel + 7) (.code (Try.f20.body.getD .skip) ([.int .i64 k, .int .i64 i, .ptr h.length 0] ++ List.replicate (Try.f20.ntmps - 3) (.tup [])) ⟨h ++ [.cells [.int .i64 k]], fs, h.length, fs.length, []⟩) =
      some (.out .normal s1 ⟨h ++ [.cells [.int .i64 (k + 1 : Nat)]], fs, h.length, fs.length, []⟩) := by
    rw [Try.ntmps20]
    simp only [Try.f20, Option.getD_some, List.replicate, List.cons_append, List.nil_append]
    apply Exists.intro
    simp [run_seq, run_cond, run_block, run_region, run_skip, run_exit, run_rett, ans, killAll, V.kills, opsRun, opRun, wantedB, aop, ev, ofVal, mk, mkS, putS, binB, loadB, partB, agg3, size3, V.cells, storeB, V.flat, splice, w1]
    first | exact ⟨rfl, rfl⟩ | rfl
  obtain ⟨s1, key⟩ := key
  exact run_keep (fn := Try.f20) (c := Try.f20.body.getD .skip) rfl Try.func20 rfl (by rw [Try.ntmps20]; simp) rfl key (.inl rfl) (by rw [Try.results20]; rfl)

theorem keptL (h : List Box) (fs : List Fam) (n : List UInt8) (hlen : n.length ≤ 1048576) : Kept n 20 [.ptr h.length 0] (GL h fs n) where
  callable := call20
  still := fun ks => by simp [V.kills, V.kill]
  pass := fun k i c st hi hl ⟨h1, h2⟩ => ⟨by rw [countF_snoc _ _ _ _ hi, hl]; simpa using h1, h2⟩
  turn := fun k i c st hi hl hk ⟨h1, h2⟩ => by
    have hb := countF_le letter1 (n.take i) 0
    have : (n.take i).length ≤ n.length := by simp; omega
    refine ⟨⟨h ++ [.cells [.int .i64 (k + 1 : Nat)]], fs, h.length, fs.length, []⟩, fun fuel => ?_, ?_, ?_⟩
    · subst h2
      have := clos20 h fs k i (by omega) fuel
      simp only
      rw [this]
      rfl
    · rw [countF_snoc _ _ _ _ hi, hl, h1]; simp
    · subst h2; rfl

def letters1 (n : List UInt8) : Nat := if check1 n then countF letter1 n 0 else 0
def lettersA : List V → Option V
  | [.str s] => if s.length ≤ 1048576 then some (.int .i64 (letters1 s)) else none
  | _ => none

theorem letters_sound : Sound Try.prog 8 (ans lettersA) := by
  refine sound_ans XK fun args st v h => ?_
  unfold lettersA at h
  split at h
  rotate_left
  · simp at h
  rename_i s
  split at h
  rotate_left
  · simp at h
  rename_i hlen
  simp only [Option.some.injEq] at h
  subst h
  have key : ∃ s2 st2, Runs CK Try.prog (.code (Try.f8.body.getD .skip) ([.str s] ++ List.replicate 7 (.tup [])) { st with lo := st.heap.length, flo := st.fams.length, kills := [] }) (.out .ret s2 st2) ∧ s2[2]? = some (.int .i64 (letters1 s)) := by
    obtain ⟨st', g1, g2⟩ := each19 (g := 20) (cap := [.ptr st.heap.length 0]) hlen (keptL st.heap st.fams s hlen) ⟨st.heap ++ [.cells [.int .i64 (0 : Nat)]], st.fams, st.heap.length, st.fams.length, []⟩ ⟨by simp [countF], rfl⟩
    have hst : st' = ⟨st.heap ++ [.cells [.int .i64 (letters1 s)]], st.fams, st.heap.length, st.fams.length, []⟩ := by
      rcases g2 with ⟨hc, rfl⟩ | ⟨hc, k, hk, rfl⟩
      · simp [letters1, hc]
      · simp [letters1, hc, hk]
    subst hst
    obtain ⟨k0, g0⟩ := g1.fuel
    simp only [Int.natCast_zero] at g0
    simp only [Try.f8, Option.getD_some, List.replicate, List.cons_append, List.nil_append]
    apply Exists.intro
    apply Exists.intro
    apply And.intro
    · apply Runs.seq
      · apply Runs.of 4
        simp [run_seq, run_cond, run_block, run_region, run_skip, run_exit, run_rett, ans, killAll, V.kills, opsRun, opRun, wantedB, aop, ev, ofVal, mk, mkS, putS]
        first | exact ⟨rfl, rfl⟩ | rfl
      apply Runs.seq
      · apply Runs.of 4
        simp [run_seq, run_cond, run_block, run_region, run_skip, run_exit, run_rett, ans, killAll, V.kills, opsRun, opRun, wantedB, aop, ev, ofVal, mk, mkS, putS, storeB, size3, zero3, V.flat, splice]
        first | exact ⟨rfl, rfl⟩ | rfl
      apply Runs.seq
      · apply Runs.of (k0 + 4)
        simp [run_seq, run_cond, run_block, run_region, run_skip, run_exit, run_rett, ans, killAll, V.kills, opsRun, opRun, wantedB, aop, ev, ofVal, mk, mkS, putS, call19, g0]
        first | exact ⟨rfl, rfl⟩ | rfl
      apply Runs.seq
      · apply Runs.of 4
        simp [run_seq, run_cond, run_block, run_region, run_skip, run_exit, run_rett, ans, killAll, V.kills, opsRun, opRun, wantedB, aop, ev, ofVal, mk, mkS, putS, loadB, partB, agg3, size3, V.cells]
        first | exact ⟨rfl, rfl⟩ | rfl
      exact Runs.rett
    · rfl
  obtain ⟨s2, st2, k1, k2⟩ := key
  refine Runs.call_pure (args := [.str s]) (fn := Try.f8) (c := Try.f8.body.getD .skip) (v := .int .i64 (letters1 s)) (v' := .int .i64 (letters1 s)) rfl Try.func8 rfl (by rw [Try.ntmps8]; simp) rfl k1 (.inr rfl) ?_ rfl rfl
  rw [Try.results8]
  simp [resB, k2]
end Go.Abs

/- mix.Bits is sound. -/
namespace Go.Abs
open Go Go.Proofs

theorem agg9 : isAggB Try.prog 9 = some false := by kernel_rfl
theorem get_0 {α : Type} (h : List α) (a b : α) : (h ++ [a, b])[h.length]? = some a := by simp
theorem get_1 {α : Type} (h : List α) (a b : α) : (h ++ [a, b])[h.length + 1]? = some b := by
  rw [List.getElem?_append_right (by omega)]; simp
theorem set_1 {α : Type} (h : List α) (a b c : α) : (h ++ [a, b]).set (h.length + 1) c = h ++ [a, c] := by
  rw [List.set_append_right _ _ (by omega)]; simp

theorem draw25 : drawB CK Try.prog ((regions (Try.f25.body.getD .skip)).getD 1 #[]) = true := by kernel_rfl

/-- one letter's turn in mix.Bits -/
def pStep (p : Int × Nat) (c : Int) : Int × Nat :=
  if letter1 c then (if p.2 < 40 ∧ great1 c = true then bits .or .i64 p.1 (IntKind.wrap .i64 (2 ^ (min p.2 64))) else p.1, p.2 + 1) else p
def pBits (l : List UInt8) (p : Int × Nat) : Int × Nat := l.foldl (fun p c => pStep p c.toNat) p

theorem pBits_snoc (n : List UInt8) (i : Nat) (c : UInt8) (hi : n[i]? = some c) (p : Int × Nat) : pBits (n.take (i + 1)) p = pStep (pBits (n.take i) p) c.toNat := by
  rw [List.take_add_one, hi]
  simp [pBits, List.foldl_append]

theorem pBits_k : ∀ (l : List UInt8) (p : Int × Nat), (pBits l p).2 = countF letter1 l p.2
  | [], p => rfl
  | c :: l, p => by
    have := pBits_k l (pStep p c.toNat)
    simp only [pBits, countF, List.foldl_cons] at this ⊢
    rw [this]
    congr 1
    unfold pStep
    split <;> rfl

def GB (h : List Box) (fs : List Fam) (n : List UInt8) (k i : Nat) (st : St) : Prop :=
  (pBits (n.take i) (0, 0)).2 = k ∧ st = ⟨h ++ [.cells [.str n], .cells [.int .i64 (pBits (n.take i) (0, 0)).1]], fs, h.length, fs.length, []⟩

theorem clos25 (h : List Box) (fs : List Fam) (n : List UInt8) (b : Int) (k i : Nat) (c : UInt8) (hk : k ≤ 1048576) (hi : n[i]? = some c) (hl : letter1 c.toNat = true) (fuel : Nat) :
    run CK Try.prog (fuel + 8) (.call 25 [.int .i64 k, .int .i64 i, .ptr h.length 0, .ptr (h.length + 1) 0] ⟨h ++ [.cells [.str n], .cells [.int .i64 b]], fs, h.length, fs.length, []⟩) =
      some (.ret (.tup []) ⟨h ++ [.cells [.str n], .cells [.int .i64 (pStep (b, k) c.toNat).1]], fs, h.length, fs.length, []⟩) := by
  have key : ∃ s1, run CK Try.prog (fuel + 7) (.code (Try.f25.body.getD .skip) ([.int .i64 k, .int .i64 i, .ptr h.length 0, .ptr (h.length + 1) 0] ++ List.replicate (Try.f25.ntmps - 4) (.tup [])) ⟨h ++ [.cells [.str n], .cells [.int .i64 b]], fs, h.length, fs.length, []⟩) =
      some (.out .normal s1 ⟨h ++ [.cells [.str n], .cells [.int .i64 (pStep (b, k) c.toNat).1]], fs, h.length, fs.length, []⟩) := by
    have hlt : i < n.length := (List.getElem?_eq_some_iff.1 hi).1
    have hg : n[i] = c := (List.getElem?_eq_some_iff.1 hi).2
    have d := draw25
    simp only [regions, Try.f25, Option.getD_some, List.cons_append, List.nil_append, List.append_nil, List.getD_cons_succ, List.getD_cons_zero] at d
    rw [Try.ntmps25]
    simp only [Try.f25, Option.getD_some, List.replicate, List.cons_append, List.nil_append]
    by_cases h40 : k < 40
    · have h40' : (k : Int) < 40 := by omega
      cases hgr : great1 c.toNat
      · have e : (pStep (b, k) c.toNat).1 = b := by simp [pStep, hl, hgr]
        rw [e]
        apply Exists.intro
        simp [run_regionD d, run_seq, run_cond, run_block, run_region, run_skip, run_exit, run_rett, ans, killAll, V.kills, opsRun, opRun, wantedB, aop, ev, ofVal, mk, mkS, putS, binB, indexB, loadB, partB, agg3, size3, size9, agg9, V.cells, storeB, V.flat, splice, get_0, get_1, set_1, Try.underlying9, toldK_26, call26, greatA, h40', hgr, hlt, hg]
        first | exact ⟨rfl, rfl⟩ | rfl
      · have e : (pStep (b, k) c.toNat).1 = bits .or .i64 b (IntKind.wrap .i64 (2 ^ (min k 64))) := by simp [pStep, hl, hgr, h40]
        rw [e]
        apply Exists.intro
        simp [run_regionD d, run_seq, run_cond, run_block, run_region, run_skip, run_exit, run_rett, ans, killAll, V.kills, opsRun, opRun, wantedB, aop, ev, ofVal, mk, mkS, putS, binB, indexB, loadB, partB, agg3, size3, size9, agg9, V.cells, storeB, V.flat, splice, get_0, get_1, set_1, Try.underlying9, toldK_26, call26, greatA, h40', hgr, hlt, hg]
        first | exact ⟨rfl, rfl⟩ | rfl
    · have h40' : ¬ (k : Int) < 40 := by omega
      have e : (pStep (b, k) c.toNat).1 = b := by simp [pStep, hl, h40]
      rw [e]
      apply Exists.intro
      simp [run_regionD d, run_seq, run_cond, run_block, run_region, run_skip, run_exit, run_rett, ans, killAll, V.kills, opsRun, opRun, wantedB, aop, ev, ofVal, mk, mkS, putS, binB, indexB, loadB, partB, agg3, size3, size9, agg9, V.cells, storeB, V.flat, splice, get_0, get_1, set_1, Try.underlying9, toldK_26, call26, greatA, h40']
      first | exact ⟨rfl, rfl⟩ | rfl
  obtain ⟨s1, key⟩ := key
  exact run_keep (fn := Try.f25) (c := Try.f25.body.getD .skip) rfl Try.func25 rfl (by rw [Try.ntmps25]; simp) rfl key (.inl rfl) (by rw [Try.results25]; rfl)

theorem keptB (h : List Box) (fs : List Fam) (n : List UInt8) (hlen : n.length ≤ 1048576) : Kept n 25 [.ptr h.length 0, .ptr (h.length + 1) 0] (GB h fs n) where
  callable := call25
  still := fun ks => by simp [V.kills, V.kill]
  pass := fun k i c st hi hl ⟨h1, h2⟩ => by
    have e : pBits (n.take (i + 1)) (0, 0) = pBits (n.take i) (0, 0) := by rw [pBits_snoc _ _ _ hi]; simp [pStep, hl]
    exact ⟨by rw [e]; exact h1, by rw [e]; exact h2⟩
  turn := fun k i c st hi hl hk ⟨h1, h2⟩ => by
    have hb := countF_le letter1 (n.take i) 0
    have hb2 := pBits_k (n.take i) (0, 0)
    have : (n.take i).length ≤ n.length := by simp; omega
    have e : pBits (n.take (i + 1)) (0, 0) = pStep ((pBits (n.take i) (0, 0)).1, k) c.toNat := by rw [pBits_snoc _ _ _ hi, ← h1]
    refine ⟨⟨h ++ [.cells [.str n], .cells [.int .i64 (pBits (n.take (i + 1)) (0, 0)).1]], fs, h.length, fs.length, []⟩, fun fuel => ?_, ?_, ?_⟩
    · subst h2
      have := clos25 h fs n (pBits (n.take i) (0, 0)).1 k i c (by simp only at hb2; omega) hi hl fuel
      simp only
      rw [this, e]
      rfl
    · rw [e]; simp [pStep, hl]
    · subst h2; rfl

def bits1 (n : List UInt8) : Int := if check1 n then (pBits n (0, 0)).1 else 0
def bitsA : List V → Option V
  | [.str s] => if s.length ≤ 1048576 then some (.int .i64 (bits1 s)) else none
  | _ => none

theorem bits_sound : Sound Try.prog 12 (ans bitsA) := by
  refine sound_ans XK fun args st v h => ?_
  unfold bitsA at h
  split at h
  rotate_left
  · simp at h
  rename_i s
  split at h
  rotate_left
  · simp at h
  rename_i hlen
  simp only [Option.some.injEq] at h
  subst h
  have key : ∃ s2 st2, Runs CK Try.prog (.code (Try.f12.body.getD .skip) ([.str s] ++ List.replicate 7 (.tup [])) { st with lo := st.heap.length, flo := st.fams.length, kills := [] }) (.out .ret s2 st2) ∧ s2[2]? = some (.int .i64 (bits1 s)) := by
    obtain ⟨st', g1, g2⟩ := each19 (g := 25) (cap := [.ptr st.heap.length 0, .ptr (st.heap.length + 1) 0]) hlen (keptB st.heap st.fams s hlen) ⟨st.heap ++ [.cells [.str s], .cells [.int .i64 0]], st.fams, st.heap.length, st.fams.length, []⟩ ⟨by simp [pBits], by simp [pBits]⟩
    have hst : st' = ⟨st.heap ++ [.cells [.str s], .cells [.int .i64 (bits1 s)]], st.fams, st.heap.length, st.fams.length, []⟩ := by
      rcases g2 with ⟨hc, rfl⟩ | ⟨hc, k, hk, rfl⟩
      · simp [bits1, hc]
      · simp [bits1, hc]
    subst hst
    obtain ⟨k0, g0⟩ := g1.fuel
    simp only [Try.f12, Option.getD_some, List.replicate, List.cons_append, List.nil_append]
    apply Exists.intro
    apply Exists.intro
    apply And.intro
    · apply Runs.seq
      · apply Runs.of 4
        simp [run_seq, run_cond, run_block, run_region, run_skip, run_exit, run_rett, ans, killAll, V.kills, opsRun, opRun, wantedB, aop, ev, ofVal, mk, mkS, putS, V.flat]
        first | exact ⟨rfl, rfl⟩ | rfl
      apply Runs.seq
      · apply Runs.of 4
        simp [run_seq, run_cond, run_block, run_region, run_skip, run_exit, run_rett, ans, killAll, V.kills, opsRun, opRun, wantedB, aop, ev, ofVal, mk, mkS, putS, storeB, size3, zero3, V.flat, splice, get_1, set_1]
        first | exact ⟨rfl, rfl⟩ | rfl
      apply Runs.seq
      · apply Runs.of (k0 + 4)
        simp [run_seq, run_cond, run_block, run_region, run_skip, run_exit, run_rett, ans, killAll, V.kills, opsRun, opRun, wantedB, aop, ev, ofVal, mk, mkS, putS, call19, g0, loadB, partB, agg9, size9, get_0, get_1, V.cells]
        first | exact ⟨rfl, rfl⟩ | rfl
      apply Runs.seq
      · apply Runs.of 4
        simp [run_seq, run_cond, run_block, run_region, run_skip, run_exit, run_rett, ans, killAll, V.kills, opsRun, opRun, wantedB, aop, ev, ofVal, mk, mkS, putS, loadB, partB, agg3, size3, V.cells, get_1]
        first | exact ⟨rfl, rfl⟩ | rfl
      exact Runs.rett
    · rfl
  obtain ⟨s2, st2, k1, k2⟩ := key
  refine Runs.call_pure (args := [.str s]) (fn := Try.f12) (c := Try.f12.body.getD .skip) (v := .int .i64 (bits1 s)) (v' := .int .i64 (bits1 s)) rfl Try.func12 rfl (by rw [Try.ntmps12]; simp) rfl k1 (.inr rfl) ?_ rfl rfl
  rw [Try.results12]
  simp [resB, k2]
end Go.Abs

/- mix.Mix is sound. -/
namespace Go.Abs
open Go Go.Proofs

theorem agg34 : isAggB Try.prog 34 = some false := by kernel_rfl
theorem size34 : sizeB Try.prog 34 = some 1 := by kernel_rfl
theorem zero34 : zeroB Try.prog 34 = some (.list .nil 0 0 []) := by kernel_rfl

def lowN (c : UInt8) : Int := ((UInt8.ofNat (small1 c.toNat).toNat).toNat : Int)

theorem byte_all {p : UInt8 → Bool} (h : ∀ k : Fin 256, p (UInt8.ofNat k.val) = true) (c : UInt8) : p c = true := by
  have := h ⟨c.toNat, c.toNat_lt⟩
  simpa using this

theorem letter_low (c : UInt8) : letter1 c.toNat = refLetter1 (lowN c) := by
  have := byte_all (p := fun c => letter1 c.toNat == refLetter1 (lowN c)) (by decide +kernel) c
  simpa using this

def GM (q : Int) (h : List Box) (fs : List Fam) (n : List UInt8) (k i : Nat) (st : St) : Prop :=
  k = countF letter1 (n.take i) 0 ∧ ∃ (bs : List Int) (h' : List Box) (ks : List Nat), h'.length = h.length ∧ bs.length = n.length ∧ bs.drop i = (n.map lowN).drop i ∧
    bs.take i ++ mixF q k (bs.drop i) = mixF q 0 (n.map lowN) ∧
    st = ⟨h' ++ [.cells [.int .i64 q], .cells [.list (.own fs.length 0) 0 1 (bs.map (V.int .u8))]], fs ++ [⟨0, n.length, 1⟩], h.length, fs.length, ks⟩

theorem upd_len (F ep i : Nat) (e : V) (h : List Box) : (updHeap F ep i e h).length = h.length := by simp [updHeap]
theorem upd_app (F ep i : Nat) (e : V) (h g : List Box) : updHeap F ep i e (h ++ g) = updHeap F ep i e h ++ updHeap F ep i e g := by simp [updHeap]

theorem clos23 (q : Int) (h : List Box) (lo : Nat) (fs : List Fam) (bs : List Int) (n k i : Nat) (b : Int) (hh : h.length = lo) (hk : k ≤ 1048576) (hl : bs.length = n) (hi : bs[i]? = some b) (hr : refLetter1 b = true) (fuel : Nat) :
    ∃ h1 ks, h1.length = h.length ∧ run CK Try.prog (fuel + 8) (.call 23 [.int .i64 k, .int .i64 i, .ptr lo 0, .ptr (lo + 1) 0] ⟨h ++ [.cells [.int .i64 q], .cells [.list (.own fs.length 0) 0 1 (bs.map (V.int .u8))]], fs ++ [⟨0, n, 1⟩], lo, fs.length, []⟩) =
      some (.ret (.tup []) ⟨h1 ++ [.cells [.int .i64 q], .cells [.list (.own fs.length 0) 0 1 ((bs.set i (mixB q k b)).map (V.int .u8))]], fs ++ [⟨0, n, 1⟩], lo, fs.length, ks⟩) := by
  subst hh
  have key : ∃ h1 ks, h1.length = h.length ∧ ∃ s1, run CK Try.prog (fuel + 7) (.code (Try.f23.body.getD .skip) ([.int .i64 k, .int .i64 i, .ptr h.length 0, .ptr (h.length + 1) 0] ++ List.replicate (Try.f23.ntmps - 4) (.tup [])) ⟨h ++ [.cells [.int .i64 q], .cells [.list (.own fs.length 0) 0 1 (bs.map (V.int .u8))]], fs ++ [⟨0, n, 1⟩], h.length, fs.length, []⟩) =
      some (.out .normal s1 ⟨h1 ++ [.cells [.int .i64 q], .cells [.list (.own fs.length 0) 0 1 ((bs.set i (mixB q k b)).map (V.int .u8))]], fs ++ [⟨0, n, 1⟩], h.length, fs.length, ks⟩) := by
    have hlt : i < bs.length := (List.getElem?_eq_some_iff.1 hi).1
    have hg : bs[i] = b := (List.getElem?_eq_some_iff.1 hi).2
    have hset : bs.set i b = bs := by rw [← hg]; simp
    have w3 : IntKind.i64.bits = 64 := rfl
    have hm : 0 ≤ (k : Int).tmod 40 := Int.tmod_nonneg _ (by omega)
    rw [Try.ntmps23]
    simp only [Try.f23, Option.getD_some, List.replicate, List.cons_append, List.nil_append]
    cases hb : bitAt q k
    · have e : mixB q k b = b := by simp [mixB, hr, hb]
      unfold bitAt at hb
      rw [e, hset]
      refine ⟨h, [], rfl, ?_⟩
      apply Exists.intro
      simp [run_seq, run_cond, run_block, run_region, run_skip, run_exit, run_rett, ans, killAll, V.kills, opsRun, opRun, wantedB, aop, ev, ofVal, mk, mkS, putS, binB, indexB, loadB, partB, agg3, size3, V.cells, storeB, V.flat, splice, get_0, get_1, set_1, w3, hm, hb]
      first | exact ⟨rfl, rfl⟩ | rfl
    · have e : mixB q k b = IntKind.wrap .u8 (b - 32) := by simp [mixB, hr, hb]
      unfold bitAt at hb
      rw [e]
      refine ⟨updHeap fs.length 0 i (.int .u8 (IntKind.wrap .u8 (b - 32))) h, [fs.length], upd_len _ _ _ _ _, ?_⟩
      apply Exists.intro
      simp [run_seq, run_cond, run_block, run_region, run_skip, run_exit, run_rett, ans, killAll, V.kills, opsRun, opRun, wantedB, aop, ev, ofVal, mk, mkS, putS, binB, indexB, indexAddrB, loadB, partB, agg3, size3, agg34, size34, agg5, size5, Try.underlying34, V.cells, storeB, V.flat, splice, get_0, get_1, set_1, w3, hm, hb, hlt, hg, V.free, V.frees, V.upds, V.upd, reElem, upds_ints, upd_app]
      simp [updHeap, V.upds, V.upd, upds_ints, List.map_set]
      rfl
  obtain ⟨h1, ks, hh1, s1, key⟩ := key
  exact ⟨h1, ks, hh1, run_keep (fn := Try.f23) (c := Try.f23.body.getD .skip) rfl Try.func23 rfl (by rw [Try.ntmps23]; simp) rfl key (.inl rfl) (by rw [Try.results23]; rfl)⟩

theorem drop_get {α : Type} {a b : List α} {i : Nat} (h : a.drop i = b.drop i) : a[i]? = b[i]? := by
  have h1 : (a.drop i)[0]? = (b.drop i)[0]? := by rw [h]
  simpa using h1
theorem drop_next {α : Type} {a b : List α} {i : Nat} (h : a.drop i = b.drop i) : a.drop (i + 1) = b.drop (i + 1) := by
  have h1 : (a.drop i).drop 1 = (b.drop i).drop 1 := by rw [h]
  simpa [List.drop_drop] using h1

theorem keptM (q : Int) (h : List Box) (fs : List Fam) (n : List UInt8) (hlen : n.length ≤ 1048576) : Kept n 23 [.ptr h.length 0, .ptr (h.length + 1) 0] (GM q h fs n) where
  callable := call23
  still := fun ks => by simp [V.kills, V.kill]
  pass := fun k i c st hi hl ⟨h1, bs, h', ks, g1, g2, g3, g4, g5⟩ => by
    have hx : bs[i]? = some (lowN c) := by rw [drop_get g3]; simp [hi]
    have hlt : i < bs.length := (List.getElem?_eq_some_iff.1 hx).1
    have hg : bs[i] = lowN c := (List.getElem?_eq_some_iff.1 hx).2
    refine ⟨by rw [countF_snoc _ _ _ _ hi, hl]; simpa using h1, bs, h', ks, g1, g2, drop_next g3, ?_, g5⟩
    rw [← g4, List.drop_eq_getElem_cons hlt, List.take_add_one, hx, hg]
    simp [mixF, mixB, mixK, ← letter_low, hl]
  turn := fun k i c st hi hl hk ⟨h1, bs, h', ks, g1, g2, g3, g4, g5⟩ => by
    have hx : bs[i]? = some (lowN c) := by rw [drop_get g3]; simp [hi]
    have hlt : i < bs.length := (List.getElem?_eq_some_iff.1 hx).1
    have hg : bs[i] = lowN c := (List.getElem?_eq_some_iff.1 hx).2
    have hb := countF_le letter1 (n.take i) 0
    have : (n.take i).length ≤ n.length := by simp; omega
    subst g5
    have ex : ∀ fuel, ∃ h1 ks1, h1.length = h'.length ∧ run CK Try.prog (fuel + 8) (.call 23 [.int .i64 k, .int .i64 i, .ptr h.length 0, .ptr (h.length + 1) 0] ⟨h' ++ [.cells [.int .i64 q], .cells [.list (.own fs.length 0) 0 1 (bs.map (V.int .u8))]], fs ++ [⟨0, n.length, 1⟩], h.length, fs.length, []⟩) =
      some (.ret (.tup []) ⟨h1 ++ [.cells [.int .i64 q], .cells [.list (.own fs.length 0) 0 1 ((bs.set i (mixB q k (lowN c))).map (V.int .u8))]], fs ++ [⟨0, n.length, 1⟩], h.length, fs.length, ks1⟩) :=
      fun fuel => clos23 q h' h.length fs bs n.length k i (lowN c) g1 (by omega) g2 hx (by rw [← letter_low]; exact hl) fuel
    obtain ⟨h2, ks2, e1, e2⟩ := ex 0
    refine ⟨⟨h2 ++ [.cells [.int .i64 q], .cells [.list (.own fs.length 0) 0 1 ((bs.set i (mixB q k (lowN c))).map (V.int .u8))]], fs ++ [⟨0, n.length, 1⟩], h.length, fs.length, ks2⟩, fun fuel => ?_, ?_, bs.set i (mixB q k (lowN c)), h2, ks2 ++ ks, by omega, by simp [g2], ?_, ?_, rfl⟩
    · have := run_mono (Nat.le_add_left (0 + 8) fuel) e2
      simp only [Nat.zero_add] at this
      simp only
      rw [this]
      rfl
    · rw [countF_snoc _ _ _ _ hi, hl, h1]; simp
    · rw [(take_set bs i _ hlt).2]; exact drop_next g3
    · obtain ⟨e3, e4⟩ := take_set bs i (mixB q k (lowN c)) hlt
      rw [← g4, e3, e4, List.drop_eq_getElem_cons hlt, hg]
      simp [mixF, mixK, ← letter_low, hl]

def mix1 (s : List UInt8) (q : Int) : List UInt8 :=
  if q < 0 ∨ 1099511627776 ≤ q then [] else if check1 s then (mixF q 0 (s.map lowN)).map fun n => UInt8.ofNat n.toNat else []
def mixA : List V → Option V
  | [.str s, .int .i64 q] => if s.length ≤ 1048576 then some (.str (mix1 s q)) else none
  | _ => none

end Go.Abs

/- mix.Mix is sound. -/
namespace Go.Abs
open Go Go.Proofs

theorem call22 : callableB Try.prog 22 = true := by kernel_rfl

theorem freshB (h : List Box) (fs : List Fam) (s : List UInt8) (q : Int) (hlen : s.length ≤ 1048576) :
    ∃ h' ks, h'.length = h.length ∧ ∃ k0, ∀ m, retOf (run CK Try.prog (k0 + m) (.call 19 [.str s, .func (.func 23) [] [.ptr h.length 0, .ptr (h.length + 1) 0]]
      ⟨h ++ [.cells [.int .i64 q], .cells [.list (.own fs.length 0) 0 1 ((Low1 s).map fun b => V.int .u8 b.toNat)]], fs ++ [⟨0, (Low1 s).length, 1⟩], h.length, fs.length, []⟩)) =
      some (.tup [], ⟨h' ++ [.cells [.int .i64 q], .cells [.list (.own fs.length 0) 0 1 ((if check1 s then mixF q 0 (s.map lowN) else []).map (V.int .u8))]], fs ++ [⟨0, (Low1 s).length, 1⟩], h.length, fs.length, ks⟩) := by
  cases hc : check1 s
  · have hl : Low1 s = [] := by simp [Low1, hc]
    obtain ⟨k0, g0⟩ := (each19_bad (g := 23) (cap := [.ptr h.length 0, .ptr (h.length + 1) 0]) hlen
      ⟨h ++ [.cells [.int .i64 q], .cells [.list (.own fs.length 0) 0 1 ((Low1 s).map fun b => V.int .u8 b.toNat)]], fs ++ [⟨0, (Low1 s).length, 1⟩], h.length, fs.length, []⟩ hc).fuel
    exact ⟨h, [], rfl, k0, fun m => by rw [g0 m, hl]; rfl⟩
  · have hl : Low1 s = lows s := by simp [Low1, hc]
    have e : ((Low1 s).map fun b => V.int .u8 b.toNat) = (s.map lowN).map (V.int .u8) := by
      rw [hl]; simp [lows, lowN, Function.comp_def]
    have e2 : (Low1 s).length = s.length := by rw [hl]; simp [lows]
    obtain ⟨st', g1, g2⟩ := each19 (g := 23) (cap := [.ptr h.length 0, .ptr (h.length + 1) 0]) hlen (keptM q h fs s hlen)
      ⟨h ++ [.cells [.int .i64 q], .cells [.list (.own fs.length 0) 0 1 ((s.map lowN).map (V.int .u8))]], fs ++ [⟨0, s.length, 1⟩], h.length, fs.length, []⟩
      ⟨by simp [countF], s.map lowN, h, [], rfl, by simp, rfl, by simp, rfl⟩
    obtain ⟨k0, g0⟩ := g1.fuel
    rcases g2 with ⟨hc', _⟩ | ⟨_, k, _, bs, h', ks, e3, e4, e5, e6, rfl⟩
    · simp [hc] at hc'
    · rw [e, e2]
      refine ⟨h', ks, e3, k0, fun m => ?_⟩
      rw [g0 m, ← e6, List.take_of_length_le (by omega), List.drop_eq_nil_of_le (by omega)]
      simp [mixF]

theorem mix_sound : Sound Try.prog 10 (ans mixA) := by
  refine sound_ans XK fun args st v h => ?_
  unfold mixA at h
  split at h
  rotate_left
  · simp at h
  rename_i s q
  split at h
  rotate_left
  · simp at h
  rename_i hlen
  simp only [Option.some.injEq] at h
  subst h
  have key : ∃ s2 st2, Runs CK Try.prog (.code (Try.f10.body.getD .skip) ([.str s, .int .i64 q] ++ List.replicate 18 (.tup [])) { st with lo := st.heap.length, flo := st.fams.length, kills := [] }) (.out .ret s2 st2) ∧ s2[4]? = some (.str (mix1 s q)) := by
    simp only [Try.f10, Option.getD_some, List.replicate, List.cons_append, List.nil_append]
    by_cases hbad : q < 0 ∨ 1099511627776 ≤ q
    · have e : mix1 s q = [] := by simp only [mix1, hbad, if_true]
      rw [e]
      by_cases hq : q < 0
      · apply Exists.intro
        apply Exists.intro
        apply And.intro
        · apply Runs.of 12
          simp [run_seq, run_cond, run_block, run_region, run_skip, run_exit, run_rett, ans, killAll, V.kills, opsRun, opRun, wantedB, aop, ev, ofVal, mk, mkS, putS, binB, loadB, partB, agg3, size3, V.cells, V.flat, hq]
          first | exact ⟨rfl, rfl⟩ | rfl
        · rfl
      · have hr : 1099511627776 ≤ q := by omega
        apply Exists.intro
        apply Exists.intro
        apply And.intro
        · apply Runs.of 12
          simp [run_seq, run_cond, run_block, run_region, run_skip, run_exit, run_rett, ans, killAll, V.kills, opsRun, opRun, wantedB, aop, ev, ofVal, mk, mkS, putS, binB, loadB, partB, agg3, size3, V.cells, V.flat, hq, hr]
          first | exact ⟨rfl, rfl⟩ | rfl
        · rfl
    · have hq : ¬ q < 0 := by omega
      have hr : ¬ 1099511627776 ≤ q := by omega
      have e : mix1 s q = (if check1 s then mixF q 0 (s.map lowN) else []).map fun n => UInt8.ofNat n.toNat := by simp only [mix1, hbad, if_false]; split <;> rfl
      rw [e]
      obtain ⟨h', ks, e1, k0, g0⟩ := freshB st.heap st.fams s q hlen
      have get1' : ∀ a b, (h' ++ [a, b])[st.heap.length + 1]? = some b := fun a b => by rw [← e1]; exact get_1 _ _ _
      generalize (if check1 s then mixF q 0 (s.map lowN) else []) = bs at g0
      apply Exists.intro
      apply Exists.intro
      apply And.intro
      · apply Runs.of (k0 + 12)
        simp [run_seq, run_cond, run_block, run_region, run_skip, run_exit, run_rett, ans, kill_all, kills_nil, kill_nil, V.kills, V.kill, opsRun, opRun, wantedB, aop, ev, ofVal, mk, mkS, putS, binB, loadB, partB, agg3, size3, agg34, size34, zero34, V.cells, V.flat, storeB, splice, get_0, get_1, set_1, convB, Try.underlying34, Try.underlying5, Try.underlying9, toldK_22, LowA, call19, call22, get1', hq, hr, hlen, g0, byte_mapM]
        first | exact ⟨rfl, rfl⟩ | rfl
      · rfl
  obtain ⟨s2, st2, k1, k2⟩ := key
  refine Runs.call_pure (args := [.str s, .int .i64 q]) (fn := Try.f10) (c := Try.f10.body.getD .skip) (v := .str (mix1 s q)) (v' := .str (mix1 s q)) rfl Try.func10 rfl (by rw [Try.ntmps10]; simp) rfl k1 (.inr rfl) ?_ rfl rfl
  rw [Try.results10]
  simp [resB, k2]
end Go.Abs

/- The plain laws of names' letters. -/
namespace Go.Abs
open Go Go.Proofs

theorem splitF_refF : ∀ (k : Nat) (l : List (List UInt8)) (n : List UInt8) (i : Nat), n.length - i < k →
    (splitF k l (n.drop i)).2 = (refF k l n i).2 ∧ ((refF k l n i).2 = true → splitF k l (n.drop i) = refF k l n i)
  | 0, l, n, i, h => by omega
  | k + 1, l, n, i, h => by
    by_cases hi : i < n.length
    · rw [List.drop_eq_getElem_cons hi]
      have hx := List.getElem?_eq_getElem hi
      generalize n[i] = c at hx
      have hl : (n.drop (i + 1)).length = n.length - i - 1 := by simp; omega
      unfold splitF refF
      rw [hx]
      simp only
      by_cases h0 : c.toNat = 0
      · have hc : c = 0 := by
          apply UInt8.toNat_inj.1
          simpa using h0
        subst hc
        by_cases hr : n.drop (i + 1) = []
        · have : i = n.length - 1 := by rw [hr] at hl; simp at hl; omega
          rw [hr]
          simp [this.symm]
        · have : i ≠ n.length - 1 := by
            intro e
            apply hr
            apply List.drop_eq_nil_of_le
            omega
          have h3 : ((0 :: n.drop (i + 1)) == [(0 : UInt8)]) = false := by simp [hr]
          simp [h3, this]
      · have h3 : ((c :: n.drop (i + 1)) == [(0 : UInt8)]) = false := by
          have : c ≠ 0 := fun e => h0 (by rw [e]; rfl)
          simp [this]
        simp only [h3, h0, if_false, Bool.false_eq_true, hl]
        by_cases h63 : 63 < c.toNat
        · simp [h63]
        · by_cases hb : n.length - i ≤ c.toNat
          · have : c.toNat < 1 ∨ 63 < c.toNat ∨ n.length - i - 1 ≤ c.toNat := by omega
            simp only [this, hb, or_true, if_true, implies_true, and_self, Bool.false_eq_true, false_implies]
          · by_cases he : n.length - i - 1 ≤ c.toNat
            · have h1 : c.toNat < 1 ∨ 63 < c.toNat ∨ n.length - i - 1 ≤ c.toNat := by omega
              have h2 : ¬ (63 < c.toNat ∨ n.length - i ≤ c.toNat) := by omega
              have h4 : n[i + 1 + c.toNat]? = none := List.getElem?_eq_none (by omega)
              simp only [h1, h2, if_true, if_false]
              cases k with
              | zero => simp [refF]
              | succ k => simp [refF, h4]
            · have h1 : ¬ (c.toNat < 1 ∨ 63 < c.toNat ∨ n.length - i - 1 ≤ c.toNat) := by omega
              have h2 : ¬ (63 < c.toNat ∨ n.length - i ≤ c.toNat) := by omega
              simp only [h1, h2, if_false]
              rw [List.drop_drop, List.drop_take]
              have e1 : i + 1 + c.toNat - (i + 1) = c.toNat := by omega
              rw [e1]
              exact splitF_refF k _ n (i + 1 + c.toNat) (by omega)
    · have h4 : n[i]? = none := List.getElem?_eq_none (by omega)
      rw [List.drop_eq_nil_of_le (by omega)]
      unfold splitF refF
      simp [h4]

theorem check_ref (s : List UInt8) : check1 s = refCheck1 s := by
  unfold check1 refCheck1 split1 ref1
  by_cases h1 : 255 < s.length
  · simp [h1]
  · by_cases h2 : s.length < 1
    · have : s = [] := by cases s <;> simp_all
      subst this
      rfl
    · simp only [h1, h2, or_false, if_false]
      have := (splitF_refF (s.length + 1) [] s 0 (by omega)).1
      simpa using this

theorem letter_ref (c : UInt8) : letter1 c.toNat = refLetter1 c.toNat := by
  have := byte_all (p := fun c => letter1 c.toNat == refLetter1 c.toNat) (by decide +kernel) c
  simpa using this

theorem great_le (c : UInt8) : letter1 c.toNat = true → great1 c.toNat = decide ((c.toNat : Int) ≤ 90) := by
  have := byte_all (p := fun c => !letter1 c.toNat || (great1 c.toNat == decide ((c.toNat : Int) ≤ 90))) (by decide +kernel) c
  intro h
  rw [h] at this
  simpa using this

theorem count_ref : ∀ (l : List UInt8) (k : Nat), countF letter1 l k = countF refLetter1 l k
  | [], k => rfl
  | c :: l, k => by
    have := count_ref l
    simp only [countF, List.foldl_cons] at this ⊢
    rw [letter_ref, this]

theorem letters_ref (s : List UInt8) : letters1 s = refLetters1 s := by
  simp [letters1, refLetters1, check_ref, count_ref]

theorem echoes_ref (a b : List UInt8) : echoes1 a b = refEchoes1 a b := by
  simp [echoes1, refEchoes1, check_ref]

theorem mix_ref (s : List UInt8) (q : Int) : mix1 s q = refMix1 s q := by
  unfold mix1 refMix1
  rw [check_ref]
  have e : ((lows s).map fun b => (b.toNat : Int)) = s.map lowN := by simp [lows, lowN, Function.comp_def]
  rw [e]
  by_cases h : q < 0 ∨ 1099511627776 ≤ q
  · simp [h]
  · cases hc : refCheck1 s
    · simp [h]
    · simp [h]

theorem ofInt_i64 (a : Nat) (ha : a < 18446744073709551616) : (BitVec.ofInt 64 (a : Int)).toNat = a := by
  rw [BitVec.ofInt_natCast, BitVec.toNat_ofNat]; exact Nat.mod_eq_of_lt (by omega)
theorem i64_or_nat (a b : Nat) (ha : a < 9223372036854775808) (hb : b < 9223372036854775808) : bits .or .i64 (a : Int) (b : Int) = ((a ||| b : Nat) : Int) := by
  have hx : a ||| b < 2 ^ 63 := Nat.or_lt_two_pow (by omega) (by omega)
  show IntKind.i64.wrap ((BitVec.ofInt 64 (a : Int) ||| BitVec.ofInt 64 (b : Int)).toNat : Int) = _
  rw [BitVec.toNat_or, ofInt_i64 a (by omega), ofInt_i64 b (by omega)]
  exact wrap64 (by omega) (by omega)
theorem i64_and_nat (a b : Nat) (ha : a < 9223372036854775808) (hb : b < 9223372036854775808) : bits .and .i64 (a : Int) (b : Int) = ((a &&& b : Nat) : Int) := by
  have hx : a &&& b < 2 ^ 63 := Nat.and_lt_two_pow _ (by omega)
  show IntKind.i64.wrap ((BitVec.ofInt 64 (a : Int) &&& BitVec.ofInt 64 (b : Int)).toNat : Int) = _
  rw [BitVec.toNat_and, ofInt_i64 a (by omega), ofInt_i64 b (by omega)]
  exact wrap64 (by omega) (by omega)

/-- the bits of letters, as a number -/
def bitsN : List UInt8 → Nat → Nat
  | [], _ => 0
  | c :: r, k => if letter1 c.toNat then (if k < 40 ∧ great1 c.toNat = true then 2 ^ k else 0) + bitsN r (k + 1) else bitsN r k

theorem pow_le40 {k : Nat} (h : k < 40) : 2 ^ k * 2 ≤ 2 ^ 40 ∧ 1 ≤ 2 ^ k := by
  have : 2 ^ (k + 1) ≤ 2 ^ 40 := Nat.pow_le_pow_right (by omega) (by omega)
  have h2 : 0 < 2 ^ k := Nat.pos_of_ne_zero (by simp)
  rw [Nat.pow_succ] at this
  omega

theorem pBits_N : ∀ (l : List UInt8) (a k : Nat), a < 2 ^ (min k 40) → (pBits l (a, k)).1 = ((a + bitsN l k : Nat) : Int) ∧ (bitsF l (a, k)).1 = ((a + bitsN l k : Nat) : Int)
  | [], a, k, h => by simp [pBits, bitsF, bitsN]
  | c :: l, a, k, h => by
    have hg := great_le c
    have e1 : pBits (c :: l) (a, k) = pBits l (pStep (a, k) c.toNat) := rfl
    have e2 : bitsF (c :: l) (a, k) = bitsF l (bitStep (a, k) c.toNat) := rfl
    rw [e1, e2]
    unfold bitsN pStep bitStep
    rw [← letter_ref]
    cases hl : letter1 c.toNat
    · simpa using pBits_N l a k h
    · replace hg := hg hl
      simp only [if_true]
      by_cases hk : k < 40
      · have hm : min k 40 = k := by omega
        have hm2 : min k 64 = k := by omega
        rw [hm] at h
        obtain ⟨p1, p2⟩ := pow_le40 hk
        have ew : IntKind.wrap .i64 (2 ^ (min k 64)) = ((2 ^ k : Nat) : Int) := by
          have e3 : (2 : Int) ^ k = ((2 ^ k : Nat) : Int) := by simp
          rw [hm2, e3]
          exact wrap64 (by omega) (by omega)
        cases hgr : great1 c.toNat
        · have hgr' : ¬ (c.toNat : Int) ≤ 90 := by rw [hgr] at hg; simpa using hg
          have h' : a < 2 ^ (min (k + 1) 40) := by
            have : min (k + 1) 40 = k + 1 := by omega
            rw [this, Nat.pow_succ]; omega
          simpa [hk, hgr'] using pBits_N l a (k + 1) h'
        · have hgr' : (c.toNat : Int) ≤ 90 := by rw [hgr] at hg; simpa using hg
          have h' : a + 2 ^ k < 2 ^ (min (k + 1) 40) := by
            have : min (k + 1) 40 = k + 1 := by omega
            rw [this, Nat.pow_succ]; omega
          have eo : bits .or .i64 (a : Int) ((2 ^ k : Nat) : Int) = ((a + 2 ^ k : Nat) : Int) := by
            rw [i64_or_nat a (2 ^ k) (by omega) (by omega)]
            congr 1
            have := Nat.two_pow_add_eq_or_of_lt h 1
            rw [Nat.mul_one] at this
            rw [Nat.or_comm, ← this, Nat.add_comm]
          have ea : IntKind.wrap .i64 ((a : Int) + ((2 ^ k : Nat) : Int)) = ((a + 2 ^ k : Nat) : Int) := by
            rw [wrap64 (by omega) (by omega)]; simp
          simp only [hk, hgr', and_self, if_true]
          rw [ew, eo, ea]
          have := pBits_N l (a + 2 ^ k) (k + 1) h'
          rw [← Nat.add_assoc]
          exact this
      · have hm : min k 40 = 40 := by omega
        have hm' : min (k + 1) 40 = 40 := by omega
        rw [hm] at h
        simpa [hk] using pBits_N l a (k + 1) (by rw [hm']; exact h)

theorem bits_N (s : List UInt8) : bits1 s = if check1 s then (bitsN s 0 : Int) else 0 := by
  have := (pBits_N s 0 0 (by decide)).1
  simp only [Nat.zero_add, Int.natCast_zero] at this
  simp [bits1, this]
theorem bits_ref (s : List UInt8) : bits1 s = refBits1 s := by
  have := (pBits_N s 0 0 (by decide))
  simp only [Nat.zero_add, Int.natCast_zero] at this
  simp [bits1, refBits1, check_ref, this.1, this.2]
end Go.Abs

/- wellspringlaw03.live, wellspringlaw03.MixTells. -/
namespace Go.Abs
open Go Go.Proofs

theorem call8 : callableB Try.prog 8 = true := by kernel_rfl
theorem call9 : callableB Try.prog 9 = true := by kernel_rfl
theorem call10 : callableB Try.prog 10 = true := by kernel_rfl
theorem call11 : callableB Try.prog 11 = true := by kernel_rfl
theorem call12 : callableB Try.prog 12 = true := by kernel_rfl
theorem call13 : callableB Try.prog 13 = true := by kernel_rfl
theorem call14 : callableB Try.prog 14 = true := by kernel_rfl
theorem call15 : callableB Try.prog 15 = true := by kernel_rfl
theorem call7 : callableB Try.prog 7 = true := by kernel_rfl

theorem live_1 : letters1 [1, 97, 2, 66, 49, 0] = 2 := by decide +kernel
theorem live_2 : mix1 [1, 97, 2, 66, 49, 0] 0 = [1, 97, 2, 98, 49, 0] := by decide +kernel
theorem live_3 : mix1 [1, 97, 2, 66, 49, 0] 3 = [1, 65, 2, 66, 49, 0] := by decide +kernel
theorem live_4 : bits1 [1, 97, 2, 66, 49, 0] = 2 := by decide +kernel
theorem live_5 : echoes1 [1, 97, 2, 66, 49, 0] [1, 97, 2, 66, 49, 0] = true := by decide +kernel
theorem live_6 : echoes1 [1, 97, 2, 66, 49, 0] [1, 97, 2, 98, 49, 0] = false := by decide +kernel
theorem live_7 : echoes1 [97] [97] = false := by decide +kernel
theorem live_8 : mix1 [1, 97, 2, 66, 49, 0] (-1) = [] := by decide +kernel
theorem live_9 : mix1 [97] 0 = [] := by decide +kernel
theorem live_10 : letters1 [97] = 0 := by decide +kernel


def liveA : List V → Option V
  | [] => some (.bool true)
  | _ => none

noncomputable def C7 : Cfg := .of [] ([(8, lettersA), (10, mixA), (12, bitsA), (14, echoesA)].map fun p => (p.1, ans p.2))
theorem X7 : ExtOK Try.prog C7 := ext_ans mixed (by
  intro p hp
  simp only [List.mem_cons, List.not_mem_nil, or_false] at hp
  rcases hp with rfl | rfl | rfl | rfl
  · exact letters_sound
  · exact mix_sound
  · exact bits_sound
  · exact echoes_sound) []
theorem told7_8 (k : Nat) (args : List V) (st : St) : retOf (run C7 Try.prog (k + 1) (.call 8 args st)) = ans lettersA args st := told rfl
theorem told7_10 (k : Nat) (args : List V) (st : St) : retOf (run C7 Try.prog (k + 1) (.call 10 args st)) = ans mixA args st := told rfl
theorem told7_12 (k : Nat) (args : List V) (st : St) : retOf (run C7 Try.prog (k + 1) (.call 12 args st)) = ans bitsA args st := told rfl
theorem told7_14 (k : Nat) (args : List V) (st : St) : retOf (run C7 Try.prog (k + 1) (.call 14 args st)) = ans echoesA args st := told rfl

theorem live_sound : Sound Try.prog 7 (ans liveA) := by
  refine sound_ans X7 fun args st v h => ?_
  unfold liveA at h
  split at h
  · rename_i heq
    simp only [Option.some.injEq] at h
    subst h
    have key : ∃ s2, Runs C7 Try.prog (.code (Try.f7.body.getD .skip) (([] : List V) ++ List.replicate 47 (.tup [])) { st with lo := st.heap.length, flo := st.fams.length, kills := [] }) (.out .ret s2 { st with lo := st.heap.length, flo := st.fams.length, kills := [] }) ∧ resB Try.prog { st with lo := st.heap.length, flo := st.fams.length, kills := [] } s2 Try.f7.results = some (.bool true) := by
      rw [Try.results7]
      simp only [Try.f7, Option.getD_some, List.replicate, List.cons_append, List.nil_append]
      skip
      all_goals
        apply Exists.intro
        apply And.intro
        · apply Runs.of 12
          simp [run_seq, run_cond, run_block, run_region, run_skip, run_exit, run_rett, ans, killAll, V.kills, opsRun, opRun, wantedB, aop, ev, minStep, maxStep, List.foldl, eqOk, eqB, Try.underlying4, ofVal, mk, mk3, mkS, putS, binB, builtinB, Try.underlying5, Try.underlying3, Try.underlying9, Try.underlying35, told7_8, told7_10, told7_12, told7_14, call8, call10, call12, call14, lettersA, mixA, bitsA, echoesA, live_1, live_2, live_3, live_4, live_5, live_6, live_7, live_8, live_9, live_10]
          first | exact ⟨rfl, rfl⟩ | rfl
        · simp [resB, live_1, live_2, live_3, live_4, live_5, live_6, live_7, live_8, live_9, live_10]
    obtain ⟨s2, k1, k2⟩ := key
    refine Runs.call_pure (args := ([] : List V)) (fn := Try.f7) (c := Try.f7.body.getD .skip) rfl Try.func7 rfl (by rw [Try.ntmps7]; simp) rfl k1 (.inr rfl) k2 ?_ ?_
    · simp [V.under, V.unders]
    · simp [V.freeze, V.freezes]
  · simp at h


def tellsA : List V → Option V
  | [.str s, .int .i64 q, .str t] => some (.bool true)
  | _ => none

noncomputable def C3 : Cfg := .of [] ([(7, liveA), (8, lettersA), (9, refLettersA), (10, mixA), (11, refMixA), (12, bitsA), (13, refBitsA), (14, echoesA), (15, refEchoesA)].map fun p => (p.1, ans p.2))
theorem X3 : ExtOK Try.prog C3 := ext_ans mixed (by
  intro p hp
  simp only [List.mem_cons, List.not_mem_nil, or_false] at hp
  rcases hp with rfl | rfl | rfl | rfl | rfl | rfl | rfl | rfl | rfl
  · exact live_sound
  · exact letters_sound
  · exact refLetters_sound
  · exact mix_sound
  · exact refMix_sound
  · exact bits_sound
  · exact refBits_sound
  · exact echoes_sound
  · exact refEchoes_sound) []
theorem told3_7 (k : Nat) (args : List V) (st : St) : retOf (run C3 Try.prog (k + 1) (.call 7 args st)) = ans liveA args st := told rfl
theorem told3_8 (k : Nat) (args : List V) (st : St) : retOf (run C3 Try.prog (k + 1) (.call 8 args st)) = ans lettersA args st := told rfl
theorem told3_9 (k : Nat) (args : List V) (st : St) : retOf (run C3 Try.prog (k + 1) (.call 9 args st)) = ans refLettersA args st := told rfl
theorem told3_10 (k : Nat) (args : List V) (st : St) : retOf (run C3 Try.prog (k + 1) (.call 10 args st)) = ans mixA args st := told rfl
theorem told3_11 (k : Nat) (args : List V) (st : St) : retOf (run C3 Try.prog (k + 1) (.call 11 args st)) = ans refMixA args st := told rfl
theorem told3_12 (k : Nat) (args : List V) (st : St) : retOf (run C3 Try.prog (k + 1) (.call 12 args st)) = ans bitsA args st := told rfl
theorem told3_13 (k : Nat) (args : List V) (st : St) : retOf (run C3 Try.prog (k + 1) (.call 13 args st)) = ans refBitsA args st := told rfl
theorem told3_14 (k : Nat) (args : List V) (st : St) : retOf (run C3 Try.prog (k + 1) (.call 14 args st)) = ans echoesA args st := told rfl
theorem told3_15 (k : Nat) (args : List V) (st : St) : retOf (run C3 Try.prog (k + 1) (.call 15 args st)) = ans refEchoesA args st := told rfl

theorem tells_sound : Sound Try.prog 3 (ans tellsA) := by
  refine sound_ans X3 fun args st v h => ?_
  unfold tellsA at h
  split at h
  · rename_i s q t
    simp only [Option.some.injEq] at h
    subst h
    have key : ∃ s2, Runs C3 Try.prog (.code (Try.f3.body.getD .skip) ([.str s, .int .i64 q, .str t] ++ List.replicate 46 (.tup [])) { st with lo := st.heap.length, flo := st.fams.length, kills := [] }) (.out .ret s2 { st with lo := st.heap.length, flo := st.fams.length, kills := [] }) ∧ resB Try.prog { st with lo := st.heap.length, flo := st.fams.length, kills := [] } s2 Try.f3.results = some (.bool true) := by
      rw [Try.results3]
      simp only [Try.f3, Option.getD_some, List.replicate, List.cons_append, List.nil_append]
      rcases (show (600 < (s.length : Int)) ∨ (¬ 600 < (s.length : Int) ∧ 600 < (t.length : Int)) ∨ (¬ 600 < (s.length : Int) ∧ ¬ 600 < (t.length : Int) ∧ s.length ≤ 1048576 ∧ t.length ≤ 1048576) by omega) with hc | hc | hc
      all_goals
        apply Exists.intro
        apply And.intro
        · apply Runs.of 12
          simp [run_seq, run_cond, run_block, run_region, run_skip, run_exit, run_rett, ans, killAll, V.kills, opsRun, opRun, wantedB, aop, ev, minStep, maxStep, List.foldl, eqOk, eqB, Try.underlying4, ofVal, mk, mk3, mkS, putS, binB, builtinB, Try.underlying5, Try.underlying3, Try.underlying9, Try.underlying35, told3_7, told3_8, told3_9, told3_10, told3_11, told3_12, told3_13, told3_14, told3_15, call7, call8, call9, call10, call11, call12, call13, call14, call15, liveA, lettersA, refLettersA, mixA, refMixA, bitsA, refBitsA, echoesA, refEchoesA, hc, letters_ref, mix_ref, bits_ref, echoes_ref]
          first | exact ⟨rfl, rfl⟩ | rfl
        · simp [resB, hc, letters_ref, mix_ref, bits_ref, echoes_ref]
    obtain ⟨s2, k1, k2⟩ := key
    refine Runs.call_pure (args := [.str s, .int .i64 q, .str t]) (fn := Try.f3) (c := Try.f3.body.getD .skip) rfl Try.func3 rfl (by rw [Try.ntmps3]; simp) rfl k1 (.inr rfl) k2 ?_ ?_
    · simp [V.under, V.unders]
    · simp [V.freeze, V.freezes]
  · simp at h

end Go.Abs

/- The statement MixTells. -/
namespace Go.Abs
open Go Go.Proofs Go.ChangeShapes Go.ChangeMaps Go.WideShapes Go.ChangeAt Go.RowKit

theorem own : ownKnob Try.prog.godebug = none := by kernel_rfl
def E0 : Env := ⟨fun _ => none, fun _ => 0, fun _ => 0⟩

set_option maxRecDepth 100000 in
theorem tells_lifted (os : Os) (started : os.Started) (H : Type) (enc : TypeId × Value → H) :
    ReturnsInHanded {} Try.checked os 3 .any (Ytlgalckconjljaa.Rows.mixTellsSpec.pre6 enc Try.prog Try.f3 Ytlgalckconjljaa.Rows.mixTellsRow.domain false) (Ytlgalckconjljaa.Rows.mixTellsSpec.post enc Try.prog Try.f3 false true false false) := by
  refine returnsInHanded_of_change (C := Try.checked) own started (by kernel_rfl) Try.func3
    (ChangeSpec.witness6 (enc := enc) (C := Try.checked) false ⟨#[], #[.string ByteArray.empty, .int .i64 0, .string ByteArray.empty], []⟩ 8 (by kernel_rfl) (by kernel_rfl) (by kernel_rfl) (by kernel_rfl)) ?_
  intro W base args ds gs before hval0 hW hcnd _
  have hval : ∀ (j : Nat) t v, Try.f3.params[j]? = some t → args[j]? = some v → Value.okWide Try.prog W .any base t v := hval0
  have hW' := hW
  obtain ⟨p, q, hA0, hV, rfl, hfz, hnd⟩ := hW
  have hA : DataW.TrodAll enc Try.prog W 0 (fun _ => true) true Try.f3.params.toList args.toList ds p := hA0
  rw [Try.params3] at hA hval
  obtain ⟨v0, v1, v2, d0, d1, d2, p0, p1, p2, rfl, rfl, rfl, h0, h1, h2⟩ := trodAll_three hA
  obtain ⟨rfl, rfl⟩ := trodVars_none hV
  obtain ⟨s, rfl, rfl, rfl, hs⟩ := open_string Try.underlying9 (hval 0 9 v0 rfl rfl) h0
  obtain ⟨b, rfl, rfl, rfl, wb⟩ := open_int Try.underlying3 (hval 1 3 v1 rfl rfl) h1
  obtain ⟨t, rfl, rfl, rfl, ht⟩ := open_string Try.underlying9 (hval 2 9 v2 rfl rfl) h2
  clear hA0 hval0
  simp only [List.append_nil] at hW'
  refine (tells_sound.law (args := [.str s.data.toList, .int .i64 b, .str t.data.toList]) (E := E0) ?_ rfl ?_).mono fun e W' ⟨he, hw⟩ => ?_
  · rfl
  · intro k hk
    match k, hk with
    | 0, _ => exact .str s
    | 1, _ => exact .int .i64 b
    | 2, _ => exact .str t
  · subst he
    exact ⟨_, rfl, post_of_blw (pa := []) (pv := []) hW' (fun _ _ _ => trodAll_mk1 (shut_bool Try.underlying4 true))
      (fun sp _ => trodAll_mk3 (shut_string Try.underlying9 hs) (shut_int Try.underlying3 wb) (shut_string Try.underlying9 ht)) (fun _ _ => rfl) rfl
      hw (ok_one (by kernel_rfl) rfl (okWide_bool_mk Try.underlying4 true))⟩

theorem tells_holds : Ytlgalckconjljaa.Rows.MixTellsSaid :=
  OpenClaim.holds_of_wide 3 Try.f3 rfl rfl rfl rfl rfl rfl rfl ⟨rfl, rfl, rfl, rfl, rfl⟩ rfl rfl rfl rfl rfl (by kernel_rfl) Try.func3 (by kernel_rfl)
    (of_decide_eq_true (by kernel_rfl)) (by unfold Func.isWrapper; first | (rw [if_pos (by decide +kernel)]; kernel_rfl) | (rw [if_neg (by decide +kernel)]; exact ⟨rfl, rfl⟩))
    (fun os started H enc _ => tells_lifted os started H enc)
end Go.Abs
