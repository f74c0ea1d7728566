/- Part of a proof: a machine of plain data, and what the functions come to on it. -/
import Derived.Test.YthmahgleehgbaaaGreatAbsA
import Derived.Lib.ConvBytes
import Derived.Laws.BytesString
import Derived.Laws.MakeOwn
import Derived.MapKept
import Derived.Carry
import Derived.LoopN
import Derived.Scope
import Derived.ProofKit
import Derived.Below
import Derived.ChangeSame
set_option linter.unusedSimpArgs false
set_option linter.unusedVariables false
set_option linter.unusedSectionVars false
namespace Go.Abs
open Go
/-- an operand that may be missing -/
inductive OpV (E : Env) (st : St) (w : World) : Option Value → Option V → Prop where
  | none : OpV E st w none none
  | some (v : Value) (d : V) (h : VR E st w v d) : OpV E st w (some v) (some d)
theorem bound_run {E : Env} {st : St} {w w1 : World} {P : Program} {v : Value} {d : V} {y hi k : Nat} {dflt : Nat} {code : BoundsCode} (h : VR E st w v d) (hb : boundB (some d) dflt 0 hi = some k) (hy : hi ≤ y) :
    (Instr.sliceBound v y code).run P w1 = .ok k w1 ∧ k ≤ hi := by
  unfold boundB at hb
  cases h <;> simp only [reduceCtorEq] at hb
  split at hb
  · rename_i hc
    simp only [Option.some.injEq] at hb
    subst hb
    refine ⟨?_, by omega⟩
    simp only [Instr.sliceBound, asIntOf, Sem.run_bind, Sem.run_pure, Result.andThen_ok]
    rw [if_pos (by omega)]
    rfl
  · simp at hb
theorem bounds_run {E : Env} {st : St} {w w1 : World} {P : Program} {lov hiv : Option Value} {lo hi : Option V} {len cap h l : Nat} {b : Bool} (hlo : OpV E st w lov lo) (hhi : OpV E st w hiv hi)
    (h1 : boundB hi len 0 len = some h) (h2 : boundB lo 0 0 h = some l) (hc : len ≤ cap) :
    (Instr.sliceBounds b len cap lov hiv none).run P w1 = .ok (l, h, cap) w1 ∧ l ≤ h ∧ h ≤ len := by
  have hh : ∀ code, (match hiv with | some v => Instr.sliceBound v cap code | none => pure len : Sem Nat).run P w1 = .ok h w1 ∧ h ≤ len := by
    intro code
    cases hhi with
    | none => simp only [boundB, Option.some.injEq] at h1; subst h1; exact ⟨rfl, Nat.le_refl _⟩
    | some v d hv => exact bound_run hv h1 hc
  have hl : ∀ code, (match lov with | some v => Instr.sliceBound v h code | none => pure 0 : Sem Nat).run P w1 = .ok l w1 ∧ l ≤ h := by
    intro code
    cases hlo with
    | none => simp only [boundB, Option.some.injEq] at h2; subst h2; exact ⟨rfl, Nat.zero_le _⟩
    | some v d hv => exact bound_run hv h2 (Nat.le_refl _)
  refine ⟨?_, (hl .sliceB).2, (hh .sliceAcap).2⟩
  cases hhi with
  | none =>
    simp only [boundB, Option.some.injEq] at h1
    subst h1
    cases hlo with
    | none =>
      simp only [boundB, Option.some.injEq] at h2
      subst h2
      simp [Instr.sliceBounds]
    | some v d hv =>
      have := (hl .sliceB).1
      simp only at this
      simp [Instr.sliceBounds, this]
  | some v d hv =>
    have h3 := fun code => (hh code).1
    simp only at h3
    cases hlo with
    | none =>
      simp only [boundB, Option.some.injEq] at h2
      subst h2
      simp [Instr.sliceBounds, h3]
    | some v2 d2 hv2 =>
      have := (hl .sliceB).1
      simp only at this
      simp [Instr.sliceBounds, this, h3]
theorem Rd.tok {E : Env} {st : St} {t t' : Tok} {b hi : Nat} (h : Rd E st t b hi) (ht : t' = t ∨ ∀ F ep, t ≠ .own F ep) : Rd E st t' b hi := by
  rcases ht with rfl | ht
  · exact h
  · refine ⟨h.1, fun F f hF he => ?_⟩
    obtain ⟨⟨ep, h1⟩, _⟩ := h.2 F f hF he
    exact absurd h1 (ht F ep)
theorem slice_VR {E : Env} {st : St} {w w1 : World} {P : Program} {t : TypeId} {xv : Value} {x r : V} {lov hiv : Option Value} {lo hi : Option V} (h : sliceB P t x lo hi = some r)
    (hx : VR E st w xv x) (hlo : OpV E st w lov lo) (hhi : OpV E st w hiv hi) : ∃ rv, (Instr.sliceAt t xv lov hiv none).run P w1 = .ok rv w1 ∧ VR E st w rv r := by
  unfold sliceB at h
  cases hu : P.underlying t with
  | none => simp [hu] at h
  | some du =>
    rw [hu] at h
    cases du with
    | string =>
      cases hx with
      | str s =>
        simp only at h
        cases h1 : boundB hi s.data.toList.length 0 s.data.toList.length with
        | none => simp only [h1, reduceCtorEq] at h
        | some hh =>
          simp only [h1] at h
          cases h2 : boundB lo 0 0 hh with
          | none => simp only [h2, reduceCtorEq] at h
          | some ll =>
            simp only [h2, Option.some.injEq] at h
            subst h
            have hsz : s.data.toList.length = s.size := Array.length_toList
            rw [hsz] at h1
            obtain ⟨h3, h4, h5⟩ := bounds_run (P := P) (w1 := w1) (b := false) hlo hhi h1 h2 (Nat.le_refl _)
            refine ⟨.string (s.extract ll hh), by simp [Instr.sliceAt, run_underlying hu, Instr.slice, h3], ?_⟩
            have : (s.data.toList.take hh).drop ll = (s.extract ll hh).data.toList := by
              simp [ByteArray.data_extract, List.drop_take]
            rw [this]; exact .str _
      | _ => simp at h
    | slice elem =>
      cases hx with
      | nil off sz =>
        simp only at h
        split at h
        rotate_left
        · simp at h
        rename_i hsome
        obtain ⟨hsome, _⟩ := hsome
        cases h1 : boundB hi ([] : List V).length 0 ([] : List V).length with
        | none => simp only [h1, reduceCtorEq] at h
        | some hh =>
          simp only [h1] at h
          cases h2 : boundB lo 0 0 hh with
          | none => simp only [h2, reduceCtorEq] at h
          | some ll =>
            simp only [h2, Option.some.injEq] at h
            subst h
            obtain ⟨h3, h4, h5⟩ := bounds_run (P := P) (w1 := w1) (b := true) (cap := 0) hlo hhi h1 h2 (Nat.le_refl _)
            simp at h5
            subst h5
            have : ll = 0 := by omega
            subst this
            simp only [List.length_nil] at h3
            cases hs : P.info? elem with
            | none => simp [sizeB, hs] at hsome
            | some i =>
              refine ⟨.slice none 0 0, by simp [Instr.sliceAt, run_underlying hu, Instr.slice, h3, sizeOf, typeInfo, hs], ?_⟩
              simp [cutTok]
              exact .nil _ _
      | list tk off sz xs a cap vs ht hcap hsp hz hel hcell hrd htok hone hv =>
        simp only at h
        split at h
        · rename_i hsz
          have hsz' : sizeB P elem = some sz := by
            rcases hsz.2 with rfl | h0
            · exact absurd rfl ht
            · exact h0.symm
          cases h1 : boundB hi xs.length 0 xs.length with
          | none => simp [h1] at h
          | some hh =>
            simp only [h1] at h
            cases h2 : boundB lo 0 0 hh with
            | none => simp [h2] at h
            | some ll =>
              simp only [h2, Option.some.injEq] at h
              subst h
              obtain ⟨h3, h4, h5⟩ := bounds_run (P := P) (w1 := w1) (b := true) (cap := cap) hlo hhi h1 h2 hcap
              have hrun : (Instr.sliceAt t (.slice (some a) xs.length cap) lov hiv none).run P w1 = .ok (.slice (if cap = ll then some a else some (a.add (ll * sz))) (hh - ll) (cap - ll)) w1 := by
                simp [Instr.sliceAt, run_underlying hu, Instr.slice, h3, run_sizeB hsz']
              have hlen : ((xs.take hh).drop ll).length = hh - ll := by simp; omega
              have hget : ∀ j, j < hh - ll → ((xs.take hh).drop ll).getD j .dead = xs.getD (ll + j) .dead := by
                intro j hj
                simp [List.getD_eq_getElem?_getD, List.getElem?_take, (by omega : ll + j < hh)]
              have hmul : ll * sz + (hh - ll) * sz = hh * sz := by rw [← Nat.add_mul]; congr 1; omega
              have hmul2 : hh * sz ≤ xs.length * sz := Nat.mul_le_mul_right _ h5
              obtain ⟨a', ha', hb', ho', hs'⟩ : ∃ a' : Addr, (if cap = ll then some a else some (a.add (ll * sz))) = some a' ∧ a'.block = a.block ∧ (ll < cap → 0 < sz → a.spot = none → a'.off = a.off + ll * sz ∧ a'.spot = none) ∧ (ll < cap → a.spot = none → a'.spot = none) := by
                by_cases hc : cap = ll
                · exact ⟨a, by rw [if_pos hc], rfl, fun h => by omega, fun h => by omega⟩
                · refine ⟨a.add (ll * sz), by rw [if_neg hc], ?_, fun _ _ hsp => ?_, fun _ hsp => ?_⟩
                  · unfold Addr.add; split <;> rfl
                  · unfold Addr.add
                    split
                    · rename_i h0; exact ⟨by omega, hsp⟩
                    · exact ⟨rfl, rfl⟩
                  · unfold Addr.add
                    split
                    · exact hsp
                    · rfl
              rw [ha'] at hrun
              refine ⟨_, hrun, ?_⟩
              have hnot : cutTok tk hh xs.length = tk ∨ ∀ F ep, tk ≠ .own F ep := by
                cases tk with
                | own F ep => exact .inl rfl
                | _ => exact .inr (fun F ep h => by simp at h)
              rw [show Value.slice (some a') (hh - ll) (cap - ll) = Value.slice (some a') ((xs.take hh).drop ll).length (cap - ll) from by rw [hlen]]
              refine .list _ (off + ll) sz _ a' (cap - ll) (fun j => vs (ll * sz + j)) ?_ (by omega) ?_ ?_ ?_ ?_ ?_ ?_ ?_ ?_
              · cases tk with
                | nil => exact absurd rfl ht
                | clip => simp only [cutTok]; split <;> simp
                | _ => simp [cutTok]
              · intro hp
                rw [hlen] at hp
                exact hs' (by omega) (hsp (by omega))
              · intro hp
                rw [hlen] at hp
                exact hz (by omega)
              · intro j hj
                rw [hlen] at hj
                rw [hget j hj]
                exact hel _ (by omega)
              · intro j hj
                rw [hlen] at hj
                have hsz0 : 0 < sz := by
                  rcases Nat.eq_zero_or_pos sz with h0 | h0
                  · rw [h0] at hj; omega
                  · exact h0
                have hp : 0 < hh - ll := by
                  rcases Nat.eq_zero_or_pos (hh - ll) with h0 | h0
                  · rw [h0] at hj; omega
                  · exact h0
                obtain ⟨o1, o2⟩ := ho' (by omega) hsz0 (hsp (by omega))
                rw [hb', o1, Nat.add_assoc]
                exact hcell _ (by omega)
              · intro hp
                rw [hlen] at hp ⊢
                obtain ⟨o1, o2⟩ := ho' (by omega) (hz (by omega)) (hsp (by omega))
                rw [hb', o1]
                exact ((hrd (by omega)).mono (by omega)).tok hnot
              · rw [hlen]
                cases tk with
                | nil => exact absurd rfl ht
                | ro => trivial
                | clip =>
                  simp only [cutTok]
                  split
                  · rename_i he
                    have : cap = xs.length := htok
                    show cap - ll = hh - ll
                    omega
                  · trivial
                | own F ep =>
                  obtain ⟨f, f1, f2, f3⟩ := htok
                  refine ⟨f, f1, f2, fun he => ?_⟩
                  obtain ⟨a1, a2, a3, a4, a5⟩ := f3 he
                  refine ⟨hb'.trans a1, a2, fun hp => ?_, by omega, ?_⟩
                  · obtain ⟨a6, a7⟩ := a3 (by omega)
                    by_cases hsz0 : 0 < sz
                    · obtain ⟨o1, o2⟩ := ho' (by omega) hsz0 a7
                      refine ⟨?_, o2⟩
                      rw [o1, Nat.add_mul]; omega
                    · have hs0 : sz = 0 := by omega
                      refine ⟨?_, hs' (by omega) a7⟩
                      have hcl : ¬ cap = ll := by omega
                      rw [if_neg hcl] at ha'
                      injection ha' with ha'
                      rw [← ha', hs0]
                      rw [hs0] at a6
                      simp [Addr.add]
                      omega
                  · rw [hb']
                    have : off + ll + (cap - ll) = off + cap := by omega
                    rw [this]; exact a5
              · intro j hj
                rw [hlen] at hj
                exact hone _ (by omega)
              · intro j k hj hk
                rw [hlen] at hj
                rw [hget j hj]
                have := hv (ll + j) k (by omega) hk
                rw [Nat.add_mul] at this
                rw [← Nat.add_assoc]
                exact this
        · simp at h
      | _ => simp at h
    | _ => simp at h
end Go.Abs

namespace Go.Abs
open Go
theorem index_VR {E : Env} {st : St} {w w1 : World} {P : Program} {t : TypeId} {xv : Value} {x r : V} {k : IntKind} {n : Int} (h : indexB P t x n = some r) (hx : VR E st w xv x) :
    ∃ rv, (Instr.index t xv (.int k n)).run P w1 = .ok rv w1 ∧ VR E st w rv r := by
  unfold indexB at h
  cases hu : P.underlying t with
  | none => simp [hu] at h
  | some du =>
    rw [hu] at h
    cases du with
    | string =>
      cases hx with
      | str s =>
        simp only at h
        split at h
        · rename_i h0
          cases hb : s.data.toList[n.toNat]? with
          | none => rw [hb] at h; simp at h
          | some b =>
            rw [hb] at h
            simp only [Option.map_some, Option.some.injEq] at h
            subst h
            have hs : s[n.toNat]? = some b := by
              have hlt : n.toNat < s.data.toList.length := (List.getElem?_eq_some_iff.1 hb).1
              have hlt' : n.toNat < s.size := by rw [Array.length_toList] at hlt; exact hlt
              have hb' := (List.getElem?_eq_some_iff.1 hb).2
              rw [getElem?_pos s n.toNat hlt']
              congr 1
            exact ⟨_, by simp [Instr.index, asIntOf, run_underlying hu, h0, hs], .int _ _⟩
        · simp at h
      | _ => simp at h
    | array len elem =>
      cases hx with
      | agg cs ds hl hone hv =>
        simp only at h
        split at h
        · rename_i h0
          cases hs : sizeB P elem with
          | none => simp [hs] at h
          | some sz =>
            simp only [hs] at h
            obtain ⟨rv, h1, h2⟩ := part_VR hl hone hv h
            exact ⟨rv, by simp [Instr.index, asIntOf, run_underlying hu, h0, run_sizeB hs, h1], h2⟩
        · simp at h
      | _ => simp at h
    | _ => simp at h
theorem indexAddr_VR {E : Env} {st : St} {w w1 : World} {P : Program} {t : TypeId} {xv : Value} {x r : V} {k : IntKind} {n : Int} (h : indexAddrB P t x n = some r) (hx : VR E st w xv x) :
    ∃ rv, (Instr.indexAt t xv (.int k n)).run P w1 = .ok rv w1 ∧ VR E st w rv r := by
  unfold indexAddrB at h
  cases hu : P.underlying t with
  | none => simp [hu] at h
  | some du =>
    rw [hu] at h
    cases du with
    | slice elem =>
      cases hx with
      | nil off sz =>
        simp only at h
        split at h <;> simp at h
      | list tk off sz xs a cap vs ht hcap hsp hz hel hcell hrd htok hone hv =>
        simp only at h
        split at h
        · rename_i h0
          obtain ⟨h0, hs⟩ := h0
          cases he : xs[n.toNat]? with
          | none => rw [he] at h; simp at h
          | some e =>
            rw [he] at h
            simp only [Option.map_some, Option.some.injEq] at h
            subst h
            have hlt : n.toNat < xs.length := (List.getElem?_eq_some_iff.1 he).1
            have hg : xs.getD n.toNat .dead = e := by simp [List.getD_eq_getElem?_getD, he]
            have hsp' := hsp (by omega)
            have ha : a = adr a.block a.off := by cases a; simp at hsp'; simp [hsp']
            have hlen : e.cells.length = sz := by rw [← hg]; exact hel _ hlt
            have hsz0 := hz (by omega)
            have hm : (n.toNat + 1) * sz ≤ xs.length * sz := Nat.mul_le_mul_right _ hlt
            rw [Nat.add_mul] at hm
            refine ⟨.pointer (some (adr a.block (a.off + n.toNat * sz + 0))), ?_, ?_⟩
            · have hin : 0 ≤ n ∧ n < (xs.length : Int) := by omega
              rw [ha]
              simp [Instr.indexAt, asIntOf, run_underlying hu, hin, run_sizeB hs.symm, adr_add]
            · refine .eptr tk (off + n.toNat) 0 e a.block (a.off + n.toNat * sz) (fun j => vs (n.toNat * sz + j)) ht (by omega) ?_ ?_ ?_ ?_ ?_
              · intro j hj
                rw [Nat.add_assoc]
                exact hcell _ (by omega)
              · exact (hrd (by omega)).mono (by rw [hlen]; omega)
              · rw [hlen]
                cases tk with
                | nil => exact absurd rfl ht
                | ro => trivial
                | clip => exact rfl
                | own F ep =>
                  obtain ⟨f, f1, f2, f3⟩ := htok
                  refine ⟨f, f1, f2, fun he => ?_⟩
                  obtain ⟨a1, a2, a3, a4, a5⟩ := f3 he
                  obtain ⟨a6, _⟩ := a3 (by omega)
                  refine ⟨a1, a2, fun _ => ⟨?_, rfl⟩, by omega, ?_⟩
                  · rw [Nat.add_mul]
                    simp only
                    omega
                  · have : (off + n.toNat + 1) * sz ≤ (off + cap) * sz := Nat.mul_le_mul_right _ (by omega)
                    simp only
                    omega
              · intro j hj
                exact hone _ (by omega)
              · intro j hj
                rw [← hg]
                exact hv _ _ hlt (by omega)
        · simp at h
      | _ => simp at h
    | array len elem =>
      cases hx with
      | ptr i off b hi hb =>
        simp only at h
        split at h
        · rename_i h0
          cases hs : sizeB P elem with
          | none => simp [hs] at h
          | some sz =>
            simp only [hs, Option.map_some, Option.some.injEq] at h
            subst h
            exact ⟨_, by simp [Instr.indexAt, asIntOf, run_underlying hu, h0, Instr.sureAddr, run_sizeB hs, adr_add], .ptr _ _ _ hi hb⟩
        · simp at h
      | eptr tk idx off e b o vs ht hz hcell hrd htok hone hv =>
        simp only at h
        split at h
        · rename_i h0
          cases hs : sizeB P elem with
          | none => simp [hs] at h
          | some sz =>
            simp only [hs, Option.map_some, Option.some.injEq] at h
            subst h
            refine ⟨.pointer (some (adr b (o + (off + n.toNat * sz)))), ?_, .eptr _ _ _ _ _ _ _ ht hz hcell hrd htok hone hv⟩
            simp [Instr.indexAt, asIntOf, run_underlying hu, h0, Instr.sureAddr, run_sizeB hs, adr_add, Nat.add_assoc]
        · simp at h
      | _ => simp at h
    | _ => simp at h
theorem fieldAddr_VR {E : Env} {st : St} {w w1 : World} {P : Program} {t : TypeId} {xv : Value} {x r : V} {f : Nat} (h : fieldAddrB P t x f = some r) (hx : VR E st w xv x) :
    ∃ rv, (Instr.fieldAt t xv f).run P w1 = .ok rv w1 ∧ VR E st w rv r := by
  unfold fieldAddrB at h
  cases hu : P.underlying t with
  | none => simp [hu] at h
  | some du =>
    cases du with
    | struct fields =>
      simp only [hu] at h
      cases hf : fields[f]? with
      | none => simp [hf] at h
      | some fl =>
        simp only [hf] at h
        cases hs : sizeB P fl.type with
        | none => simp [hs] at h
        | some n =>
          cases n with
          | zero => simp [hs] at h
          | succ n =>
            simp only [hs] at h
            have hpl : ∀ b o, (fieldPlace (adr b o) fl).run P w1 = .ok (adr b (o + fl.offset)) w1 := fun b o => by
              simp [fieldPlace, run_sizeB hs, adr_add]
            cases hx with
            | ptr i off b hi hb =>
              simp only [Option.some.injEq] at h
              subst h
              exact ⟨_, by simp [Instr.fieldAt, run_underlying hu, hf, Instr.sureAddr, hpl], .ptr _ _ _ hi hb⟩
            | eptr tk idx off e b o vs ht hz hcell hrd htok hone hv =>
              simp only [Option.some.injEq] at h
              subst h
              refine ⟨.pointer (some (adr b (o + (off + fl.offset)))), ?_, .eptr _ _ _ _ _ _ _ ht hz hcell hrd htok hone hv⟩
              simp [Instr.fieldAt, run_underlying hu, hf, Instr.sureAddr, hpl, Nat.add_assoc]
            | _ => simp at h
    | _ => simp [hu] at h
theorem field_VR {E : Env} {st : St} {w w1 : World} {P : Program} {t : TypeId} {xv : Value} {x r : V} {f : Nat} (h : fieldB P t x f = some r) (hx : VR E st w xv x) :
    ∃ rv, (Instr.field t xv f).run P w1 = .ok rv w1 ∧ VR E st w rv r := by
  unfold fieldB at h
  cases hu : P.underlying t with
  | none => simp [hu] at h
  | some du =>
    rw [hu] at h
    cases du with
    | struct fields =>
      cases hx with
      | agg cs ds hl hone hv =>
        simp only at h
        cases hf : fields[f]? with
        | none => simp [hf] at h
        | some fl =>
          simp only [hf] at h
          obtain ⟨rv, h1, h2⟩ := part_VR hl hone hv h
          exact ⟨rv, by simp [Instr.field, run_underlying hu, hf, asAgg, h1], h2⟩
      | _ => simp at h
    | _ => simp at h
theorem foldl_wr (off : Nat) : ∀ (l : List Value) (k : Nat) (cs : Array Value), (l.zipIdx k).foldl (fun cs (p : Value × Nat) => cs.setIfInBounds (off + p.2) p.1) cs = wrAt cs (off + k) l
  | [], k, cs => rfl
  | v :: l, k, cs => by
    simp only [List.zipIdx_cons, List.foldl_cons, wrAt]
    rw [foldl_wr off l (k + 1)]
    rfl
theorem fill_VR {E : Env} {st : St} {w : World} (place : Nat → Option (Nat × Nat)) : ∀ (parts : List (Nat × V)) (pv : List (Nat × Value)) (cs : Array Value) (ds r : List V),
    pv.length = parts.length → (∀ k, k < parts.length → (pv.getD k (0, undef)).1 = (parts.getD k (0, .any)).1 ∧ VR E st w (pv.getD k (0, undef)).2 (parts.getD k (0, .any)).2) →
    cs.size = ds.length → (∀ k, k < ds.length → (cs.getD k undef).oneCell' = true) → (∀ k, k < ds.length → VR E st w (cs.getD k undef) (ds.getD k .dead)) →
    fillB place ds parts = some r → ∃ cr, Instr.fill place cs pv = some cr ∧ cr.size = r.length ∧ (∀ k, k < r.length → (cr.getD k undef).oneCell' = true) ∧ ∀ k, k < r.length → VR E st w (cr.getD k undef) (r.getD k .dead)
  | [], pv, cs, ds, r, hl, hp, hc, h1, hv, h => by
    have : pv = [] := List.eq_nil_of_length_eq_zero hl
    subst this
    simp only [fillB, Option.some.injEq] at h
    subst h
    exact ⟨cs, by simp [Instr.fill], hc, h1, hv⟩
  | (i, d) :: parts, pv, cs, ds, r, hl, hp, hc, h1, hv, h => by
    match pv, hl with
    | (j, v) :: pv, hl =>
      have h0 := hp 0 (by simp)
      simp only [List.getD_cons_zero] at h0
      obtain ⟨rfl, hvd⟩ := h0
      simp only [fillB] at h
      cases hpl : place j with
      | none => simp [hpl] at h
      | some pr =>
        obtain ⟨off, size⟩ := pr
        simp only [hpl] at h
        cases hfl : d.flat with
        | none => simp [hfl] at h
        | some vc =>
          simp only [hfl] at h
          split at h
          · rename_i hcond
            obtain ⟨hc1, hc2⟩ := hcond
            obtain ⟨g1, g0, g2⟩ := hvd.flat' hfl
            have hle : off + vc.length ≤ ds.length := by omega
            have hvl : v.cells.toList.length = vc.length := by simpa using g1
            have hg : ∀ k, v.cells.toList.getD k undef = v.cells.getD k undef := fun k => by simp [List.getD_eq_getElem?_getD, Array.getD_eq_getD_getElem?]
            have IH := fill_VR (E := E) (st := st) (w := w) place parts pv (wrAt cs off v.cells.toList) (splice ds off vc) r (by simpa using hl) (fun k hk => by
                have := hp (k + 1) (by simp; omega)
                simpa using this) (by rw [wrAt_size, splice_length hle]; exact hc)
              (fun k hk => by
                rw [splice_length hle] at hk
                rw [wrAt_get _ _ _ _ (by omega)]
                by_cases hkk : off ≤ k ∧ k < off + v.cells.toList.length
                · rw [if_pos hkk, hg]; exact g0 _ (by omega)
                · rw [if_neg hkk]; exact h1 k hk)
              (fun k hk => by
                rw [splice_length hle] at hk
                exact wr_splice hc hle hvl hv (fun k hk => by rw [hg]; exact g2 k hk) k hk) h
            obtain ⟨cr, i1, i2⟩ := IH
            refine ⟨cr, ?_, i2⟩
            simp only [Instr.fill, hpl]
            rw [if_neg (by simp; omega)]
            have e : Array.foldl (fun cs (x : Value × Nat) => cs.setIfInBounds (off + x.2) x.1) cs v.cells.zipIdx = wrAt cs off v.cells.toList := by
              rw [← Array.foldl_toList, Array.toList_zipIdx, foldl_wr]
              simp
            have e2 : (v.cells.zipIdx.foldl (fun cs (c, j) => cs.setIfInBounds (off + j) c) cs) = wrAt cs off v.cells.toList := e
            rw [e2]
            exact i1
          · simp at h
end Go.Abs

namespace Go.Abs
open Go
theorem list_mapM_run {α β : Type} {P : Program} {w : World} (f : α → Sem β) (g : α → β) : ∀ (l : List α), (∀ a, a ∈ l → ∀ w, (f a).run P w = .ok (g a) w) → (l.mapM f).run P w = .ok (l.map g) w
  | [], _ => by simp
  | a :: l, h => by
    rw [List.mapM_cons, Sem.run_bind, h a (by simp), Result.andThen_ok, Sem.run_bind, list_mapM_run f g l (fun b hb => h b (by simp [hb])), Result.andThen_ok]
    rfl
theorem arr_mapM_run {α β : Type} {P : Program} {w : World} (f : α → Sem β) (g : α → β) (l : Array α) (h : ∀ a, a ∈ l.toList → ∀ w, (f a).run P w = .ok (g a) w) : (l.mapM f).run P w = .ok (l.map g) w := by
  rw [Array.mapM_eq_mapM_toList, Sem.run_map, list_mapM_run f g l.toList h, Result.andThen_ok]
  congr 1
  apply Array.ext'
  simp
theorem build_VR {E : Env} {st : St} {w w1 : World} {P : Program} {t : TypeId} {parts : List (Nat × V)} {pv : List (Nat × Value)} {r : V} (h : buildB P t parts = some r) (hl : pv.length = parts.length)
    (hp : ∀ k, k < parts.length → (pv.getD k (0, undef)).1 = (parts.getD k (0, .any)).1 ∧ VR E st w (pv.getD k (0, undef)).2 (parts.getD k (0, .any)).2) :
    ∃ rv, (Instr.build t pv.toArray).run P w1 = .ok rv w1 ∧ VR E st w rv r := by
  unfold buildB at h
  cases hz : zeroB P t with
  | none => simp [hz] at h
  | some zV =>
    obtain ⟨z, hz1, hz2⟩ := zeroB_some hz
    have hzVR : VR E st w z zV := by rw [hz1]; exact ofVal_VR E st w 3 z
    rw [hz] at h
    cases hzVR with
    | agg zc dz hlz hone hv =>
      cases hu : P.underlying t with
      | none => simp [hu] at h
      | some du =>
        cases du with
        | struct fields =>
          simp only [hu] at h
          split at h
          · rename_i hall
            cases hf : fillB (fun i => (fields[i]?).bind fun f => (sizeB P f.type).map fun n => (f.offset, n)) dz parts with
            | none => rw [hf] at h; simp at h
            | some rr =>
              rw [hf] at h
              simp only [Option.map_some, Option.some.injEq] at h
              subst h
              obtain ⟨cr, i1, i2, i3, i4⟩ := fill_VR _ parts pv zc dz rr hl hp hlz hone hv hf
              refine ⟨.agg cr, ?_, .agg _ _ i2 i3 i4⟩
              rw [List.all_eq_true] at hall
              have hm := fun w => arr_mapM_run (P := P) (w := w) (fun f : Field => do pure (f.offset, ← sizeOf f.type)) (fun f : Field => (f.offset, (sizeB P f.type).getD 0)) fields (fun f hf w => by
                have := hall f hf
                obtain ⟨n, hn⟩ := Option.isSome_iff_exists.1 this
                simp [run_sizeB hn, hn])
              have hpl : (fun i : Nat => (fields[i]?).bind fun f : Field => (sizeB P f.type).map fun n => (f.offset, n)) = fun i : Nat => (fields.map fun f : Field => (f.offset, (sizeB P f.type).getD 0))[i]? := by
                funext i
                rw [Array.getElem?_map]
                cases hi : fields[i]? with
                | none => rfl
                | some f =>
                  have hmem : f ∈ fields.toList := by
                    obtain ⟨hlt, he⟩ := Array.getElem?_eq_some_iff.1 hi
                    rw [← he]; simp
                  obtain ⟨n, hn⟩ := Option.isSome_iff_exists.1 (hall f hmem)
                  simp [hn]
              rw [hpl] at i1
              have i1' : Instr.fill (fun x => (fields.map fun f : Field => (f.offset, (sizeB P f.type).getD 0))[x]?) zc pv = some cr := i1
              simp only [Instr.build, Sem.run_bind, hz2, Result.andThen_ok, run_underlying hu, hm, Value.cells, i1', Sem.run_pure]
          · simp at h
        | array len elem =>
          simp only [hu] at h
          cases hs : sizeB P elem with
          | none => simp [hs] at h
          | some n =>
            simp only [hs] at h
            cases hf : fillB (fun i => some (i * n, n)) dz parts with
            | none => rw [hf] at h; simp at h
            | some rr =>
              rw [hf] at h
              simp only [Option.map_some, Option.some.injEq] at h
              subst h
              obtain ⟨cr, i1, i2, i3, i4⟩ := fill_VR _ parts pv zc dz rr hl hp hlz hone hv hf
              refine ⟨.agg cr, ?_, .agg _ _ i2 i3 i4⟩
              simp only [Instr.build, Sem.run_bind, hz2, Result.andThen_ok, run_underlying hu, run_sizeB hs, Value.cells, i1, Sem.run_pure]
        | _ => simp [hu] at h
    | _ => simp at h
/-- a list in a new block of cells that are known -/
theorem new_list {E : Env} {st : St} {w' : World} {sz : Nat} {xs : List V} {c : Array Value} {ty : TypeId} {z : Nat × Nat} {t : Tok} {off cap b : Nat} (hsz : 0 < sz)
    (hrow : w'.heap[b]? = some (.cells c ty z)) (hc : xs.length * sz ≤ c.size) (hq : Cellsq E st w' sz xs (fun j => c.getD j undef)) (ht : t ≠ .nil) (hcap : xs.length ≤ cap)
    (hrd : 0 < xs.length → Rd E st t b (xs.length * sz)) (htok : TokOK E st w' t off sz (adr b 0) xs.length cap) : VR E st w' (.slice (some (adr b 0)) xs.length cap) (.list t off sz xs) := by
  refine .list t off sz xs (adr b 0) cap (fun j => c.getD j undef) ht hcap (fun _ => rfl) (fun _ => hsz) hq.len ?_ ?_ htok hq.all1 hq.val
  · intro j hj
    simp only
    rw [heap_cell hrow, show 0 + j = j from Nat.zero_add j, getD_of_getElem? (by omega)]
  · intro hp
    simp only
    rw [show 0 + xs.length * sz = xs.length * sz from Nat.zero_add _]
    exact hrd hp
theorem Rd.new {E : Env} {st : St} {w : World} {t : Tok} {b hi : Nat} (h : WR E st w) (hb : w.heap.size ≤ b) : Rd E st t b hi :=
  ⟨fun i hi' he => by have := h.boxLt hi' he; omega, fun F f hF he => by have := h.famLt hF; omega⟩
theorem fill_cells {n : Nat} : ∀ (parts : List (Nat × Value)) (cs : Array Value) (k : Nat), (∀ p ∈ parts, p.2.cells.size = n) → parts.map (·.1) = (List.range' k parts.length) → (k + parts.length) * n ≤ cs.size →
    ∃ cr, Instr.fill (fun i => some (i * n, n)) cs parts = some cr ∧ cr.size = cs.size ∧
      ∀ j, cr.getD j undef = if k * n ≤ j ∧ j < (k + parts.length) * n then ((parts.getD (j / n - k) (0, undef)).2.cells.getD (j % n) undef) else cs.getD j undef
  | [], cs, k, _, _, _ => ⟨cs, by simp [Instr.fill], rfl, fun j => by rw [if_neg (by simp only [List.length_nil, Nat.add_zero]; omega)]⟩
  | (i, v) :: parts, cs, k, hs, hi, hle => by
    simp only [List.map_cons, List.length_cons, List.range'_succ, List.cons.injEq] at hi
    obtain ⟨rfl, hi⟩ := hi
    have hv : v.cells.size = n := hs (i, v) (by simp)
    have hle2 : i * n + n ≤ cs.size := by
      have : (i + 1) * n ≤ (i + (parts.length + 1)) * n := Nat.mul_le_mul_right _ (by omega)
      rw [Nat.add_mul] at this
      simp only [List.length_cons] at hle
      omega
    obtain ⟨cr, h1, h2, h3⟩ := fill_cells parts (wrAt cs (i * n) v.cells.toList) (i + 1) (fun p hp => hs p (by simp [hp])) hi (by rw [wrAt_size]; simp only [List.length_cons] at hle; rw [show i + 1 + parts.length = i + (parts.length + 1) by omega]; exact hle)
    refine ⟨cr, ?_, by rw [h2, wrAt_size], fun j => ?_⟩
    · simp only [Instr.fill]
      rw [if_neg (by simp; omega)]
      have e : Array.foldl (fun cs (x : Value × Nat) => cs.setIfInBounds (i * n + x.2) x.1) cs v.cells.zipIdx = wrAt cs (i * n) v.cells.toList := by
        rw [← Array.foldl_toList, Array.toList_zipIdx, foldl_wr]
        simp
      have e2 : (v.cells.zipIdx.foldl (fun cs (c, j) => cs.setIfInBounds (i * n + j) c) cs) = wrAt cs (i * n) v.cells.toList := e
      rw [e2]; exact h1
    · rw [h3 j, wrAt_get _ _ _ _ (by simp; omega)]
      simp only [List.length_cons, Array.length_toList, hv]
      have e1 : (i + 1) * n = i * n + n := by rw [Nat.add_mul]; omega
      have e2 : (i + 1 + parts.length) * n = (i + (parts.length + 1)) * n := by congr 1; omega
      rw [e2, e1]
      by_cases hj1 : i * n ≤ j ∧ j < i * n + n
      · have hn0 : 0 < n := by omega
        have hmod : j / n = i ∧ j % n = j - i * n := by
          have := div_mul_add (j := i) (k := j - i * n) (sz := n) (by omega)
          rw [show i * n + (j - i * n) = j by omega] at this
          exact this
        rw [if_neg (by omega), if_pos hj1]
        have hle3 : i * n + n ≤ (i + (parts.length + 1)) * n := by
          rw [← e1]; exact Nat.mul_le_mul_right _ (by omega)
        rw [if_pos (by omega), hmod.1, hmod.2, Nat.sub_self]
        simp [List.getD_eq_getElem?_getD, Array.getD_eq_getD_getElem?]
      · by_cases hj2 : i * n + n ≤ j ∧ j < (i + (parts.length + 1)) * n
        · have hn0 : 0 < n := by
            rcases Nat.eq_zero_or_pos n with h0 | h0
            · subst h0; simp at hj2
            · exact h0
          have hdiv : i + 1 ≤ j / n := (Nat.le_div_iff_mul_le hn0).2 (by rw [e1]; omega)
          rw [if_pos hj2, if_pos (by omega)]
          obtain ⟨m, hm⟩ : ∃ m, j / n - i = m + 1 := ⟨j / n - i - 1, by omega⟩
          rw [hm, show j / n - (i + 1) = m by omega]
          simp [List.getD_eq_getElem?_getD]
        · rw [if_neg hj2, if_neg (by omega), if_neg (by omega)]
end Go.Abs

namespace Go.Abs
open Go
/-- an operation's outcome: a value, a new world, the relation kept -/
structure OpR (E : Env) (st : St) (w : World) (ts : Array Value) (x : Sem Value) (P : Program) (d : V) (s' : List V) (st' : St) : Prop where
  ex : ∃ cv w' E', x.run P w = .ok cv w' ∧ WR E' st' w' ∧ VR E' st' w' cv d ∧ SR E' st' w' ts s' ∧ Seg E st w E' st' w'
theorem OpR.pure {E : Env} {st : St} {w : World} {ts : Array Value} {x : Sem Value} {P : Program} {d : V} {s : List V} (hw : WR E st w) (hs : SR E st w ts s) {cv : Value} (h : x.run P w = .ok cv w)
    (hv : VR E st w cv d) : OpR E st w ts x P d s st := ⟨cv, w, E, h, hw, hv, hs, .refl _ _ _⟩
theorem buildSlice_VR {E : Env} {st : St} {w : World} {P : Program} {ts : Array Value} {s : List V} {t : TypeId} {len : Nat} {parts : List (Nat × V)} {pv : List (Nat × Value)} {r : V} (hw : WR E st w)
    (hs : SR E st w ts s) (hfl : st.flo ≤ st.fams.length) (h : buildSliceB P t len parts = some r) (hl : pv.length = parts.length)
    (hp : ∀ k, k < parts.length → (pv.getD k (0, undef)).1 = (parts.getD k (0, .any)).1 ∧ VR E st w (pv.getD k (0, undef)).2 (parts.getD k (0, .any)).2) :
    OpR E st w ts (Instr.buildSlice t len pv.toArray) P r s st := by
  unfold buildSliceB at h
  cases hu : P.underlying t with
  | none => simp [hu] at h
  | some du =>
    cases du with
    | slice elem =>
      simp only [hu] at h
      cases hs1 : sizeB P elem with
      | none => simp [hs1] at h
      | some n =>
        simp only [hs1] at h
        split at h
        · rename_i hc
          obtain ⟨hn, h24, hz, hidx, hall⟩ := hc
          simp only [Option.some.injEq] at h
          subst h
          obtain ⟨zV, hzV⟩ := Option.isSome_iff_exists.1 hz
          obtain ⟨z, hz1, hz2⟩ := zeroB_some hzV
          have hplen : parts.length = len := by
            have := congrArg List.length hidx
            simpa using this
          have hpv1 : pv.map (·.1) = List.range' 0 pv.length := by
            rw [hl, hplen, ← List.range_eq_range', ← hidx]
            apply List.ext_getElem (by simp [hl])
            intro k h1 h2
            have hk : k < parts.length := by simpa using h2
            have := (hp k hk).1
            simpa [List.getD_eq_getElem?_getD, hk, (by omega : k < pv.length)] using this
          have hflat : ∀ k, k < parts.length → ∃ vc, (parts.getD k (0, .any)).2.flat = some vc ∧ vc.length = n := by
            intro k hk
            rw [List.all_eq_true] at hall
            have := hall parts[k] (List.getElem_mem hk)
            have e : parts.getD k (0, .any) = parts[k] := by simp [List.getD_eq_getElem?_getD, hk]
            rw [e]
            cases hf : parts[k].2.flat with
            | none => rw [hf] at this; simp at this
            | some vc => rw [hf] at this; exact ⟨vc, rfl, by simpa using this⟩
          have hsz : ∀ p ∈ pv, p.2.cells.size = n := by
            intro p hpm
            obtain ⟨k, hk, rfl⟩ := List.getElem_of_mem hpm
            obtain ⟨vc, f1, f2⟩ := hflat k (by omega)
            have h2 := (hp k (by omega)).2
            have e : pv.getD k (0, undef) = pv[k] := by simp [List.getD_eq_getElem?_getD, hk]
            rw [e] at h2
            rw [(h2.flat f1).1, f2]
          have hzsz : ∀ w, ((if len * n = 0 then pure #[] else do pure (← zeroValue elem).cells : Sem (Array Value)).run P w) = .ok (if len * n = 0 then #[] else z.cells) w := by
            intro w
            split <;> simp [hz2]
          generalize hZ : (if len * n = 0 then #[] else z.cells) = Z at hzsz
          obtain ⟨cr, c1, c2, c3⟩ := fill_cells (n := n) pv ((Array.range (len * n)).map (Z[· % Z.size]!)) 0 hsz hpv1 (by simp [hl, hplen])
          have hcrs : cr.size = len * n := by rw [c2]; simp
          have h24' : ¬ (len * n > 2 ^ 24) := by omega
          have hrun : (Instr.buildSlice t len pv.toArray).run P w = .ok (.slice (some (adr w.heap.size 0)) len len) { w with heap := w.heap.push (.cells cr elem) } := by
            by_cases h0 : len * n = 0
            · have hl0 : len = 0 := by
                rcases Nat.mul_eq_zero.1 h0 with h | h
                · exact h
                · exact absurd h hn
              subst hl0
              have hpv0 : pv = [] := List.eq_nil_of_length_eq_zero (by omega)
              subst hpv0
              have hcr : cr = #[] := by
                apply Array.eq_empty_of_size_eq_zero
                rw [hcrs]; simp
              subst hcr
              simp [Instr.buildSlice, run_underlying hu, run_sizeB hs1, Instr.fill, newRow]
              congr 2
              exact Array.eq_empty_of_size_eq_zero (by simp)
            · rw [if_neg h0] at hZ
              subst hZ
              simp only [Instr.buildSlice, Sem.run_bind, run_underlying hu, Result.andThen_ok, run_sizeB hs1, Sem.run_ite, h24', if_false, Sem.run_pure, h0, hz2]
              have c1' : Instr.fill (fun i => some (i * n, n)) ((Array.range (len * n)).map fun x => z.cells[x % z.cells.size]!) pv = some cr := c1
              simp only [c1', newRow, Sem.run_bind, run_newObj, Sem.run_pure, Result.andThen_ok]
          have hB : Blw w { w with heap := w.heap.push (.cells cr elem) } := Blw.push w _
          have S : Step [] E st w E st { w with heap := w.heap.push (.cells cr elem) } := step_grow hB (fun i hi => ⟨hi, rfl⟩) (fun i b h1 h2 => by omega) (fun F f hf => ⟨hf, rfl, rfl⟩) (fun F h1 h2 => by omega)
          refine ⟨_, _, E, hrun, hw.blw hB, ?_, hs.step0 S, seg_blw hB hfl⟩
          have hlen2 : (parts.map (·.2)).length = len := by simp [hplen]
          rw [show Value.slice (some (adr w.heap.size 0)) len len = Value.slice (some (adr w.heap.size 0)) (parts.map (·.2)).length len from by rw [hlen2]]
          have hget : ∀ j, j < len → (parts.map (·.2)).getD j .dead = (parts.getD j (0, .any)).2 := by
            intro j hj
            simp [List.getD_eq_getElem?_getD, (by omega : j < parts.length)]
          have hcell : ∀ j k, j < len → k < n → cr.getD (j * n + k) undef = (pv.getD j (0, undef)).2.cells.getD k undef := by
            intro j k hj hk
            rw [c3, Nat.zero_mul, Nat.zero_add]
            have : (j + 1) * n ≤ pv.length * n := Nat.mul_le_mul_right _ (by omega)
            rw [Nat.add_mul] at this
            rw [if_pos (by omega), (div_mul_add hk).1, (div_mul_add hk).2, Nat.sub_zero]
          refine new_list (c := cr) (ty := elem) (z := (0, 0)) (by omega) (by simp) (by rw [hlen2, hcrs]; exact Nat.le_refl _) ⟨?_, ?_, ?_⟩ (by simp) (by omega) (fun _ => Rd.new hw (Nat.le_refl _)) (by rw [hlen2]; rfl)
          · intro j hj
            rw [hlen2] at hj
            rw [hget j hj]
            obtain ⟨vc, f1, f2⟩ := hflat j (by omega)
            rw [flat_cells f1, f2]
          · intro j k hj hk
            rw [hlen2] at hj
            obtain ⟨vc, f1, f2⟩ := hflat j (by omega)
            rw [hcell j k hj hk]
            exact ((hp j (by omega)).2.flat' f1).2.1 k (by omega)
          · intro j k hj hk
            rw [hlen2] at hj
            obtain ⟨vc, f1, f2⟩ := hflat j (by omega)
            rw [hcell j k hj hk, hget j hj, flat_cells f1]
            exact (((hp j (by omega)).2.flat f1).2 k (by omega)).step0 S
        · simp at h
    | _ => simp [hu] at h
/-- a list of the call's own in a new block -/
theorem own_list {E : Env} {st : St} {w w' : World} {ts : Array Value} {s : List V} {P : Program} {x : Sem Value} {sz cap : Nat} {xs : List V} {c : Array Value} {ty : TypeId} {z : Nat × Nat} (hw : WR E st w)
    (hs : SR E st w ts s) (hfl : st.flo ≤ st.fams.length) (hB : Blw w w') (hrun : x.run P w = .ok (.slice (some (adr w.heap.size 0)) xs.length cap) w') (hrow : w'.heap[w.heap.size]? = some (.cells c ty z))
    (hsz : 0 < sz) (hcap : xs.length ≤ cap) (hc : cap * sz ≤ c.size) (hz : ∀ o, o < c.size → ¬ (z.1 ≤ o ∧ o < z.2)) (hel : ∀ j, j < xs.length → (xs.getD j .dead).cells.length = sz)
    (hone : ∀ j k, j < xs.length → k < sz → (c.getD (j * sz + k) undef).oneCell' = true)
    (hv : ∀ E' st' w', ∀ j k, j < xs.length → k < sz → VR E' st' w' (c.getD (j * sz + k) undef) ((xs.getD j .dead).cells.getD k .dead)) :
    OpR E st w ts x P (.list (.own st.fams.length 0) 0 sz xs) s { st with fams := st.fams ++ [⟨0, xs.length, sz, ty, true⟩] } := by
  have hxc : xs.length * sz ≤ c.size := Nat.le_trans (Nat.mul_le_mul_right _ hcap) hc
  obtain ⟨k1, k2⟩ := new_fam hw hB ⟨0, xs.length, sz, ty, true⟩ w.heap.size (Nat.le_refl _) hfl ⟨_, _, _, hrow, hxc, fun _ => ⟨rfl, fun h => by simp at h, fun o ho _ => hz o ho⟩⟩
  have S : Step [] E st w (E.setFam st.fams.length w.heap.size 0) { st with fams := st.fams ++ [⟨0, xs.length, sz, ty, true⟩] } w' := by
    refine step_grow hB (fun i hi => ⟨hi, rfl⟩) (fun i b h1 h2 => by simp at h2; omega) (fun F g hF => ?_) (fun F h1 h2 => ?_)
    · have hlt : F < st.fams.length := (List.getElem?_eq_some_iff.1 hF).1
      exact ⟨by simp only; rw [List.getElem?_append_left hlt]; exact hF, by simp [Env.setFam, Nat.ne_of_lt hlt], by simp [Env.setFam, Nat.ne_of_lt hlt]⟩
    · have : F = st.fams.length := by simp at h2; omega
      subst this
      simp [Env.setFam]
  have hfamE : (E.setFam st.fams.length w.heap.size 0).fam st.fams.length = w.heap.size := by simp [Env.setFam]
  have hshE : (E.setFam st.fams.length w.heap.size 0).sh st.fams.length = 0 := by simp [Env.setFam]
  have hF : (st.fams ++ [(⟨0, xs.length, sz, ty, true⟩ : Fam)])[st.fams.length]? = some ⟨0, xs.length, sz, ty, true⟩ := by simp
  refine ⟨_, w', _, hrun, k1, ?_, hs.step0 S, k2⟩
  refine new_list hsz hrow hxc ⟨hel, hone, hv _ _ _⟩ (by simp) hcap (fun _ => ?_) ?_
  · refine ⟨fun i hi' he => ?_, fun F g hF' he => ?_⟩
    · have := hw.boxLt hi' he
      simp at this
    · have hFl := (List.getElem?_eq_some_iff.1 hF').1
      have : F = st.fams.length := by
        rcases Nat.lt_or_ge F st.fams.length with h1 | h1
        · have h2 : (E.setFam st.fams.length w.heap.size 0).fam F = E.fam F := by simp [Env.setFam, Nat.ne_of_lt h1]
          rw [h2] at he
          have := hw.famLt (List.getElem?_eq_getElem h1)
          omega
        · simp at hFl; omega
      subst this
      rw [hF] at hF'
      injection hF' with hF'
      subst hF'
      exact ⟨⟨0, rfl⟩, by rw [hshE]; simp⟩
  · refine ⟨_, hF, Nat.le_refl _, fun _ => ⟨hfamE.symm, rfl, fun _ => ⟨by rw [hshE]; simp, rfl⟩, by simp, ?_⟩⟩
    rw [hshE]
    simp only [rowSize, hrow]
    simpa using hc
theorem mapM_bytes : ∀ (xs : List V) (s : List UInt8), xs.mapM byteB = some s → ∃ ns : List Int, xs = ns.map (V.int .u8) ∧ s = ns.map fun n => UInt8.ofNat n.toNat
  | [], s, h => by simp at h; subst h; exact ⟨[], rfl, rfl⟩
  | x :: xs, s, h => by
    rw [List.mapM_cons] at h
    simp only [bind, Option.bind_eq_some_iff, pure, Option.some.injEq] at h
    obtain ⟨b, h1, s', h2, rfl⟩ := h
    obtain ⟨ns, rfl, rfl⟩ := mapM_bytes xs s' h2
    cases x with
    | int k n =>
      cases k <;> simp [byteB] at h1
      subst h1
      exact ⟨n :: ns, rfl, rfl⟩
    | _ => simp [byteB] at h1
theorem foldl_push (ns : List Int) : ∀ acc : ByteArray, (ns.foldl (fun r n => r.push (UInt8.ofNat n.toNat)) acc).data.toList = acc.data.toList ++ ns.map fun n => UInt8.ofNat n.toNat := by
  induction ns with
  | nil => intro acc; simp
  | cons n ns ih => intro acc; rw [List.foldl_cons, ih]; simp [ByteArray.push]
theorem conv_VR {E : Env} {st st' : St} {w : World} {P : Program} {ts : Array Value} {s : List V} {src dst : TypeId} {xv : Value} {x r : V} (hw : WR E st w) (hs : SR E st w ts s) (hfl : st.flo ≤ st.fams.length)
    (hx : VR E st w xv x) (h : convB P src dst x st = some (r, st')) : OpR E st w ts (convert src dst xv) P r s st' := by
  unfold convB at h
  cases hu : P.underlying src with
  | none => simp [hu] at h
  | some du =>
    cases hd : P.underlying dst with
    | none => cases du <;> simp [hu, hd] at h
    | some dd =>
      rw [hu, hd] at h
      cases du with
      | int k0 =>
        cases dd with
        | int k =>
          cases hx <;> simp only [reduceCtorEq, Option.some.injEq, Prod.mk.injEq] at h
          obtain ⟨rfl, rfl⟩ := h
          exact .pure hw hs (by simp [convert, run_underlying hu, run_underlying hd, Conv.intToInt]) (.int _ _)
        | _ => simp at h
      | string =>
        cases dd with
        | string =>
          cases hx <;> simp only [reduceCtorEq, Option.some.injEq, Prod.mk.injEq] at h
          obtain ⟨rfl, rfl⟩ := h
          exact .pure hw hs (by simp [convert, run_underlying hu, run_underlying hd]) (.str _)
        | slice e =>
          cases hx with
          | str b =>
            simp only at h
            cases he : P.underlying e with
            | none => simp [he] at h
            | some de =>
              cases de with
              | int k =>
                cases k <;> simp only [he, reduceCtorEq, Option.some.injEq, Prod.mk.injEq] at h
                obtain ⟨rfl, rfl⟩ := h
                have hrun := Lib.run_convert_string_bytes w src dst e b hu hd he
                have hB : Blw w (Lib.bytesWorld w e b) := ⟨by rw [Lib.bytesWorld_size]; omega, fun j hj => Lib.bytesWorld_at_old w e b j hj, ⟨rfl, rfl⟩⟩
                have hlen : (b.data.toList.map fun x => V.int .u8 x.toNat).length = b.size := by rw [List.length_map]; exact Array.length_toList
                have hlen2 : b.data.toList.length = b.size := Array.length_toList
                have hcs : (Lib.bytesCells w e b).size = b.size + (grownCap w b.size 0 e - b.size) := by
                  simp only [Lib.bytesCells, Array.size_append, Array.size_map, Array.size_replicate]; rfl
                have hcap : b.size ≤ grownCap w b.size 0 e := by simp only [grownCap, Question.cut]; omega
                have hget : ∀ j, j < b.size → (Lib.bytesCells w e b).getD (j * 1 + 0) undef = .int .u8 (b.data.toList.getD j 0).toNat := by
                  intro j hj
                  have := Lib.bytesWorld_cell w e b j hj
                  have h2 : (Lib.bytesWorld w e b).cell? (adr w.heap.size j) = (Lib.bytesCells w e b)[j]? := heap_cell (Lib.bytesWorld_at_new w e b)
                  rw [show (⟨w.heap.size, j, none⟩ : Addr) = adr w.heap.size j from rfl, h2] at this
                  simp [Array.getD_eq_getD_getElem?, this]
                rw [show b.data.toList.length = (b.data.toList.map fun x => V.int .u8 x.toNat).length by simp]
                refine own_list (c := Lib.bytesCells w e b) (cap := grownCap w b.size 0 e) hw hs hfl hB (by rw [hlen]; exact hrun) (Lib.bytesWorld_at_new w e b) (by omega) (by omega) (by omega) (fun o ho => by simp; omega) ?_ ?_ ?_
                · intro j hj
                  rw [hlen] at hj
                  have : (b.data.toList.map fun x => V.int .u8 x.toNat).getD j .dead = .int .u8 (b.data.toList.getD j 0).toNat := by
                    simp [List.getD_eq_getElem?_getD, List.getElem?_eq_getElem (by omega : j < b.data.toList.length)]
                  rw [this]; rfl
                · intro j k hj hk
                  have hk0 : k = 0 := by omega
                  subst hk0
                  rw [hget j (by omega)]; rfl
                · intro E' st' w' j k hj hk
                  have hk0 : k = 0 := by omega
                  subst hk0
                  rw [hlen] at hj
                  rw [hget j hj]
                  have : (b.data.toList.map fun x => V.int .u8 x.toNat).getD j .dead = .int .u8 (b.data.toList.getD j 0).toNat := by
                    simp [List.getD_eq_getElem?_getD, List.getElem?_eq_getElem (by omega : j < b.data.toList.length)]
                  rw [this]
                  exact .int _ _
              | _ => simp [he] at h
          | _ => simp at h
        | _ => simp at h
      | slice e =>
        cases dd with
        | string =>
          cases he : P.underlying e with
          | none => cases hx <;> simp [he] at h
          | some de =>
            cases de with
            | int k =>
              cases hx with
              | nil off sz =>
                cases k <;> simp [he, List.mapM_nil] at h
                obtain ⟨rfl, rfl⟩ := h
                refine .pure hw hs (cv := .string .empty) ?_ ?_
                · rw [run_convert_bytes_string w src dst e none 0 0 hu he hd]
                  simp [Conv.bytesToString]
                · exact .str ByteArray.empty
              | list tk off sz xs a cap vs ht hcap hsp hz hel hcell hrd htok hone hv =>
                cases k <;> simp only [he, reduceCtorEq] at h
                split at h
                · rename_i hsz
                  have hsz1 : sz = 1 := by
                    rcases hsz with rfl | h0
                    · exact absurd rfl ht
                    · exact h0
                  subst hsz1
                  cases hm : xs.mapM byteB with
                  | none => simp [hm] at h
                  | some bs =>
                    simp only [hm, Option.map_some, Option.some.injEq, Prod.mk.injEq] at h
                    obtain ⟨rfl, rfl⟩ := h
                    obtain ⟨ns, rfl, rfl⟩ := mapM_bytes xs bs hm
                    have hlen : (ns.map (V.int .u8)).length = ns.length := by simp
                    have hload : (loadCells a (ns.map (V.int .u8)).length).run P w = .ok (ns.map (Value.int .u8)).toArray w := by
                      rw [hlen]
                      have h1 := run_loadCells (P := P) w a ns.length vs (fun j hj => by
                        have ha : a = adr a.block a.off := by
                          have := hsp (by rw [hlen]; omega)
                          cases a; simp at this; simp [this]
                        rw [ha, adr_add]
                        exact hcell j (by rw [hlen]; omega))
                      rw [h1]
                      congr 2
                      apply List.ext_getElem (by simp)
                      intro j h2 h3
                      have hj : j < ns.length := by simpa using h2
                      have h4 := hv j 0 (by rw [hlen]; exact hj) (by omega)
                      have e1 : (ns.map (V.int .u8)).getD j .dead = .int .u8 ns[j] := by simp [List.getD_eq_getElem?_getD, hj]
                      rw [e1] at h4
                      simp only [V.cells, List.getD_cons_zero] at h4
                      have e2 : j * 1 + 0 = j := by omega
                      rw [e2] at h4
                      have h5 : vs j = .int .u8 ns[j] := by
                        generalize vs j = q at h4
                        cases h4; rfl
                      simp [h5]
                    refine .pure hw hs (cv := .string (ns.foldl (fun r n => r.push (UInt8.ofNat n.toNat)) ByteArray.empty)) ?_ ?_
                    · rw [run_convert_bytes_string w src dst e (some a) _ cap hu he hd]
                      exact run_bytesToString w a _ cap ns hload
                    · have := foldl_push ns ByteArray.empty
                      have e : (ns.map fun n => UInt8.ofNat n.toNat) = (ns.foldl (fun r n => r.push (UInt8.ofNat n.toNat)) ByteArray.empty).data.toList := by rw [this]; simp
                      rw [e]; exact .str _
                · simp at h
              | _ => cases k <;> simp at h
            | _ => cases hx <;> simp [he] at h
        | _ => cases hx <;> simp at h
      | _ => cases dd <;> simp at h
end Go.Abs

namespace Go.Abs
open Go
structure StepR (P : Program) (o : Oper) (a : Act) (E : Env) (st : St) (w : World) (v : V) (s' : List V) (st' : St) : Prop where
  ex : ∃ cv w' E', ((execOp a.eval o).run P w = .ok (.value cv) w' ∨ ((execOp a.eval o).run P w = .ok .skip w' ∧ cv = undef)) ∧ WR E' st' w' ∧ VR E' st' w' cv v ∧ SR E' st' w' a.tmps s' ∧ Seg E st w E' st' w'
section
variable {P : Program} {o : Oper} {a : Act} {E : Env} {st : St} {w : World} {v : V} {s s' : List V} {st' : St}
theorem StepR.of_op {x : Sem Value} (hx : (execOp a.eval o).run P w = (x.run P w).andThen fun v w' => .ok (.value v) w') (h : OpR E st w a.tmps x P v s' st') : StepR P o a E st w v s' st' := by
  obtain ⟨cv, w', E', h1, h2⟩ := h.ex
  exact ⟨cv, w', E', .inl (by rw [hx, h1]; rfl), h2⟩
theorem StepR.of_val {cv : Value} {w' : World} (hw : WR E st w) (hs : SR E st w a.tmps s) (hfl : st.flo ≤ st.fams.length) (hx : (execOp a.eval o).run P w = .ok (.value cv) w) (hv : VR E st w cv v) : StepR P o a E st w v s st :=
  ⟨cv, w, E, .inl hx, hw, hv, hs, .refl _ _ _⟩
theorem evs_VR {E : Env} {st : St} {w : World} {a : Act} {s : List V} (h : SR E st w a.tmps s) (xs : Array Operand) :
    (xs.map a.eval).size = (xs.toList.map (ev s)).length ∧ ∀ k, k < (xs.toList.map (ev s)).length → VR E st w ((xs.map a.eval).getD k undef) ((xs.toList.map (ev s)).getD k .dead) := by
  refine ⟨by simp, fun k hk => ?_⟩
  have hk' : k < xs.size := by simpa using hk
  have e1 : (xs.map a.eval).getD k undef = a.eval xs[k] := by simp [Array.getD_eq_getD_getElem?, Array.getElem?_eq_getElem hk']
  have e2 : (xs.toList.map (ev s)).getD k .dead = ev s xs[k] := by simp [List.getD_eq_getElem?_getD, Array.getElem?_eq_getElem hk']
  rw [e1, e2]
  exact ev_VR h _
theorem parts_VR {E : Env} {st : St} {w : World} {a : Act} {s : List V} (h : SR E st w a.tmps s) (ps : Array (Nat × Operand)) :
    ∃ pv : List (Nat × Value), (ps.map fun (i, x) => (i, a.eval x)) = pv.toArray ∧ pv.length = (ps.toList.map fun p => (p.1, ev s p.2)).length ∧
      ∀ k, k < (ps.toList.map fun p => (p.1, ev s p.2)).length → (pv.getD k (0, undef)).1 = ((ps.toList.map fun p => (p.1, ev s p.2)).getD k (0, .any)).1 ∧
        VR E st w (pv.getD k (0, undef)).2 ((ps.toList.map fun p => (p.1, ev s p.2)).getD k (0, .any)).2 := by
  refine ⟨ps.toList.map fun p => (p.1, a.eval p.2), ?_, by simp, fun k hk => ?_⟩
  · apply Array.ext'; simp
  · have hk' : k < ps.toList.length := by simpa using hk
    have e1 : (ps.toList.map fun p => (p.1, a.eval p.2)).getD k (0, undef) = (ps.toList[k].1, a.eval ps.toList[k].2) := by
      rw [List.getD_eq_getElem?_getD, List.getElem?_map, List.getElem?_eq_getElem hk']; rfl
    have e2 : (ps.toList.map fun p => (p.1, ev s p.2)).getD k (0, .any) = (ps.toList[k].1, ev s ps.toList[k].2) := by
      rw [List.getD_eq_getElem?_getD, List.getElem?_map, List.getElem?_eq_getElem hk']; rfl
    rw [e1, e2]
    exact ⟨rfl, ev_VR h _⟩
theorem opv_VR {E : Env} {st : St} {w : World} {a : Act} {s : List V} (h : SR E st w a.tmps s) (x : Option Operand) : OpV E st w (x.map a.eval) (x.map (ev s)) := by
  cases x with
  | none => exact .none
  | some x => exact .some _ _ (ev_VR h x)
theorem makeSlice_VR {ts : Array Value} {t elem : TypeId} {n m : Int} {by_ q : Nat} {z : V} (hw : WR E st w) (hs : SR E st w ts s) (hfl : st.flo ≤ st.fams.length) (hu : P.underlying t = some (.slice elem))
    (h1 : bytesB P elem = some by_) (h2 : sizeB P elem = some (q + 1)) (h3 : zeroB P elem = some z) (hn0 : 0 ≤ n) (hnm : n ≤ m) (hm : m ≤ 9223372036854775807) (hb : by_ * m ≤ 2 ^ 48)
    (hz : (z.flat.map List.length) = some (q + 1)) :
    OpR E st w ts (Instr.makeSlice t (.int .i64 n) (.int .i64 m)) P (.list (.own st.fams.length 0) 0 (q + 1) (List.replicate n.toNat z)) s { st with fams := st.fams ++ [⟨0, n.toNat, q + 1, elem, true⟩] } := by
  cases hi : P.info? elem with
  | none => simp [sizeB, hi] at h2
  | some i =>
    have e1 : i.size = q + 1 := by simpa [sizeB, hi] using h2
    have e2 : i.bytes = by_ := by simpa [bytesB, hi] using h1
    obtain ⟨zc, hzf, hzl⟩ : ∃ zc, z.flat = some zc ∧ zc.length = q + 1 := by
      cases hf : z.flat with
      | none => rw [hf] at hz; simp at hz
      | some zc => rw [hf] at hz; exact ⟨zc, rfl, by simpa using hz⟩
    unfold zeroB at h3
    rw [hi] at h3
    simp only [Option.bind_some] at h3
    cases hiz : i.zero with
    | none => rw [hiz] at h3; simp at h3
    | some zv =>
      rw [hiz] at h3
      simp only [Option.map_some, Option.some.injEq] at h3
      have hrun := run_make (P := P) w t elem i zv hu hi hiz .i64 .i64 n m hn0 hnm (by rw [e2]; omega) hm
      have hzVR : ∀ E' st' w', VR E' st' w' zv z := fun E' st' w' => by rw [← h3]; exact ofVal_VR E' st' w' 3 zv
      have hzs : zv.cells.size = q + 1 := by rw [← hzl]; exact ((hzVR E st w).flat hzf).1
      have hlen : (List.replicate n.toNat z).length = n.toNat := by simp
      have hcell : ∀ j k, j < n.toNat → k < q + 1 → (madeCells zv.cells (m.toNat * i.size)).getD (j * (q + 1) + k) undef = zv.cells.getD k undef := by
        intro j k hj hk
        have hlt : j * (q + 1) + k < m.toNat * i.size := by
          rw [e1]
          have : (j + 1) * (q + 1) ≤ m.toNat * (q + 1) := Nat.mul_le_mul_right _ (by omega)
          rw [Nat.add_mul] at this; omega
        have hmod : (j * (q + 1) + k) % zv.cells.size = k := by rw [hzs]; exact (div_mul_add hk).2
        have hks : k < zv.cells.size := by omega
        simp [madeCells, Array.getD_eq_getD_getElem?, hlt, hmod, hks]
      rw [show (⟨0, n.toNat, q + 1, elem, true⟩ : Fam) = ⟨0, (List.replicate n.toNat z).length, q + 1, elem, true⟩ from by rw [hlen]]
      refine own_list (w' := w.alloc (.cells (madeCells zv.cells (m.toNat * i.size)) elem)) (c := madeCells zv.cells (m.toNat * i.size)) (cap := m.toNat) hw hs hfl (Blw.push w _) (by rw [hlen]; exact hrun)
        (ty := elem) (z := (0, 0)) (by simp [World.alloc, -World.alloc_eq]) (by omega) (by rw [hlen]; omega) (by rw [size_madeCells, e1]; exact Nat.le_refl _) (by simp) ?_ ?_ ?_
      · intro j hj
        rw [hlen] at hj
        have : (List.replicate n.toNat z).getD j .dead = z := by simp [List.getD_eq_getElem?_getD, hj]
        rw [this, flat_cells hzf]; exact hzl
      · intro j k hj hk
        rw [hlen] at hj
        rw [hcell j k hj hk]
        exact ((hzVR E st w).flat' hzf).2.1 k (by omega)
      · intro E' st' w' j k hj hk
        rw [hlen] at hj
        have : (List.replicate n.toNat z).getD j .dead = z := by simp [List.getD_eq_getElem?_getD, hj]
        rw [hcell j k hj hk, this, flat_cells hzf]
        exact ((hzVR E' st' w').flat hzf).2 k (by omega)
/-- a new variable -/
theorem newBox_VR {t : TypeId} {x : Value} {d : V} {cs : List V} (hw : WR E st w) (hs : SR E st w a.tmps s) (hfl : st.flo ≤ st.fams.length) (hx : VR E st w x d) (hf : d.flat = some cs) :
    OpR E st w a.tmps (do pure (.pointer (some (← newVar t x)))) P (.ptr st.heap.length 0) s { st with heap := st.heap ++ [.cells t cs] } := by
  obtain ⟨g1, g0, g2⟩ := hx.flat' hf
  have hB : Blw w { w with heap := w.heap.push (.cells x.cells t) } := Blw.push w _
  obtain ⟨k1, k2⟩ := new_box hw hB (.cells t cs) w.heap.size (Nat.le_refl _) hfl (fun E' st' S => ⟨x.cells, by simp, g1, g0, fun k hk => (g2 k hk).step0 S⟩)
  have S : Step [] E st w (E.addBox st.heap.length w.heap.size) { st with heap := st.heap ++ [.cells t cs] } { w with heap := w.heap.push (.cells x.cells t) } := by
    refine step_grow hB (fun i hi => ⟨by simp; omega, by simp [Env.addBox, Nat.ne_of_lt hi]⟩) (fun i b h1 h2 h3 => ?_) (fun F f hf => ⟨hf, rfl, rfl⟩) (fun F h1 h2 => by simp at h2; omega)
    have : i = st.heap.length := by simp at h2; omega
    subst this
    simp [Env.addBox] at h3
    omega
  refine ⟨.pointer (some (adr w.heap.size 0)), _, _, by simp [newVar, newRow], k1, .ptr _ _ _ (by simp) (by simp [Env.addBox]), hs.step0 S, k2⟩
end
end Go.Abs

namespace Go.Abs
open Go
/-- entries go together -/
inductive EntR (E : Env) (st : St) (w : World) : List MapEntry → List (V × V) → Prop
  | nil : EntR E st w [] []
  | cons {e : MapEntry} {p : V × V} {es : List MapEntry} {ps : List (V × V)} : VR E st w e.key p.1 → VR E st w e.val p.2 → EntR E st w es ps → EntR E st w (e :: es) (p :: ps)
section
variable {E : Env} {st : St} {w : World}
theorem EntR.of : ∀ {es : List MapEntry} {ps : List (V × V)}, es.length = ps.length →
    (∀ k, k < ps.length → VR E st w (es.getD k default).key (ps.getD k (.dead, .dead)).1 ∧ VR E st w (es.getD k default).val (ps.getD k (.dead, .dead)).2) → EntR E st w es ps
  | [], [], _, _ => .nil
  | [], _ :: _, h, _ => by simp at h
  | _ :: _, [], h, _ => by simp at h
  | e :: es, p :: ps, h, hv => by
    have h0 := hv 0 (by simp)
    refine .cons (by simpa using h0.1) (by simpa using h0.2) (EntR.of (by simpa using h) fun k hk => ?_)
    have := hv (k + 1) (by simp; omega)
    simpa using this
theorem EntR.to {es : List MapEntry} {ps : List (V × V)} (h : EntR E st w es ps) : es.length = ps.length ∧
    ∀ k, k < ps.length → VR E st w (es.getD k default).key (ps.getD k (.dead, .dead)).1 ∧ VR E st w (es.getD k default).val (ps.getD k (.dead, .dead)).2 := by
  induction h with
  | nil => exact ⟨rfl, fun k hk => by simp at hk⟩
  | cons h1 h2 _ ih =>
    refine ⟨by simp [ih.1], fun k hk => ?_⟩
    cases k with
    | zero => simpa using ⟨h1, h2⟩
    | succ k => simpa using ih.2 k (by simpa using hk)
theorem EntR.mono {E' : Env} {st' : St} {w' : World} (S : Step [] E st w E' st' w') {es : List MapEntry} {ps : List (V × V)} (h : EntR E st w es ps) : EntR E' st' w' es ps := by
  induction h with
  | nil => exact .nil
  | cons h1 h2 _ ih => exact .cons (h1.step0 S) (h2.step0 S) ih
theorem EntR.snoc {es : List MapEntry} {ps : List (V × V)} (h : EntR E st w es ps) {e : MapEntry} {p : V × V} (h1 : VR E st w e.key p.1) (h2 : VR E st w e.val p.2) : EntR E st w (es ++ [e]) (ps ++ [p]) := by
  induction h with
  | nil => exact .cons h1 h2 .nil
  | cons a b _ ih => exact .cons a b ih
theorem VR.two {a b : Value} {x y : V} (h1 : VR E st w a x) (h2 : VR E st w b y) : VR E st w (.tuple #[a, b]) (.tup [x, y]) :=
  .tup _ _ rfl fun k hk => by
    match k with
    | 0 => simpa using h1
    | 1 => simpa using h2
    | k + 2 => simp at hk; omega
/-- keys that are compared at once -/
inductive KeyR : TypeDesc → Value → V → Prop
  | int (k : IntKind) (n : Int) : KeyR (.int k) (.int k n) (.int k n)
  | str (s : ByteArray) : KeyR .string (.string s) (.str s.data.toList)
end
section
variable {P : Program} {E : Env} {st : St} {w : World}
theorem keyB_VR {kt : TypeId} {kv : Value} {k : V} (hk : VR E st w kv k) (h : keyB P kt k = true) : ∃ d, P.underlying kt = some d ∧ KeyR d kv k := by
  cases hk <;> simp only [keyB, Bool.false_eq_true] at h
  · split at h
    · rename_i k0 _ _ k' hu
      have h' := eq_of_beq h
      subst h'
      exact ⟨_, hu, .int _ _⟩
    · simp at h
  · split at h
    · rename_i hu
      exact ⟨_, hu, .str _⟩
    · simp at h
theorem KeyR.isKey {d : TypeDesc} {kv : Value} {k : V} (h : KeyR d kv k) : MapKept.IsKey d kv := by
  cases h <;> simp [MapKept.IsKey]
theorem KeyR.same {d : TypeDesc} {kv kv' : Value} {k k' : V} {b : Bool} (h : KeyR d kv k) (hv : VR E st w kv' k') (hs : sameB k k' = some b) :
    Instr.sameNow d kv kv' = some b ∧ (b = true → Instr.sameBits 10000 kv' kv = true) := by
  cases h with
  | int k n => cases hv with
    | int k' n' =>
      simp only [sameB] at hs
      split at hs
      · rename_i hk
        subst hk
        injection hs with hs
        subst hs
        refine ⟨by simp [Instr.sameNow], fun hb => ?_⟩
        have : n = n' := by simpa using hb
        subst this
        simp [Instr.sameBits]
      · simp at hs
    | _ => simp [sameB] at hs
  | str s => cases hv with
    | str s' =>
      simp only [sameB] at hs
      injection hs with hs
      subst hs
      have e : (s == s') = (s.data.toList == s'.data.toList) := beq_bytes s s'
      refine ⟨by simp [Instr.sameNow, e], fun hb => ?_⟩
      have : s = s' := by
        have : s.data.toList = s'.data.toList := by simpa using hb
        exact ByteArray.ext (Array.toList_inj.1 this)
      subst this
      simp only [Instr.sameBits]
      rw [e]; simp
    | _ => simp [sameB] at hs
theorem EntR.find {d : TypeDesc} {kv : Value} {k : V} (hK : KeyR d kv k) {es : List MapEntry} {ps : List (V × V)} (h : EntR E st w es ps) : ∀ {r : Option V} (i : Nat), findK k ps = some r →
    (r = none ∧ Instr.findNow d kv es i = some none ∧ ∀ v, putK k v ps = some (ps ++ [(k, v)])) ∨
    (∃ x j cv, r = some x ∧ j < es.length ∧ Instr.findNow d kv es i = some (some (i + j, cv)) ∧ VR E st w cv x ∧ (∀ v, putK k v ps = some (ps.set j (k, v))) ∧ Instr.sameBits 10000 (es.getD j default).key kv = true) := by
  induction h with
  | nil =>
    intro r i h
    simp only [findK, Option.some.injEq] at h
    subst h
    exact .inl ⟨rfl, rfl, fun v => rfl⟩
  | @cons e p es ps h1 h2 h3 ih =>
    intro r i h
    simp only [findK] at h
    cases hs : sameB k p.1 with
    | none => rw [hs] at h; simp at h
    | some b =>
      rw [hs] at h
      obtain ⟨g1, g2⟩ := hK.same h1 hs
      cases b with
      | true =>
        simp only [Option.some.injEq] at h
        subst h
        exact .inr ⟨p.2, 0, e.val, rfl, by simp, by simp [Instr.findNow, g1], h2, fun v => by simp [putK, hs], by simpa using g2 rfl⟩
      | false =>
        rcases ih (i + 1) h with ⟨a1, a2, a3⟩ | ⟨x, j, cv, a1, a2, a3, a4, a5, a6⟩
        · exact .inl ⟨a1, by simp [Instr.findNow, g1, a2], fun v => by simp [putK, hs, a3]⟩
        · exact .inr ⟨x, j + 1, cv, a1, by simpa using a2, by simp [Instr.findNow, g1, a3, Nat.add_assoc, Nat.add_comm 1 j], a4, fun v => by simp [putK, hs, a5], by simpa using a6⟩
theorem put_find {k v : V} : ∀ {ps es : List (V × V)}, putK k v ps = some es → ∃ r, findK k ps = some r
  | [], _, _ => ⟨none, rfl⟩
  | p :: ps, es, h => by
    simp only [putK] at h
    simp only [findK]
    cases hs : sameB k p.1 with
    | none => rw [hs] at h; simp at h
    | some b =>
      rw [hs] at h
      cases b with
      | true => exact ⟨_, rfl⟩
      | false =>
        simp only [Option.map_eq_some_iff] at h
        obtain ⟨es', h, _⟩ := h
        exact put_find h
theorem lookup_VR {t : TypeId} {m k : V} {mv kv : Value} {ok : Bool} {d : V} (hw : WR E st w) (hm : VR E st w mv m) (hk : VR E st w kv k) (h : lookupK P st t m k ok = some d) :
    ∃ v, (Instr.lookup t mv kv ok).run P w = .ok v w ∧ VR E st w v d := by
  unfold lookupK at h
  cases hu : P.underlying t with
  | none => rw [hu] at h; simp at h
  | some td =>
    rw [hu] at h
    cases td with
    | map kt et =>
      simp only at h
      split at h
      · rename_i hkb
        obtain ⟨dk, hd, hK⟩ := keyB_VR hk hkb
        have fin : ∀ (es : List MapEntry) (ps : List (V × V)), EntR E st w es ps →
            (match findK k ps with
              | some (some v) => some (if ok then V.tup [v, .bool true] else v)
              | some none => (zeroB P et).map fun z => if ok then V.tup [z, .bool false] else z
              | none => none) = some d →
            (∃ j cv, (Instr.findKey kt kv es).run P w = .ok (some (j, cv)) w ∧ VR E st w (if ok then .tuple #[cv, .bool true] else cv) d) ∨
            (∃ cz, (Instr.findKey kt kv es).run P w = .ok none w ∧ (zeroValue et).run P w = .ok cz w ∧ VR E st w (if ok then .tuple #[cz, .bool false] else cz) d) := by
          intro es ps hE h
          cases hf : findK k ps with
          | none => rw [hf] at h; simp at h
          | some r =>
            rw [hf] at h
            rcases hE.find hK 0 hf with ⟨rfl, a2, _⟩ | ⟨x, j, cv, rfl, a2, a3, a4, _⟩
            · simp only [Option.map_eq_some_iff] at h
              obtain ⟨z, hz, rfl⟩ := h
              obtain ⟨cz, hz1, hz2⟩ := zeroB_some hz
              have hzv : VR E st w cz z := by rw [hz1]; exact ofVal_VR E st w 3 cz
              refine .inr ⟨cz, MapKept.run_findKey hd a2, hz2 w, ?_⟩
              cases ok
              · simpa using hzv
              · exact VR.two hzv (.bool false)
            · simp only [Option.some.injEq] at h
              subst h
              refine .inl ⟨_, cv, MapKept.run_findKey hd a3, ?_⟩
              cases ok
              · simpa using a4
              · exact VR.two a4 (.bool true)
        cases hm with
        | nilm =>
          simp only [entriesB] at h
          rcases fin [] [] .nil h with ⟨j, cv, f1, f2⟩ | ⟨cz, f1, f3, f2⟩
          · exact ⟨_, by simp [Instr.lookup, run_underlying hu, MapKept.run_checkKey hd hK.isKey, Result.andThen, f1], f2⟩
          · exact ⟨_, by simp [Instr.lookup, run_underlying hu, MapKept.run_checkKey hd hK.isKey, Result.andThen, f1, f3], f2⟩
        | mapr i b hi hb =>
          simp only [entriesB] at h
          have hbx := List.getElem?_eq_getElem hi
          rw [hbx] at h
          cases hx : st.heap[i] with
          | cells ty cs => rw [hx] at h; simp at h
          | mapo ps =>
            rw [hx] at h hbx
            simp only at h
            obtain ⟨ents, clock, g1, g2, g3⟩ := hw.box i _ b hbx hb
            have hE : EntR E st w ents.toList ps := EntR.of (by simpa using g2) (fun j hj => by simpa [List.getD_eq_getElem?_getD, Array.getD_eq_getD_getElem?] using g3 j hj)
            rcases fin ents.toList ps hE h with ⟨j, cv, f1, f2⟩ | ⟨cz, f1, f3, f2⟩
            · exact ⟨_, by simp [Instr.lookup, run_underlying hu, MapKept.run_getObj_map g1, MapKept.run_checkKey hd hK.isKey, Result.andThen, f1], f2⟩
            · exact ⟨_, by simp [Instr.lookup, run_underlying hu, MapKept.run_getObj_map g1, MapKept.run_checkKey hd hK.isKey, Result.andThen, f1, f3], f2⟩
        | _ => simp [entriesB] at h
      · simp at h
    | _ => simp at h
theorem makeMap_VR {ts : Array Value} {s : List V} {t : TypeId} (hw : WR E st w) (hs : SR E st w ts s) (hfl : st.flo ≤ st.fams.length) :
    OpR E st w ts (Instr.makeMap t none) P (.mapr st.heap.length) s { st with heap := st.heap ++ [.mapo []] } := by
  have hB : Blw w { w with heap := w.heap.push (.map #[] 0) } := Blw.push w _
  obtain ⟨k1, k2⟩ := new_box hw hB (.mapo []) w.heap.size (Nat.le_refl _) hfl (fun E' st' S => ⟨#[], 0, by simp, rfl, fun k hk => by simp at hk⟩)
  have S : Step [] E st w (E.addBox st.heap.length w.heap.size) { st with heap := st.heap ++ [.mapo []] } { w with heap := w.heap.push (.map #[] 0) } := by
    refine step_grow hB (fun i hi => ⟨by simp; omega, by simp [Env.addBox, Nat.ne_of_lt hi]⟩) (fun i b h1 h2 h3 => ?_) (fun F f hf => ⟨hf, rfl, rfl⟩) (fun F h1 h2 => by simp at h2; omega)
    have : i = st.heap.length := by simp at h2; omega
    subst this
    simp [Env.addBox] at h3
    omega
  exact ⟨.map (some w.heap.size), _, _, rfl, k1, .mapr _ _ (by simp) (by simp [Env.addBox]), hs.step0 S, k2⟩
theorem update_VR {ts : Array Value} {s : List V} {t : TypeId} {m k x : V} {mv kv xv : Value} {st' : St} (hw : WR E st w) (hs : SR E st w ts s) (hm : VR E st w mv m) (hk : VR E st w kv k) (hx : VR E st w xv x)
    (h : updateK P st t m k x = some st') : ∃ w', (Instr.mapUpdate t mv kv xv).run P w = .ok () w' ∧ WR E st' w' ∧ SR E st' w' ts s ∧ Seg E st w E st' w' := by
  unfold updateK at h
  cases hu : P.underlying t with
  | none => rw [hu] at h; simp at h
  | some td =>
    rw [hu] at h
    cases td with
    | map kt et =>
      cases hm with
      | mapr i b hi hb =>
        simp only at h
        split at h
        · rename_i hkb
          obtain ⟨dk, hd, hK⟩ := keyB_VR hk hkb
          have hbx := List.getElem?_eq_getElem hi
          rw [hbx] at h
          cases hx' : st.heap[i] with
          | cells ty cs => rw [hx'] at h; simp at h
          | mapo ps =>
            rw [hx'] at h hbx
            simp only at h
            cases hp : putK k x ps with
            | none => rw [hp] at h; simp at h
            | some ps' =>
              rw [hp] at h
              simp only [setMapB] at h
              split at h
              · rename_i hlo
                simp only [Option.some.injEq] at h
                subst h
                obtain ⟨ents, clock, g1, g2, g3⟩ := hw.box i _ b hbx hb
                have hE : EntR E st w ents.toList ps := EntR.of (by simpa using g2) (fun j hj => by simpa [List.getD_eq_getElem?_getD, Array.getD_eq_getD_getElem?] using g3 j hj)
                have hbs : b < w.heap.size := (Array.getElem?_eq_some_iff.1 g1).1
                have fin : ∀ (ents' : Array MapEntry) (clock' : Nat), EntR E st w ents'.toList ps' →
                    WR E { st with heap := st.heap.set i (.mapo ps') } { w with heap := w.heap.setIfInBounds b (.map ents' clock') } ∧ SR E { st with heap := st.heap.set i (.mapo ps') } { w with heap := w.heap.setIfInBounds b (.map ents' clock') } ts s ∧
                      Seg E st w E { st with heap := st.heap.set i (.mapo ps') } { w with heap := w.heap.setIfInBounds b (.map ents' clock') } := by
                  intro ents' clock' hE'
                  have hO : Only b w { w with heap := w.heap.setIfInBounds b (.map ents' clock') } := ⟨by simp, fun r hr => by simp [Ne.symm hr], ⟨rfl, rfl⟩⟩
                  obtain ⟨q1, q2⟩ := write_box hw hlo hi hb hO (.mapo ps') (fun S => by
                    obtain ⟨z1, z2⟩ := (hE'.mono S).to
                    refine ⟨ents', clock', by simp [hbs], by simpa using z1, fun j hj => ?_⟩
                    simpa [List.getD_eq_getElem?_getD, Array.getD_eq_getD_getElem?] using z2 j hj)
                  exact ⟨q1, hs.step0 (step_box hw hi hb hO (by simp) rfl), q2⟩
                obtain ⟨r, hf⟩ := put_find hp
                rcases hE.find hK 0 hf with ⟨rfl, a2, a3⟩ | ⟨y, j, cv, rfl, a2, a3, a4, a5, a6⟩
                · rw [a3 x] at hp
                  injection hp with hp
                  subst hp
                  obtain ⟨q1, q2, q3⟩ := fin (ents.push { key := kv, val := xv, born := clock }) (clock + 1) (by simpa using hE.snoc hk hx)
                  refine ⟨_, ?_, q1, q2, q3⟩
                  simp [Instr.mapUpdate, run_underlying hu, MapKept.run_getObj_map g1, MapKept.run_checkKey hd hK.isKey, MapKept.run_findKey hd a2, MapKept.run_setObj_map _ g1, Result.andThen]
                · rw [a5 x] at hp
                  injection hp with hp
                  subst hp
                  have hj : j < ents.size := by simpa using a2
                  obtain ⟨q1, q2, q3⟩ := fin (ents.modify j fun e => { e with key := kv, val := xv }) clock (by
                    refine EntR.of (by simp [g2]) (fun l hl => ?_)
                    have hl' : l < ps.length := by simpa using hl
                    have hle : l < ents.size := by rw [g2]; exact hl'
                    have := g3 l hl'
                    by_cases hlj : j = l
                    · subst hlj
                      simp [List.getD_eq_getElem?_getD, Array.getElem?_modify, hl', hle, hk, hx]
                    · simpa [List.getD_eq_getElem?_getD, Array.getD_eq_getD_getElem?, Array.getElem?_modify, hlj, List.getElem?_set_ne hlj] using this)
                  refine ⟨_, ?_, q1, q2, q3⟩
                  have e6 : Instr.sameBits 10000 (((ents[j]?).map (·.key)).getD kv) kv = true := by
                    rw [Array.getElem?_eq_getElem hj]
                    simpa [List.getD_eq_getElem?_getD, hj] using a6
                  simp [Instr.mapUpdate, run_underlying hu, MapKept.run_getObj_map g1, MapKept.run_checkKey hd hK.isKey, MapKept.run_findKey hd a3, MapKept.run_setObj_map _ g1, Result.andThen, Instr.keyThatStays]
                  rw [if_pos e6]
                  simp [MapKept.run_setObj_map _ g1]
              · simp at h
        · simp at h
      | _ => simp at h
    | _ => simp at h
end
end Go.Abs

namespace Go.Abs
open Go
theorem zapL_get {α : Type} (e : α) (a i : Nat) : ∀ (k : Nat) (l : List α), a + k ≤ i → (zapL e a k l)[i]? = l[i]?
  | 0, l, _ => rfl
  | k + 1, l, h => by rw [zapL, List.getElem?_set_ne (by omega), zapL_get e a i k l (by omega)]
mutual
/-- what has nothing of a list stays -/
theorem free_upd {F ep m : Nat} {e : V} : ∀ {v : V}, v.free F = true → V.upd F ep m e v = v
  | .list t off sz xs, h => by
    cases t with
    | own F' ep' =>
      simp only [V.free, Bool.and_eq_true, bne_iff_ne, ne_eq] at h
      simp [V.upd, h.1, frees_upd h.2]
    | _ => simp only [V.free, Bool.true_and] at h; simp [V.upd, frees_upd h]
  | .agg cs, h => by simp only [V.free] at h; simp [V.upd, frees_upd h]
  | .tup cs, h => by simp only [V.free] at h; simp [V.upd, frees_upd h]
  | .eptr t idx off e0, h => by
    cases t with
    | own F' ep' =>
      simp only [V.free, Bool.and_eq_true, bne_iff_ne, ne_eq] at h
      simp [V.upd, h.1, free_upd h.2]
    | _ => simp only [V.free, Bool.true_and] at h; simp [V.upd, free_upd h]
  | .func fn a b, h => by simp only [V.free, Bool.and_eq_true] at h; simp [V.upd, frees_upd h.1, frees_upd h.2]
  | .iface t v, h => by simp only [V.free] at h; simp [V.upd, free_upd h]
  | .int .., h => by simp [V.upd]
  | .bool .., h => by simp [V.upd]
  | .str .., h => by simp [V.upd]
  | .ptr .., h => by simp [V.upd]
  | .nilp, h => by simp [V.upd]
  | .nilf, h => by simp [V.upd]
  | .nili, h => by simp [V.upd]
  | .mapr .., h => by simp [V.upd]
  | .nilm, h => by simp [V.upd]
  | .any, h => by simp [V.upd]
  | .dead, h => by simp [V.upd]
theorem frees_upd {F ep m : Nat} {e : V} : ∀ {v : List V}, V.frees F v = true → V.upds F ep m e v = v
  | [], h => by simp [V.upds]
  | v :: vs, h => by simp only [V.frees, Bool.and_eq_true] at h; simp [V.upds, free_upd h.1, frees_upd h.2]
end
theorem frees_set {F : Nat} {e : V} (he : e.free F = true) : ∀ {l : List V} (n : Nat), V.frees F l = true → V.frees F (l.set n e) = true
  | [], n, h => by simpa using h
  | v :: l, 0, h => by simp only [V.frees, Bool.and_eq_true] at h; simp [V.frees, he, h.2]
  | v :: l, n + 1, h => by simp only [V.frees, Bool.and_eq_true] at h; simp [V.frees, h.1, frees_set he n h.2]
theorem zap_list {F ep off q : Nat} {e : V} {xs : List V} (he : e.free F = true) (hx : V.frees F xs = true) : ∀ k, zapV F ep e off k (.list (.own F ep) off q xs) = .list (.own F ep) off q (zapL e 0 k xs) ∧ V.frees F (zapL e 0 k xs) = true
  | 0 => ⟨rfl, hx⟩
  | k + 1 => by
    obtain ⟨h1, h2⟩ := zap_list he hx k
    refine ⟨?_, frees_set he _ h2⟩
    rw [zapV, h1, zapL]
    simp [V.upd, frees_upd h2]
theorem zapVs_map (F ep : Nat) (e : V) (a : Nat) : ∀ (k : Nat) (l : List V), zapVs F ep e a k l = l.map (zapV F ep e a k)
  | 0, l => by simp [zapVs, zapV]
  | k + 1, l => by simp [zapVs, zapVs_map F ep e a k l, upds_map, zapV]
section
variable {P : Program} {E : Env} {st st' : St} {w : World} {s s' : List V}
theorem storeCells_append (a : Addr) (l2 : List Value) : ∀ (l1 : List Value) (i : Nat) (w : World), (storeCells a (l1 ++ l2) i).run P w = ((storeCells a l1 i).run P w).andThen fun _ w' => (storeCells a l2 (i + l1.length)).run P w'
  | [], i, w => by simp [storeCells]
  | v :: l1, i, w => by
    simp only [List.cons_append, storeCells, Sem.run_bind]
    cases (store (a.add i) v).run P w with
    | ok u w1 =>
      simp only [Result.andThen_ok]
      rw [storeCells_append a l2 l1 (i + 1) w1]
      simp only [List.length_cons, Nat.add_assoc, Nat.add_comm 1]
    | halt h w1 => simp [Result.andThen]
theorem storeCells_add (a : Addr) (j : Nat) (h : ∀ i, (a.add j).add i = a.add (j + i)) : ∀ (l : List Value) (i : Nat), storeCells (a.add j) l i = storeCells a l (j + i)
  | [], i => rfl
  | v :: l, i => by
    simp only [storeCells, h]
    rw [storeCells_add a j h l (i + 1)]
    rfl
theorem SR.push {ts : Array Value} {xv : Value} {x : V} (hs : SR E st w ts s) (hx : VR E st w xv x) : SR E st w (ts.push xv) (s ++ [x]) := by
  refine ⟨by simp [hs.size], fun i hi => ?_⟩
  rcases Nat.lt_or_ge i s.length with h | h
  · have e1 : (ts.push xv).getD i undef = ts.getD i undef := by
      have : i < ts.size := by rw [hs.size]; exact h
      simp [Array.getD_eq_getD_getElem?, Array.getElem?_push, Nat.ne_of_lt this]
    have e2 : (s ++ [x]).getD i .any = s.getD i .any := by simp [List.getD_eq_getElem?_getD, List.getElem?_append_left h]
    rw [e1, e2]
    exact hs.val i h
  · have hi' : i = s.length := by simp at hi; omega
    subst hi'
    have e1 : (ts.push xv).getD s.length undef = xv := by rw [← hs.size]; simp [Array.getD_eq_getD_getElem?]
    have e2 : (s ++ [x]).getD s.length .any = x := by simp [List.getD_eq_getElem?_getD]
    rw [e1, e2]
    exact hx
theorem SR.pop {ts : Array Value} {xv : Value} {x : V} (hs : SR E st w (ts.push xv) (s ++ [x])) (hl : ts.size = s.length) : SR E st w ts s ∧ VR E st w xv x := by
  refine ⟨⟨hl, fun i hi => ?_⟩, ?_⟩
  · have := hs.val i (by simp; omega)
    have e1 : (ts.push xv).getD i undef = ts.getD i undef := by
      have : i < ts.size := by omega
      simp [Array.getD_eq_getD_getElem?, Array.getElem?_push, Nat.ne_of_lt this]
    have e2 : (s ++ [x]).getD i .any = s.getD i .any := by simp [List.getD_eq_getElem?_getD, List.getElem?_append_left hi]
    rw [e1, e2] at this
    exact this
  · have := hs.val s.length (by simp)
    have e1 : (ts.push xv).getD s.length undef = xv := by rw [← hl]; simp [Array.getD_eq_getD_getElem?]
    have e2 : (s ++ [x]).getD s.length .any = x := by simp [List.getD_eq_getElem?_getD]
    rw [e1, e2] at this
    exact this
theorem zapVs_len (F ep a : Nat) (e : V) (k : Nat) (l : List V) : (zapVs F ep e a k l).length = l.length := by rw [zapVs_map, List.length_map]
theorem take_zeros (zc : Array Value) (n k : Nat) (h0 : 0 < zc.size) (hk : k < n) :
    (Builtin.zeroCells zc n).toList.take ((k + 1) * zc.size) = (Builtin.zeroCells zc n).toList.take (k * zc.size) ++ zc.toList := by
  have hl : (Builtin.zeroCells zc n).toList.length = n * zc.size := by simp [Builtin.zeroCells]
  have h1 : (k + 1) * zc.size ≤ n * zc.size := Nat.mul_le_mul_right _ hk
  rw [Nat.add_mul, Nat.one_mul] at h1
  have hg : ∀ i (h : i < (Builtin.zeroCells zc n).toList.length), (Builtin.zeroCells zc n).toList[i] = zc[i % zc.size]! := by
    intro i h
    simp [Builtin.zeroCells]
  apply List.ext_getElem
  · simp only [List.length_take, List.length_append, hl, Nat.add_mul, Nat.one_mul, Array.length_toList]
    omega
  · intro i a b
    have hi : i < k * zc.size + zc.size := by simp only [List.length_take, hl, Nat.add_mul, Nat.one_mul] at a; omega
    rw [List.getElem_take, hg, List.getElem_append]
    split
    · rw [List.getElem_take, hg]
    · rename_i hc
      have hc' : k * zc.size ≤ i := by simp only [List.length_take, hl] at hc; omega
      have e : i % zc.size = i - k * zc.size := by
        obtain ⟨j, rfl⟩ : ∃ j, i = j + k * zc.size := ⟨i - k * zc.size, by omega⟩
        rw [Nat.add_mul_mod_self_right, Nat.mod_eq_of_lt (by omega), Nat.add_sub_cancel]
      have hm : min (k * zc.size) (Builtin.zeroCells zc n).toList.length = k * zc.size := by rw [hl]; omega
      rw [e]
      have hlt : i - k * zc.size < zc.size := by omega
      simp only [List.length_take, hm]
      simp [getElem!_pos, hlt]
theorem re_zero {e z : V} {ec zc : List V} (h1 : e.flat = some ec) (h2 : z.flat = some zc) (ha : aggV e = aggV z) (hl : ec.length = zc.length) : reElem e (splice ec 0 zc) = z := by
  cases e with
  | agg cs =>
    simp only [V.flat, Option.some.injEq] at h1
    subst h1
    cases z with
    | agg zs =>
      simp only [V.flat, Option.some.injEq] at h2
      subst h2
      simp [reElem, splice, hl]
    | _ => simp [aggV] at ha
  | any => simp [V.flat] at h1
  | tup => simp [V.flat] at h1
  | _ =>
    cases z with
    | agg zs => simp [aggV] at ha
    | any => simp [V.flat] at h2
    | tup => simp [V.flat] at h2
    | _ =>
      simp only [V.flat, Option.some.injEq] at h1 h2
      subst h1 h2
      rfl
theorem clear_VR {t ty : TypeId} {x : V} {xv : Value} {ts : Array Value} {tys : Array TypeId} (ht : tys[0]? = some t) (hw : WR E st w) (hs : SR E st w ts s) (hfl : st.flo ≤ st.fams.length) (hx : VR E st w xv x) (h : clearB P t x s st = some (s', st')) :
    ∃ w' E', (Builtin.clear_ tys ty #[xv]).run P w = .ok (.tuple #[]) w' ∧ WR E' st' w' ∧ SR E' st' w' ts s' ∧ Seg E st w E' st' w' := by
  unfold clearB at h
  split at h
  · rename_i elem tk off sz hu
    simp only [Option.some.injEq, Prod.mk.injEq] at h
    obtain ⟨rfl, rfl⟩ := h
    refine ⟨w, E, ?_, hw, hs, .refl _ _ _⟩
    cases hx with
    | nil => simp [Builtin.clear_, ht, run_underlying hu]
    | list => simp [Builtin.clear_, ht, run_underlying hu]
  · rename_i elem F ep off sz y ys hu
    split at h
    rotate_left
    · simp at h
    rename_i z g hz hg
    split at h
    rotate_left
    · simp at h
    rename_i zc hzf
    split at h
    rotate_left
    · simp at h
    rename_i hc
    obtain ⟨hsz, hzl, hflo, hep, hwr, hzfree, hall⟩ := hc
    simp only [Option.some.injEq, Prod.mk.injEq] at h
    obtain ⟨rfl, rfl⟩ := h
    subst hep
    generalize hxs : y :: ys = xs at hx hall
    have hn : ys.length + 1 = xs.length := by rw [← hxs]; rfl
    rw [hn]
    have hpos : 0 < xs.length := by omega
    obtain ⟨zv, hz1, hz2⟩ := zeroB_some hz
    have hfr : V.frees F xs = true := by
      have : ∀ l : List V, (l.all fun v => v.free F && aggV v == aggV z && v.flat.isSome) = true → V.frees F l = true := by
        intro l
        induction l with
        | nil => simp [V.frees]
        | cons a l ih => simp only [List.all_cons, Bool.and_eq_true, V.frees]; exact fun h => ⟨h.1.1.1, ih h.2⟩
      exact this xs hall
    cases hx with
    | list _ _ _ _ a cap vs ht2 hcap hsp hsz0 hel hcell hrd htok hone hv =>
      have hsp' := hsp hpos
      have ha : a = adr a.block a.off := by cases a; simp at hsp'; simp [hsp']
      have hzvr : ∀ (E : Env) (st : St) (w : World), VR E st w zv z := fun E st w => by rw [hz1]; exact ofVal_VR E st w 3 zv
      have hzsz : zv.cells.size = sz := by rw [← hzl]; exact ((hzvr E st w).flat' hzf).1
      have key : ∀ k, k ≤ xs.length → ∃ wk Ek, (storeCells a ((Builtin.zeroCells zv.cells xs.length).toList.take (k * sz)) 0).run P w = .ok () wk ∧ WR Ek { st with heap := zapH F g.ep z off k st.heap, kills := List.replicate k F ++ st.kills } wk ∧
          SR Ek { st with heap := zapH F g.ep z off k st.heap, kills := List.replicate k F ++ st.kills } wk (ts.push (.slice (some a) xs.length cap)) (zapVs F g.ep z off k (s ++ [.list (.own F g.ep) off sz xs])) ∧
          Seg E st w Ek { st with heap := zapH F g.ep z off k st.heap, kills := List.replicate k F ++ st.kills } wk := by
        intro k
        induction k with
        | zero =>
          intro _
          refine ⟨w, E, by simp [storeCells], by simpa [zapH] using hw, ?_, ?_⟩
          · have := hs.push (.list _ _ _ _ a cap vs ht2 hcap hsp hsz0 hel hcell hrd htok hone hv)
            simpa [zapH, zapVs] using this
          · have : Seg E st w E st w := .refl _ _ _
            simpa [zapH] using this
        | succ k ih =>
          intro hk
          obtain ⟨wk, Ek, r1, r2, r3, r4⟩ := ih (by omega)
          have hlast : VR Ek { st with heap := zapH F g.ep z off k st.heap, kills := List.replicate k F ++ st.kills } wk (.slice (some a) xs.length cap) (zapV F g.ep z off k (.list (.own F g.ep) off sz xs)) := by
            rw [zapVs_map, List.map_append, ← zapVs_map, List.map_cons, List.map_nil] at r3
            exact (r3.pop (by rw [zapVs_len]; exact hs.size)).2
          rw [(zap_list hzfree hfr k).1] at hlast
          have hget : (zapL z 0 k xs)[k]? = some xs[k] := by rw [zapL_get z 0 k k xs (by omega)]; simp
          have hia : indexAddrB P t (.list (.own F g.ep) off sz (zapL z 0 k xs)) (k : Int) = some (.eptr (.own F g.ep) (off + k) 0 xs[k]) := by
            unfold indexAddrB
            simp only [hu]
            rw [if_pos ⟨by omega, hsz⟩]
            simp [hget]
          obtain ⟨rv, i1, i2⟩ := indexAddr_VR (w1 := wk) (k := .i64) hia hlast
          have hidx : (Instr.indexAt t (.slice (some a) xs.length cap) (.int .i64 k)).run P wk = .ok (.pointer (some (a.add (k * sz)))) wk := by
            have hin : (0 : Int) ≤ (k : Int) ∧ (k : Int) < (xs.length : Int) := by omega
            simp [Instr.indexAt, asIntOf, run_underlying hu, hin, run_sizeB hsz.symm, show k < xs.length by omega]
          rw [hidx] at i1
          obtain rfl : Value.pointer (some (a.add (k * sz))) = rv := by
            have := i1
            simp only [Result.ok.injEq, and_true] at this
            exact this
          have hek := List.all_eq_true.1 hall xs[k] (List.getElem_mem _)
          simp only [Bool.and_eq_true, beq_iff_eq] at hek
          have hec : xs[k].cells.length = sz := by have := hel k (by omega); simpa [List.getD_eq_getElem?_getD, show k < xs.length by omega] using this
          obtain ⟨ec, hef⟩ := Option.isSome_iff_exists.1 hek.2
          have hecl : ec.length = sz := by
            have : xs[k].cells = ec := by
              generalize xs[k] = e0 at hef
              cases e0 <;> simp [V.flat] at hef <;> subst hef <;> rfl
            rw [← this]; exact hec
          have hre := re_zero hef hzf hek.1.2 (by omega)
          have hsb : storeB P (zapVs F g.ep z off k (s ++ [.list (.own F g.ep) off sz xs])) { st with heap := zapH F g.ep z off k st.heap, kills := List.replicate k F ++ st.kills } elem (.eptr (.own F g.ep) (off + k) 0 xs[k]) z =
              some (zapVs F g.ep z off (k + 1) (s ++ [.list (.own F g.ep) off sz xs]), { st with heap := zapH F g.ep z off (k + 1) st.heap, kills := List.replicate (k + 1) F ++ st.kills }) := by
            unfold storeB
            simp only [hzf, hzl, hsz, if_true]
            rw [if_pos hflo, hg, hef]
            simp only
            rw [if_pos ⟨trivial, hwr, by omega, hzfree, hek.1.1⟩, hre]
            rfl
          obtain ⟨w', E', q1, q2, q3, q4⟩ := (store_VR (P := P) r2 r3 i2 (hzvr _ _ _) hsb).ex
          refine ⟨w', E', ?_, q2, q3, r4.trans q4⟩
          have hz0 := hsz0 hpos
          have htk := take_zeros zv.cells xs.length k (by omega) (by omega)
          rw [hzsz] at htk
          rw [htk, storeCells_append, r1, Result.andThen_ok]
          have hlen : ((Builtin.zeroCells zv.cells xs.length).toList.take (k * sz)).length = k * sz := by
            have : (Builtin.zeroCells zv.cells xs.length).toList.length = xs.length * sz := by simp [Builtin.zeroCells, hzsz]
            have h1 : k * sz ≤ xs.length * sz := Nat.mul_le_mul_right _ (by omega)
            simp only [List.length_take, this]; omega
          rw [hlen, Nat.zero_add]
          have hadd : ∀ i, (a.add (k * sz)).add i = a.add (k * sz + i) := by
            intro i
            rw [ha]
            simp only [adr_add, Nat.add_assoc]
          have := storeCells_add a (k * sz) hadd zv.cells.toList 0
          rw [Nat.add_zero] at this
          rw [← this, ← q1]
          simp [Instr.storeAt, Instr.sureAddr, storeVar, run_sizeB hsz.symm, hzsz]
      obtain ⟨wk, Ek, r1, r2, r3, r4⟩ := key xs.length (Nat.le_refl _)
      refine ⟨wk, Ek, ?_, r2, ?_, r4⟩
      · have hfull : (Builtin.zeroCells zv.cells xs.length).toList.take (xs.length * sz) = (Builtin.zeroCells zv.cells xs.length).toList := by
          apply List.take_of_length_le
          simp [Builtin.zeroCells, hzsz]
        rw [hfull] at r1
        obtain ⟨m, hm⟩ : ∃ m, xs.length = m + 1 := ⟨xs.length - 1, by omega⟩
        simp only [Builtin.clear_, ht]
        rw [hm] at r1 ⊢
        simp [run_underlying hu, hz2, r1]
      · rw [zapVs_map, List.map_append, ← zapVs_map, List.map_cons, List.map_nil] at r3
        exact (r3.pop (by rw [zapVs_len]; exact hs.size)).1
  · simp at h
end
end Go.Abs

namespace Go.Abs
open Go
section
variable {P : Program} {o : Oper} {a : Act} {E : Env} {st : St} {w : World} {v : V} {s s' : List V} {st' : St}
theorem mk_some {s : List V} {st : St} {x : Option V} {v : V} {s' : List V} {st' : St} (h : mk s st x = some (.val v s' st')) : x = some v ∧ s' = s ∧ st' = st := by
  unfold mk at h
  cases x with
  | none => simp at h
  | some d => simp only [Option.map_some, Option.some.injEq, Out.val.injEq] at h; exact ⟨by rw [h.1], h.2.1.symm, h.2.2.symm⟩
theorem min_VR {k : IntKind} : ∀ (rest : List V) (pv : List Value) (x : Int) (r : V), pv.length = rest.length → (∀ j, j < rest.length → VR E st w (pv.getD j undef) (rest.getD j .dead)) →
    rest.foldl (minStep k) (some (.int k x)) = some r →
    ∃ rv, (pv.foldlM Builtin.min2 (.int k x)).run P w = .ok rv w ∧ VR E st w rv r
  | [], pv, x, r, hl, hp, h => by
    have : pv = [] := List.eq_nil_of_length_eq_zero hl
    subst this
    simp only [List.foldl_nil, Option.some.injEq] at h
    subst h
    exact ⟨_, by simp, .int _ _⟩
  | y :: rest, p :: pv, x, r, hl, hp, h => by
    have h0 := hp 0 (by simp)
    simp only [List.getD_cons_zero] at h0
    rw [List.foldl_cons] at h
    have hn : ∀ l : List V, l.foldl (minStep k) (none : Option V) = none := by
      intro l; induction l with
      | nil => rfl
      | cons a l ih => rw [List.foldl_cons]; simpa [minStep] using ih
    cases h0 with
    | int k2 n =>
      simp only [minStep] at h
      split at h
      · rename_i hk
        obtain ⟨_, rfl⟩ := hk
        obtain ⟨rv, i1, i2⟩ := min_VR (k := k2) rest pv _ r (by simpa using hl) (fun j hj => by have := hp (j + 1) (by simp; omega); simpa using this) h
        refine ⟨rv, ?_, i2⟩
        rw [List.foldlM_cons, Sem.run_bind]
        simp only [Builtin.min2, Sem.run_pure, Result.andThen_ok]
        exact i1
      · rw [hn] at h; simp at h
    | _ => simp only [minStep] at h; rw [hn] at h; simp at h
theorem max_VR {k : IntKind} : ∀ (rest : List V) (pv : List Value) (x : Int) (r : V), pv.length = rest.length → (∀ j, j < rest.length → VR E st w (pv.getD j undef) (rest.getD j .dead)) →
    rest.foldl (maxStep k) (some (.int k x)) = some r →
    ∃ rv, (pv.foldlM Builtin.max2 (.int k x)).run P w = .ok rv w ∧ VR E st w rv r
  | [], pv, x, r, hl, hp, h => by
    have : pv = [] := List.eq_nil_of_length_eq_zero hl
    subst this
    simp only [List.foldl_nil, Option.some.injEq] at h
    subst h
    exact ⟨_, by simp, .int _ _⟩
  | y :: rest, p :: pv, x, r, hl, hp, h => by
    have h0 := hp 0 (by simp)
    simp only [List.getD_cons_zero] at h0
    rw [List.foldl_cons] at h
    have hn : ∀ l : List V, l.foldl (maxStep k) (none : Option V) = none := by
      intro l; induction l with
      | nil => rfl
      | cons a l ih => rw [List.foldl_cons]; simpa [maxStep] using ih
    cases h0 with
    | int k2 n =>
      simp only [maxStep] at h
      split at h
      · rename_i hk
        obtain ⟨_, rfl⟩ := hk
        obtain ⟨rv, i1, i2⟩ := max_VR (k := k2) rest pv _ r (by simpa using hl) (fun j hj => by have := hp (j + 1) (by simp; omega); simpa using this) h
        refine ⟨rv, ?_, i2⟩
        rw [List.foldlM_cons, Sem.run_bind]
        simp only [Builtin.max2, Sem.run_pure, Result.andThen_ok]
        exact i1
      · rw [hn] at h; simp at h
    | _ => simp only [maxStep] at h; rw [hn] at h; simp at h
theorem arr1 {x : Array Value} (h : x.size = 1) : x = #[x.getD 0 undef] := by
  apply Array.ext (by simpa using h)
  intro i h1 h2
  have : i = 0 := by omega
  subst this
  simp [Array.getD_eq_getD_getElem?, h]
theorem arr2 {x : Array Value} (h : x.size = 2) : x = #[x.getD 0 undef, x.getD 1 undef] := by
  apply Array.ext (by simpa using h)
  intro i h1 h2
  match i, (by omega : i < 2) with
  | 0, _ => simp [Array.getD_eq_getD_getElem?, h]
  | 1, _ => simp [Array.getD_eq_getD_getElem?, h]
theorem builtin_VR {b : Builtin} {ts : Array TypeId} {ty : TypeId} {cs : Array Bool} {vs : Array Value} {args : List V} (hw : WR E st w) (hs : SR E st w a.tmps s) (hfl : st.flo ≤ st.fams.length)
    (hl : vs.size = args.length) (hv : ∀ k, k < args.length → VR E st w (vs.getD k undef) (args.getD k .dead)) (h : builtinB P b ts args s st = some (.val v s' st'))
    (hex : (execOp a.eval o).run P w = (builtin b ts ty cs vs).run P w) : StepR P o a E st w v s' st' := by
  unfold builtinB at h
  cases b <;> simp only [reduceCtorEq] at h
  case len =>
    match args, hl, hv, h with
    | [x], hl, hv, h =>
      have h0 := hv 0 (by simp)
      simp only [List.getD_cons_zero] at h0
      have hvs := arr1 (x := vs) (by simpa using hl)
      generalize vs.getD 0 undef = xv at h0 hvs
      subst hvs
      cases ht : ts[0]? with
      | none => cases h0 <;> simp [ht] at h
      | some t =>
        cases h0 with
        | str sx =>
          simp only [ht] at h
          split at h
          · rename_i hu
            obtain ⟨e1, rfl, rfl⟩ := mk_some h
            simp only [Option.some.injEq] at e1
            subst e1
            refine .of_val (w' := w) (cv := goInt sx.size) hw hs hfl ?_ ?_
            · rw [hex]
              simp [builtin, Builtin.len_, ht, run_underlying hu]
            · have : sx.data.toList.length = sx.size := Array.length_toList
              rw [this]; exact .int _ _
          · simp at h
        | nil off sz =>
          simp only [ht] at h
          split at h
          · rename_i e hu
            obtain ⟨e1, rfl, rfl⟩ := mk_some h
            simp only [Option.some.injEq] at e1
            subst e1
            refine .of_val (w' := w) (cv := goInt 0) hw hs hfl ?_ (.int _ _)
            rw [hex]
            simp [builtin, Builtin.len_, ht, run_underlying hu]
          · simp at h
        | list tk off sz xs aa cap vv ht2 hcap =>
          simp only [ht] at h
          split at h
          · rename_i e hu
            obtain ⟨e1, rfl, rfl⟩ := mk_some h
            simp only [Option.some.injEq] at e1
            subst e1
            refine .of_val (w' := w) (cv := goInt xs.length) hw hs hfl ?_ (.int _ _)
            rw [hex]
            simp [builtin, Builtin.len_, ht, run_underlying hu]
          · simp at h
        | _ => simp at h
    | _ :: _ :: _, hl, hv, h => simp at h
  case append =>
    match args, hl, hv, h with
    | [x, y], hl, hv, h =>
      have h0 := hv 0 (by simp)
      have h1 := hv 1 (by simp)
      simp only [List.getD_cons_zero, List.getD_cons_succ] at h0 h1
      have hvs := arr2 (x := vs) (by simpa using hl)
      generalize vs.getD 0 undef = xv at h0 hvs
      generalize vs.getD 1 undef = yv at h1 hvs
      subst hvs
      simp only at h
      cases ht : ts[0]? with
      | none => simp [ht] at h
      | some t =>
        cases hn : newsB P ts y with
        | none => simp [ht, hn] at h
        | some pr =>
          obtain ⟨szy, ys⟩ := pr
          simp only [ht, hn] at h
          cases hap : appendB P t x szy ys s st with
          | none => rw [hap] at h; simp [mk3] at h
          | some q =>
            obtain ⟨d, s1, st1⟩ := q
            rw [hap] at h
            simp only [mk3, Option.map_some, Option.some.injEq, Out.val.injEq] at h
            obtain ⟨rfl, rfl, rfl⟩ := h
            obtain ⟨cv, w', E', r1, r2⟩ := (append_VR (ty := ty) hw hs hfl h0 h1 ht hn hap).ex
            exact ⟨cv, w', E', .inl (by rw [hex]; simp [builtin, r1]), r2⟩
  case cap =>
    match args, hl, hv, h with
    | [x], hl, hv, h =>
      have h0 := hv 0 (by simp)
      simp only [List.getD_cons_zero] at h0
      have hvs := arr1 (x := vs) (by simpa using hl)
      generalize vs.getD 0 undef = xv at h0 hvs
      subst hvs
      cases ht : ts[0]? with
      | none =>
        cases h0 with
        | nil off sz => simp [ht] at h
        | list tk off sz xs aa cap vv ht2 => cases tk <;> simp [ht] at h
        | _ => simp at h
      | some t =>
        cases h0 with
        | nil off sz =>
          simp only [ht] at h
          split at h
          · rename_i e hu
            obtain ⟨e1, rfl, rfl⟩ := mk_some h
            simp only [Option.some.injEq] at e1
            subst e1
            refine .of_val (w' := w) (cv := goInt 0) hw hs hfl ?_ (.int _ _)
            rw [hex]
            simp [builtin, Builtin.cap_, ht, run_underlying hu]
          · simp at h
        | list tk off sz xs aa cap vv ht2 hcap hsp hz hel hcell hrd htok =>
          cases tk with
          | clip =>
            simp only [ht] at h
            split at h
            · rename_i e hu
              obtain ⟨e1, rfl, rfl⟩ := mk_some h
              simp only [Option.some.injEq] at e1
              subst e1
              have : cap = xs.length := htok
              subst this
              refine .of_val (w' := w) (cv := goInt xs.length) hw hs hfl ?_ (.int _ _)
              rw [hex]
              simp [builtin, Builtin.cap_, ht, run_underlying hu]
            · simp at h
          | nil => exact absurd rfl ht2
          | _ => simp at h
        | _ => simp at h
    | _ :: _ :: _, hl, hv, h => simp at h
  case min =>
    match args, hl, hv, h with
    | x :: rest, hl, hv, h =>
      have h0 := hv 0 (by simp)
      simp only [List.getD_cons_zero] at h0
      cases x <;> simp only [reduceCtorEq] at h
      rename_i k n
      obtain ⟨e1, rfl, rfl⟩ := mk_some h
      have hvl : ∃ xv pv, vs.toList = xv :: pv := by
        have hlen : vs.toList.length = rest.length + 1 := by rw [Array.length_toList, hl]; rfl
        match hq : vs.toList, hlen with
        | xv :: pv, _ => exact ⟨xv, pv, rfl⟩
      obtain ⟨xv, pv, hvl⟩ := hvl
      have hg : ∀ k, vs.getD k undef = (xv :: pv).getD k undef := fun k => by rw [← hvl]; simp [Array.getD_eq_getD_getElem?, List.getD_eq_getElem?_getD]
      rw [hg, List.getD_cons_zero] at h0
      have hxv : xv = .int k n := by cases h0; rfl
      subst hxv
      have hpl : pv.length = rest.length := by
        have := congrArg List.length hvl
        simp at this hl; omega
      obtain ⟨rv, r1, r2⟩ := min_VR rest pv n v hpl (fun j hj => by
        have := hv (j + 1) (by simp; omega)
        rw [hg] at this
        simpa using this) e1
      refine .of_val (w' := w) hw hs hfl ?_ r2
      rw [hex]
      simp [builtin, Builtin.min_, hvl]
      rw [r1]; rfl
    | [], hl, hv, h => simp at h
  case clear =>
    match args, hl, hv, h with
    | [x], hl, hv, h =>
      have h0 := hv 0 (by simp)
      simp only [List.getD_cons_zero] at h0
      have hvs := arr1 (x := vs) (by simpa using hl)
      generalize vs.getD 0 undef = xv at h0 hvs
      subst hvs
      cases ht : ts[0]? with
      | none => simp [ht] at h
      | some t =>
        simp only [ht] at h
        cases hcl : clearB P t x s st with
        | none => rw [hcl] at h; simp at h
        | some pr =>
          obtain ⟨s1, st1⟩ := pr
          rw [hcl] at h
          simp only [Option.map_some, Option.some.injEq, Out.val.injEq] at h
          obtain ⟨rfl, rfl, rfl⟩ := h
          obtain ⟨w', E', r1, r2, r3, r4⟩ := clear_VR (P := P) (ty := ty) (tys := ts) ht hw hs hfl h0 hcl
          refine ⟨.tuple #[], w', E', .inl ?_, r2, .tup _ _ rfl (fun k hk => by simp at hk), r3, r4⟩
          rw [hex]
          simp [builtin, r1]
    | [], hl, hv, h => simp at h
    | _ :: _ :: _, hl, hv, h => simp at h
  case max =>
    match args, hl, hv, h with
    | x :: rest, hl, hv, h =>
      have h0 := hv 0 (by simp)
      simp only [List.getD_cons_zero] at h0
      cases x <;> simp only [reduceCtorEq] at h
      rename_i k n
      obtain ⟨e1, rfl, rfl⟩ := mk_some h
      have hvl : ∃ xv pv, vs.toList = xv :: pv := by
        have hlen : vs.toList.length = rest.length + 1 := by rw [Array.length_toList, hl]; rfl
        match hq : vs.toList, hlen with
        | xv :: pv, _ => exact ⟨xv, pv, rfl⟩
      obtain ⟨xv, pv, hvl⟩ := hvl
      have hg : ∀ k, vs.getD k undef = (xv :: pv).getD k undef := fun k => by rw [← hvl]; simp [Array.getD_eq_getD_getElem?, List.getD_eq_getElem?_getD]
      rw [hg, List.getD_cons_zero] at h0
      have hxv : xv = .int k n := by cases h0; rfl
      subst hxv
      have hpl : pv.length = rest.length := by
        have := congrArg List.length hvl
        simp at this hl; omega
      obtain ⟨rv, r1, r2⟩ := max_VR rest pv n v hpl (fun j hj => by
        have := hv (j + 1) (by simp; omega)
        rw [hg] at this
        simpa using this) e1
      refine .of_val (w' := w) hw hs hfl ?_ r2
      rw [hex]
      simp [builtin, Builtin.max_, hvl]
      rw [r1]; rfl
    | [], hl, hv, h => simp at h
theorem aop_VR (hw : WR E st w) (hs : SR E st w a.tmps s) (hfl : st.flo ≤ st.fams.length) (h : aop P s o st = some (.val v s' st')) : StepR P o a E st w v s' st' := by
  unfold aop at h
  cases hop : o.op <;> rw [hop] at h <;> simp only [reduceCtorEq] at h
  case move x =>
    obtain ⟨e1, rfl, rfl⟩ := mk_some h
    simp only [Option.some.injEq] at e1
    subst e1
    exact .of_val (w' := w) hw hs hfl (by simp [execOp, hop]) (ev_VR hs x)
  case assign x =>
    obtain ⟨e1, rfl, rfl⟩ := mk_some h
    simp only [Option.some.injEq] at e1
    subst e1
    exact .of_val (w' := w) hw hs hfl (by simp [execOp, hop]) (ev_VR hs x)
  case pick c x y =>
    have hc := ev_VR hs c
    generalize hcv : ev s c = cv at h hc
    generalize hcc : a.eval c = cc at hc
    cases hc with
    | bool b =>
      cases b
      · simp only at h
        obtain ⟨e1, rfl, rfl⟩ := mk_some h
        simp only [Option.some.injEq] at e1
        subst e1
        exact .of_val (w' := w) hw hs hfl (by simp [execOp, hop, hcc, asBool]) (ev_VR hs y)
      · simp only at h
        obtain ⟨e1, rfl, rfl⟩ := mk_some h
        simp only [Option.some.injEq] at e1
        subst e1
        exact .of_val (w' := w) hw hs hfl (by simp [execOp, hop, hcc, asBool]) (ev_VR hs x)
    | _ => simp at h
  case alloc t =>
    cases hz : zeroB P t with
    | none => rw [hz] at h; simp at h
    | some zV =>
      rw [hz] at h
      simp only [Option.bind_some] at h
      cases hf : zV.flat with
      | none => rw [hf] at h; simp at h
      | some cs =>
        rw [hf] at h
        simp only [Option.map_some, Option.some.injEq, Out.val.injEq] at h
        obtain ⟨rfl, rfl, rfl⟩ := h
        obtain ⟨z, hz1, hz2⟩ := zeroB_some hz
        have hzVR : VR E st w z zV := by rw [hz1]; exact ofVal_VR E st w 3 z
        exact .of_op (by simp [execOp, hop, Instr.alloc, hz2]; cases (newVar t z).run P w <;> rfl) (newBox_VR (t := t) hw hs hfl hzVR hf)
  case box t x =>
    have hx := ev_VR hs x
    cases hf : (ev s x).flat with
    | none => rw [hf] at h; simp at h
    | some cs =>
      rw [hf] at h
      simp only [Option.map_some, Option.some.injEq, Out.val.injEq] at h
      obtain ⟨rfl, rfl, rfl⟩ := h
      exact .of_op (by simp [execOp, hop, Instr.box]; cases (newVar t (a.eval x)).run P w <;> rfl) (newBox_VR (t := t) hw hs hfl hx hf)
  case build t ps =>
    obtain ⟨e1, rfl, rfl⟩ := mk_some h
    obtain ⟨pv, p1, p2, p3⟩ := parts_VR hs ps
    obtain ⟨rv, r1, r2⟩ := build_VR (w1 := w) e1 p2 p3
    exact .of_val (w' := w) hw hs hfl (by simp only [execOp, hop, p1, Sem.run_bind, r1, Result.andThen_ok, Sem.run_pure]) r2
  case buildSlice t n ps =>
    obtain ⟨e1, rfl, rfl⟩ := mk_some h
    obtain ⟨pv, p1, p2, p3⟩ := parts_VR hs ps
    exact .of_op (by simp only [execOp, hop, p1, Sem.run_bind, Sem.run_pure]) (buildSlice_VR hw hs hfl e1 p2 p3)
  case load t x =>
    obtain ⟨e1, rfl, rfl⟩ := mk_some h
    obtain ⟨rv, r1, r2⟩ := load_VR hw (ev_VR hs x) e1
    exact .of_val (w' := w) hw hs hfl (by simp [execOp, hop, r1]) r2
  case makeMap t r =>
    cases r with
    | some r => simp at h
    | none =>
      simp only [Option.some.injEq, Out.val.injEq] at h
      obtain ⟨rfl, rfl, rfl⟩ := h
      exact .of_op (by simp [execOp, hop]) (makeMap_VR (t := t) hw hs hfl)
  case lookup t m k ok =>
    obtain ⟨e1, rfl, rfl⟩ := mk_some h
    obtain ⟨rv, r1, r2⟩ := lookup_VR (P := P) hw (ev_VR hs m) (ev_VR hs k) e1
    exact .of_val (w' := w) hw hs hfl (by simp [execOp, hop, r1]) r2
  case mapUpdate t m k x =>
    rw [Option.map_eq_some_iff] at h
    obtain ⟨st1, h, e⟩ := h
    simp only [Out.val.injEq] at e
    obtain ⟨rfl, rfl, rfl⟩ := e
    obtain ⟨w', r1, r2, r3, r4⟩ := update_VR (P := P) hw hs (ev_VR hs m) (ev_VR hs k) (ev_VR hs x) h
    exact ⟨undef, w', E, .inr ⟨by simp [execOp, hop, r1], rfl⟩, r2, .tup _ _ rfl (fun k hk => by simp at hk), r3, r4⟩
  case insert t m k x =>
    rw [Option.map_eq_some_iff] at h
    obtain ⟨st1, h, e⟩ := h
    simp only [Out.val.injEq] at e
    obtain ⟨rfl, rfl, rfl⟩ := e
    obtain ⟨w', r1, r2, r3, r4⟩ := update_VR (P := P) hw hs (ev_VR hs m) (ev_VR hs k) (ev_VR hs x) h
    exact ⟨undef, w', E, .inr ⟨by simp [execOp, hop, r1], rfl⟩, r2, .tup _ _ rfl (fun k hk => by simp at hk), r3, r4⟩
  case store t x y =>
    cases hst : storeB P s st t (ev s x) (ev s y) with
    | none => rw [hst] at h; simp at h
    | some pr =>
      obtain ⟨s1, st1⟩ := pr
      rw [hst] at h
      simp only [Option.map_some, Option.some.injEq, Out.val.injEq] at h
      obtain ⟨rfl, rfl, rfl⟩ := h
      obtain ⟨w', E', r1, r2, r3, r4⟩ := (store_VR (P := P) hw hs (ev_VR hs x) (ev_VR hs y) hst).ex
      exact ⟨undef, w', E', .inr ⟨by simp [execOp, hop, r1], rfl⟩, r2, .tup _ _ rfl (fun k hk => by simp at hk), r3, r4⟩
  case nilCheck x =>
    have hx := ev_VR hs x
    generalize hcv : ev s x = cv at h hx
    generalize hcc : a.eval x = cc at hx
    cases hx with
    | ptr i off b hi hb =>
      simp only at h
      obtain ⟨e1, rfl, rfl⟩ := mk_some h
      simp only [Option.some.injEq] at e1
      subst e1
      exact .of_val (w' := w) hw hs hfl (by simp [execOp, hop, hcc]) (.ptr _ _ _ hi hb)
    | eptr t idx off e b o vs ht hz hcell hrd htok hone hv =>
      simp only at h
      obtain ⟨e1, rfl, rfl⟩ := mk_some h
      simp only [Option.some.injEq] at e1
      subst e1
      exact .of_val (w' := w) hw hs hfl (by simp [execOp, hop, hcc]) (.eptr _ _ _ _ _ _ _ ht hz hcell hrd htok hone hv)
    | func fn first cap df dc hf hc hvf hvc =>
      cases fn with
      | func f =>
        simp only at h
        obtain ⟨e1, rfl, rfl⟩ := mk_some h
        simp only [Option.some.injEq] at e1
        subst e1
        exact .of_val (w' := w) hw hs hfl (by simp [execOp, hop, hcc]) (.func _ _ _ _ _ hf hc hvf hvc)
      | _ => simp at h
    | _ => simp at h
  case binOp op t x y yt =>
    obtain ⟨e1, rfl, rfl⟩ := mk_some h
    obtain ⟨rv, r1, r2⟩ := bin_VR e1 (ev_VR hs x) (ev_VR hs y) rfl
    refine .of_val (w' := w) hw hs hfl ?_ r2
    simp only [execOp, hop]
    rw [Sem.run_bind]
    have r1' : (do eqGuard op t x y (a.eval x) (a.eval y); binOp op t (a.eval x) (a.eval y) : Sem Value).run P w = .ok rv w := r1
    rw [r1']
    rfl
  case unOp op t x =>
    have hx := ev_VR hs x
    generalize hcv : ev s x = cv at h hx
    generalize hcc : a.eval x = cc at hx
    cases op <;> cases hx <;> simp only [reduceCtorEq] at h
    case neg.int k n =>
      obtain ⟨e1, rfl, rfl⟩ := mk_some h
      simp only [Option.some.injEq] at e1
      subst e1
      exact .of_val (w' := w) hw hs hfl (by simp [execOp, hop, hcc, Op.unary, Op.intArith]) (.int _ _)
    case not.bool b =>
      obtain ⟨e1, rfl, rfl⟩ := mk_some h
      simp only [Option.some.injEq] at e1
      subst e1
      exact .of_val (w' := w) hw hs hfl (by simp [execOp, hop, hcc, Op.unary]) (.bool _)
  case convert x y z =>
    cases hc : convB P x y (ev s z) st with
    | none => rw [hc] at h; simp [mkS] at h
    | some pr =>
      obtain ⟨d, st1⟩ := pr
      rw [hc] at h
      simp only [mkS, Option.map_some, Option.some.injEq, Out.val.injEq] at h
      obtain ⟨rfl, rfl, rfl⟩ := h
      exact .of_op (by simp [execOp, hop]) (conv_VR hw hs hfl (ev_VR hs z) hc)
  case makeInterface t x =>
    cases hu : P.underlying t with
    | none => simp [hu] at h
    | some d =>
      have hh : (∀ ms, d ≠ .interface ms) ∧ mk s st (some (.iface t (ev s x))) = some (.val v s' st') := by
        rw [hu] at h
        cases d <;> simp at h ⊢ <;> exact h
      obtain ⟨e1, rfl, rfl⟩ := mk_some hh.2
      simp only [Option.some.injEq] at e1
      subst e1
      refine .of_val (w' := w) (cv := .iface t (a.eval x)) hw hs hfl ?_ (.iface _ _ _ (ev_VR hs x))
      have : ∀ ms, d ≠ .interface ms := hh.1
      cases d <;> first | exact absurd rfl (this _) | simp [execOp, hop, Instr.makeInterface, run_underlying hu]
  case makeFunc fn first cap =>
    obtain ⟨e1, rfl, rfl⟩ := mk_some h
    simp only [Option.some.injEq] at e1
    subst e1
    obtain ⟨f1, f2⟩ := evs_VR hs first
    obtain ⟨c1, c2⟩ := evs_VR hs cap
    exact .of_val (w' := w) hw hs hfl (by simp [execOp, hop, Instr.makeFunc]) (.func _ _ _ _ _ f1 c1 f2 c2)
  case makeSlice t l c =>
    have hl := ev_VR hs l
    have hc := ev_VR hs c
    generalize hlv : ev s l = lv at h hl
    generalize hcv : ev s c = cv at h hc
    generalize hll : a.eval l = ll at hl
    generalize hcc : a.eval c = cc at hc
    cases hl with
    | int k n =>
      cases hc with
      | int k2 m =>
        cases k <;> cases k2 <;> try (simp only [reduceCtorEq] at h; done)
        cases hu : P.underlying t with
        | none => simp [hu] at h
        | some d =>
          cases d with
          | slice elem =>
            simp only [hu] at h
            cases hb : bytesB P elem with
            | none => simp [hb] at h
            | some by_ =>
              cases hsz : sizeB P elem with
              | none => simp [hb, hsz] at h
              | some q0 =>
                cases q0 with
                | zero => simp [hb, hsz] at h
                | succ q =>
                  cases hz : zeroB P elem with
                  | none => simp [hb, hsz, hz] at h
                  | some z =>
                    simp only [hb, hsz, hz] at h
                    split at h
                    · rename_i hcond
                      obtain ⟨c1, c2, c3, c4, c5⟩ := hcond
                      simp only [Option.some.injEq, Out.val.injEq] at h
                      obtain ⟨rfl, rfl, rfl⟩ := h
                      exact .of_op (by simp [execOp, hop, hll, hcc]) (makeSlice_VR hw hs hfl hu hb hsz hz c1 c2 c3 c4 c5)
                    · simp at h
          | _ => simp [hu] at h
      | _ => cases k <;> simp at h
    | _ => simp at h
  case slice t x lo hi mx =>
    cases mx with
    | some _ => simp at h
    | none =>
      simp only at h
      obtain ⟨e1, rfl, rfl⟩ := mk_some h
      obtain ⟨rv, r1, r2⟩ := slice_VR (w1 := w) e1 (ev_VR hs x) (opv_VR hs lo) (opv_VR hs hi)
      exact .of_val (w' := w) hw hs hfl (by simp [execOp, hop, r1]) r2
  case fieldAddr t x f =>
    obtain ⟨e1, rfl, rfl⟩ := mk_some h
    obtain ⟨rv, r1, r2⟩ := fieldAddr_VR (w1 := w) e1 (ev_VR hs x)
    exact .of_val (w' := w) hw hs hfl (by simp [execOp, hop, r1]) r2
  case field t x f =>
    obtain ⟨e1, rfl, rfl⟩ := mk_some h
    obtain ⟨rv, r1, r2⟩ := field_VR (w1 := w) e1 (ev_VR hs x)
    exact .of_val (w' := w) hw hs hfl (by simp [execOp, hop, r1]) r2
  case indexAddr t x i =>
    have hi := ev_VR hs i
    generalize hiv : ev s i = iv at h hi
    generalize hii : a.eval i = ii at hi
    cases hi with
    | int k n =>
      simp only at h
      obtain ⟨e1, rfl, rfl⟩ := mk_some h
      obtain ⟨rv, r1, r2⟩ := indexAddr_VR (w1 := w) (k := k) e1 (ev_VR hs x)
      exact .of_val (w' := w) hw hs hfl (by simp [execOp, hop, hii, r1]) r2
    | _ => simp at h
  case index t x i =>
    have hi := ev_VR hs i
    generalize hiv : ev s i = iv at h hi
    generalize hii : a.eval i = ii at hi
    cases hi with
    | int k n =>
      simp only at h
      obtain ⟨e1, rfl, rfl⟩ := mk_some h
      obtain ⟨rv, r1, r2⟩ := index_VR (w1 := w) (k := k) e1 (ev_VR hs x)
      exact .of_val (w' := w) hw hs hfl (by simp [execOp, hop, hii, r1]) r2
    | _ => simp at h
  case typeAssert x t0 t ok =>
    have hx := ev_VR hs x
    generalize hcv : ev s x = cv at h hx
    generalize hcc : a.eval x = cc at hx
    cases hu : P.underlying t with
    | none => rw [hu] at h; cases hx <;> cases ok <;> simp at h
    | some du =>
      rw [hu] at h
      by_cases hi : ∃ ms, du = .interface ms
      · obtain ⟨ms, rfl⟩ := hi
        cases hx <;> cases ok <;> simp at h
      · have hni : ∀ ms, du ≠ .interface ms := fun ms e => hi ⟨ms, e⟩
        cases hx with
        | nili =>
          cases ok with
          | false => cases du <;> simp at h
          | true =>
            have h' : mk s st ((zeroB P t).map fun z => V.tup [z, .bool false]) = some (.val v s' st') := by
              cases du <;> first | exact absurd rfl (hni _) | exact h
            obtain ⟨e1, rfl, rfl⟩ := mk_some h'
            cases hz : zeroB P t with
            | none => rw [hz] at e1; simp at e1
            | some zV =>
              rw [hz] at e1
              simp only [Option.map_some, Option.some.injEq] at e1
              subst e1
              obtain ⟨z, hz1, hz2⟩ := zeroB_some hz
              have hzVR : VR E st' w z zV := by rw [hz1]; exact ofVal_VR E st' w 3 z
              refine .of_val (w' := w) (cv := .tuple #[z, .bool false]) hw hs hfl ?_ ?_
              · cases du <;> first | exact absurd rfl (hni _) | simp [execOp, hop, hcc, Instr.typeAssert, run_underlying hu, hz2]
              · refine .tup _ _ rfl fun k hk => ?_
                match k, hk with
                | 0, _ => exact hzVR
                | 1, _ => exact .bool _
        | iface t' v0 d hd =>
          cases ok with
          | false => cases du <;> simp at h
          | true =>
            have h' : (if t' = t then mk s st (some (.tup [d, .bool true])) else mk s st ((zeroB P t).map fun z => V.tup [z, .bool false])) = some (.val v s' st') := by
              cases du <;> first | exact absurd rfl (hni _) | exact h
            split at h'
            · rename_i ht
              subst ht
              obtain ⟨e1, rfl, rfl⟩ := mk_some h'
              simp only [Option.some.injEq] at e1
              subst e1
              refine .of_val (w' := w) (cv := .tuple #[v0, .bool true]) hw hs hfl ?_ ?_
              · cases du <;> first | exact absurd rfl (hni _) | simp [execOp, hop, hcc, Instr.typeAssert, run_underlying hu]
              · refine .tup _ _ rfl fun k hk => ?_
                match k, hk with
                | 0, _ => exact hd
                | 1, _ => exact .bool _
            · rename_i ht
              obtain ⟨e1, rfl, rfl⟩ := mk_some h'
              cases hz : zeroB P t with
              | none => rw [hz] at e1; simp at e1
              | some zV =>
                rw [hz] at e1
                simp only [Option.map_some, Option.some.injEq] at e1
                subst e1
                obtain ⟨z, hz1, hz2⟩ := zeroB_some hz
                have hzVR : VR E st' w z zV := by rw [hz1]; exact ofVal_VR E st' w 3 z
                refine .of_val (w' := w) (cv := .tuple #[z, .bool false]) hw hs hfl ?_ ?_
                · cases du <;> first | exact absurd rfl (hni _) | simp [execOp, hop, hcc, Instr.typeAssert, run_underlying hu, hz2, ht]
                · refine .tup _ _ rfl fun k hk => ?_
                  match k, hk with
                  | 0, _ => exact hzVR
                  | 1, _ => exact .bool _
        | _ => cases du <;> cases ok <;> simp at h
  case extract x i =>
    have hx := ev_VR hs x
    generalize hcv : ev s x = cv at h hx
    generalize hcc : a.eval x = cc at hx
    cases hx with
    | tup cs ds hl hv =>
      simp only at h
      obtain ⟨e1, rfl, rfl⟩ := mk_some h
      have hlt : i < ds.length := (List.getElem?_eq_some_iff.1 e1).1
      have h1 := hv i hlt
      have e2 : ds.getD i .dead = v := by simp [List.getD_eq_getElem?_getD, e1]
      rw [e2] at h1
      have e3 := getD_of_getElem? (c := cs) (k := i) (by omega)
      exact .of_val (w' := w) hw hs hfl (by simp only [execOp, hop, hcc, Instr.extract, e3]; rfl) h1
    | _ => simp at h
  case call c =>
    cases hcal : c.callee with
    | invoke r m => rw [hcal] at h; simp at h
    | value f =>
      rw [hcal] at h
      simp only at h
      split at h
      · split at h <;> simp at h
      · simp at h
    | builtin b =>
      rw [hcal] at h
      simp only at h
      obtain ⟨g1, g2⟩ := evs_VR hs c.args
      have hex : ∃ cs, (execOp a.eval o).run P w = (builtin b c.argTypes o.type cs (c.args.map a.eval)).run P w :=
        ⟨_, by simp only [execOp, hop, resolve, hcal, invoke, Sem.run_bind, Sem.run_pure, Result.andThen_ok]; rfl⟩
      obtain ⟨cs, hex⟩ := hex
      exact builtin_VR hw hs hfl g1 g2 h hex
end
end Go.Abs

namespace Go.Abs
open Go
theorem step_same {E : Env} {st st' : St} {w : World} (hh : st'.heap = st.heap) (hf : st'.fams = st.fams) : Step [] E st w E st' w where
  box i b hi hb := ⟨by rw [hh]; exact hi, hb⟩
  cell t b off v _ _ hc := hc
  rd t b hi _ hb hr := ⟨fun i hi' he => hr.1 i (by rw [← hh]; exact hi') he, fun F f hF he => hr.2 F f (by rw [← hf]; exact hF) he⟩
  tok t off sz a n cap _ _ h := h.of_rows (fun F f hF => ⟨by rw [hf]; exact hF, rfl, rfl⟩) (Nat.le_refl _)
theorem VR.same {E : Env} {st st' : St} {w : World} {v : Value} {d : V} (h : VR E st w v d) (hh : st'.heap = st.heap) (hf : st'.fams = st.fams) : VR E st' w v d :=
  h.step0 (step_same hh hf)
theorem SR.same {E : Env} {st st' : St} {w : World} {ts : Array Value} {s : List V} (h : SR E st w ts s) (hh : st'.heap = st.heap) (hf : st'.fams = st.fams) : SR E st' w ts s :=
  h.step0 (step_same hh hf)
theorem WR.same {E : Env} {st st' : St} {w : World} (h : WR E st w) (hh : st'.heap = st.heap) (hf : st'.fams = st.fams) : WR E st' w := by
  have S := step_same (E := E) (w := w) hh hf
  refine ⟨fun i bx b hi hb => ?_, fun i j b hi hj => h.inj i j b (by rw [← hh]; exact hi) (by rw [← hh]; exact hj), fun F f hF => h.fam F f (by rw [← hf]; exact hF),
    fun F i hF hi => h.famBox F i (by rw [← hf]; exact hF) (by rw [← hh]; exact hi), fun F G hF hG => h.famInj F G (by rw [← hf]; exact hF) (by rw [← hf]; exact hG)⟩
  exact (h.box i bx b (by rw [← hh]; exact hi) hb).step0 S rfl
def SimCall (P : Program) (f : FuncId) (args : List V) (st : St) (v : V) (st' : St) : Prop :=
  ∀ (E : Env) (w : World) (vs : Array Value), WR E st w → st.flo ≤ st.fams.length → vs.size = args.length →
    (∀ k, k < args.length → VR E st w (vs.getD k undef) (args.getD k .dead)) →
    Calls P f vs w fun e w' => ∃ cv E', e = .returned cv ∧ VR E' st' w' cv v ∧ WR E' st' w' ∧ Seg E st w E' st' w'
def CallOK (P : Program) (call : FuncId → List V → St → Option (V × St)) : Prop :=
  ∀ f args st v st', call f args st = some (v, st') → SimCall P f args st v st'
theorem wanted_VR {E : Env} {st : St} {w : World} {ts : Array Value} {s : List V} {all : Array Oper} {o : Oper} {b : Bool} (hs : SR E st w ts s) (h : wantedB all s o = some b) :
    Region.wanted o (yielded all ts) = b := by
  unfold wantedB at h
  unfold Region.wanted
  cases hg : o.guard with
  | none => rw [hg] at h; simpa using h
  | some gw =>
    obtain ⟨j, want⟩ := gw
    rw [hg] at h
    simp only at h ⊢
    cases hd : (all[j]?).bind (·.dst) with
    | none => rw [hd] at h; simp at h
    | some d =>
      rw [hd] at h
      simp only at h
      cases hx : s[d]? with
      | none => rw [hx] at h; simp at h
      | some x =>
        have hlt : d < s.length := (List.getElem?_eq_some_iff.1 hx).1
        have hv := hs.val d hlt
        have e1 : s.getD d .any = x := by simp [List.getD_eq_getElem?_getD, hx]
        rw [e1] at hv
        have hlt' : d < ts.size := by rw [hs.size]; exact hlt
        have e2 : ts[d]? = some (ts.getD d undef) := by simp [Array.getD_eq_getD_getElem?, Array.getElem?_eq_getElem hlt']
        have e3 : yielded all ts j = match (ts.getD d undef) with | .bool b => some b | _ => none := by
          simp only [yielded, hd, Option.bind_some, e2]
          cases ts.getD d undef <;> rfl
        rw [hx] at h
        generalize ts.getD d undef = tv at hv e3
        cases hv with
        | bool c =>
          simp only [Option.some.injEq] at h
          rw [e3]
          subst h
          cases c <;> cases want <;> rfl
        | tup c ds hl hvv =>
          cases ds with
          | nil =>
            simp only [Option.some.injEq] at h
            rw [e3]
            subst h
            cases want <;> rfl
          | cons _ _ => simp at h
        | _ => simp at h
theorem undef_VR (E : Env) (st : St) (w : World) : VR E st w undef (.tup []) := .tup #[] [] rfl fun k hk => by simp at hk
theorem kill_all (s : List V) (ks : List Nat) : killAll ks s = V.kills ks s := by
  cases ks with
  | nil => simp [killAll, kills_nil]
  | cons a l => rfl
section
variable {P : Program} {call : FuncId → List V → St → Option (V × St)} {all : Array Oper} {o : Oper} {s s' : List V} {st st' : St}
  {E : Env} {w : World} {a : Act} {Q : Exit → Act → World → Prop} {K : Act → World → Prop}
theorem getD_append {α : Type} (x y : Array α) (k : Nat) (d : α) : (x ++ y).getD k d = if k < x.size then x.getD k d else y.getD (k - x.size) d := by
  simp only [Array.getD_eq_getD_getElem?, Array.getElem?_append]
  split <;> rfl
theorem lgetD_append {α : Type} (x y : List α) (k : Nat) (d : α) : (x ++ y).getD k d = if k < x.length then x.getD k d else y.getD (k - x.length) d := by
  simp only [List.getD_eq_getElem?_getD, List.getElem?_append]
  split <;> rfl
/-- the operands of a call, put together -/
theorem args3_VR {x y z : Array Value} {dx dy dz : List V} (hx : x.size = dx.length) (hy : y.size = dy.length) (hz : z.size = dz.length)
    (vx : ∀ k, k < dx.length → VR E st w (x.getD k undef) (dx.getD k .dead)) (vy : ∀ k, k < dy.length → VR E st w (y.getD k undef) (dy.getD k .dead))
    (vz : ∀ k, k < dz.length → VR E st w (z.getD k undef) (dz.getD k .dead)) :
    (x ++ y ++ z).size = (dx ++ dy ++ dz).length ∧ ∀ k, k < (dx ++ dy ++ dz).length → VR E st w ((x ++ y ++ z).getD k undef) ((dx ++ dy ++ dz).getD k .dead) := by
  refine ⟨by simp [hx, hy, hz], fun k hk => ?_⟩
  rw [getD_append, lgetD_append, getD_append, lgetD_append]
  simp only [List.length_append] at hk
  simp only [Array.size_append, List.length_append, hx, hy]
  split
  · split
    · exact vx k (by assumption)
    · exact vy _ (by omega)
  · exact vz _ (by omega)
theorem aop_call {f : FuncId} {args : List V} (h : aop P s o st = some (.call f args)) :
    ∃ c x first cap, o.op = .call c ∧ c.callee = .value x ∧ ev s x = .func (.func f) first cap ∧ callableB P f = true ∧ args = first ++ c.args.toList.map (ev s) ++ cap := by
  have nv : ∀ (y : Option V), mk s st y = some (.call f args) → False := by intro y; cases y <;> simp [mk]
  have nv3 : ∀ (y : Option (V × List V × St)), mk3 y = some (.call f args) → False := by intro y; cases y <;> simp [mk3]
  have nvS : ∀ (y : Option (V × St)), mkS s y = some (.call f args) → False := by intro y; cases y <;> simp [mkS]
  unfold aop at h
  cases hop : o.op with
  | call c =>
    rw [hop] at h
    simp only at h
    cases hc : c.callee with
    | invoke r m => rw [hc] at h; simp at h
    | builtin b =>
      rw [hc] at h
      simp only at h
      exfalso
      have nvM : ∀ (y : Option (List V × St)), (y.map fun p => Out.val (.tup []) p.1 p.2) = some (.call f args) → False := by intro y; cases y <;> simp
      unfold builtinB at h
      split at h <;> repeat (first | exact nv _ h | exact nv3 _ h | exact nvM _ h | contradiction | split at h)
    | value x =>
      rw [hc] at h
      simp only at h
      split at h
      · rename_i g first cap hx
        split at h
        · rename_i hcb
          simp only [Option.some.injEq, Out.call.injEq] at h
          obtain ⟨rfl, rfl⟩ := h
          exact ⟨c, x, first, cap, rfl, hc, hx, hcb, rfl⟩
        · simp at h
      · simp at h
  | _ =>
    exfalso
    rw [hop] at h
    simp only at h
    repeat' (first | exact nv _ h | exact nv3 _ h | exact nvS _ h | contradiction | (cases h; done) | (rw [Option.map_eq_some_iff] at h; obtain ⟨_, _, h⟩ := h; cases h; done) | split at h)
theorem op_sim (hC : CallOK P call) (hw : WR E st w) (hs : SR E st w a.tmps s) (hfl : st.flo ≤ st.fams.length)
    (h : opRun P call all o s st = some (s', st'))
    (hK : ∀ a' w' E', a'.defers = a.defers → WR E' st' w' → SR E' st' w' a'.tmps s' → Seg E st w E' st' w' → K a' w') :
    if Region.wanted o (yielded all a.tmps) then o.wp P a w K Q else K (a.put o.dst undef) w := by
  have hput : ∀ (a : Act) dst v, (a.put dst v).defers = a.defers := by intro a dst v; cases dst <;> rfl
  unfold opRun at h
  cases hwd : wantedB all s o with
  | none => rw [hwd] at h; simp at h
  | some b =>
    rw [wanted_VR hs hwd]
    rw [hwd] at h
    cases b with
    | false =>
      simp only [Option.some.injEq, Prod.mk.injEq] at h
      obtain ⟨rfl, rfl⟩ := h
      simp only [Bool.false_eq_true, if_false]
      exact hK _ _ E (hput _ _ _) hw (hs.put (undef_VR E st w) o.dst a.defers) (.refl _ _ _)
    | true =>
      simp only [if_true]
      simp only at h
      cases ho : aop P s o st with
      | none => rw [ho] at h; simp at h
      | some out =>
        rw [ho] at h
        cases out with
        | val v s1 st1 =>
          simp only [Option.some.injEq, Prod.mk.injEq] at h
          obtain ⟨rfl, rfl⟩ := h
          obtain ⟨cv, w', E', hx, h1, h2, h3, h4⟩ := (aop_VR hw hs hfl ho).ex
          unfold Oper.wp
          rcases hx with hx | ⟨hx, rfl⟩
          · rw [hx]
            exact hK _ _ E' (hput _ _ _) h1 (h3.put h2 o.dst a.defers) h4
          · rw [hx]
            exact hK _ _ E' (hput _ _ _) h1 (h3.put h2 o.dst a.defers) h4
        | call f args =>
          simp only at h
          cases hcall : call f args { st with kills := [] } with
          | none => rw [hcall] at h; simp at h
          | some r =>
            obtain ⟨v, st1⟩ := r
            rw [hcall] at h
            simp only [Option.some.injEq, Prod.mk.injEq] at h
            obtain ⟨rfl, rfl⟩ := h
            obtain ⟨c, x, first, cap, hop, hc, hx, hcb, rfl⟩ := aop_call ho
            have hxv := ev_VR hs x
            rw [hx] at hxv
            generalize hxx : a.eval x = xv at hxv
            cases hxv with
            | func _ cf cc _ _ hf1 hc1 hf2 hc2 =>
              unfold callableB at hcb
              cases hfn : P.funcs[f]? with
              | none => rw [hfn] at hcb; simp at hcb
              | some fn =>
                rw [hfn] at hcb
                simp only [Bool.and_eq_true, bne_iff_ne, ne_eq] at hcb
                have hrun : (execOp a.eval o).run P w = .ok (.enter f (cf ++ c.args.map a.eval ++ cc)) w := by
                  have hb : fn.body.isNone = false := by
                    have := hcb.1
                    cases hbb : fn.body <;> simp [hbb] at this ⊢
                  have hn := hcb.2
                  have hb' : ¬ fn.body = none := by intro he; rw [he] at hb; simp at hb
                  simp [execOp, hop, resolve, hc, hxx, Deferred.ofValue, invoke, callFunc, hfn, hn, hb']
                unfold Oper.wp
                rw [hrun]
                simp only [Oper.upon]
                obtain ⟨g1, g2⟩ := evs_VR hs c.args
                obtain ⟨k1, k2⟩ := args3_VR hf1 g1 hc1 hf2 g2 hc2
                have hst : ∀ {v : Value} {d : V}, VR E st w v d → VR E { st with kills := [] } w v d := fun h => h.same rfl rfl
                refine Calls.mono (hC _ _ _ _ _ hcall E w _ (hw.same rfl rfl) hfl k1 (fun k hk => hst (k2 k hk))) ?_
                rintro e w' ⟨cv, E', rfl, hv, hw', hseg⟩
                have hS : Step st1.kills E st w E' { st1 with kills := st1.kills ++ st.kills } w' :=
                  (((step_same (E := E) (w := w) (st := st) (st' := { st with kills := [] }) rfl rfl).more (fun F hF => by simp at hF)).trans (Nat.le_refl _) hseg.step).trans hseg.size
                    ((step_same (E := E') (w := w') (st := st1) (st' := { st1 with kills := st1.kills ++ st.kills }) rfl rfl).more (fun F hF => by simp at hF))
                refine hK _ _ E' (hput _ _ _) (hw'.same rfl rfl) ?_ ?_
                · refine SR.put (st := { st1 with kills := st1.kills ++ st.kills }) (ts := a.tmps) ?_ (hv.same rfl rfl) o.dst a.defers
                  rw [kill_all]
                  exact hs.step hS
                · exact ⟨hS.more (fun F hF => by simp [hF]), hseg.size, hseg.keep, hseg.muts, hseg.lo, hseg.flo, hseg.hlen, hseg.flen, hseg.fams,
                    fun F hF => by simp [hF], hseg.boxE, hseg.quiet⟩
theorem Seg.flo_le {E E' : Env} {st st' : St} {w w' : World} (h : Seg E st w E' st' w') (hfl : st.flo ≤ st.fams.length) : st'.flo ≤ st'.fams.length := by
  rw [h.flo]; exact Nat.le_trans hfl h.flen
theorem ops_sim (hC : CallOK P call) (d : Bool) : ∀ (l : List Oper) (E : Env) (w : World) (a : Act) (s s' : List V) (st st' : St), WR E st w → SR E st w a.tmps s → st.flo ≤ st.fams.length →
    opsRun P call d all l s st = some (s', st') →
    (∀ a' w' E', a'.defers = a.defers → WR E' st' w' → SR E' st' w' a'.tmps s' → Seg E st w E' st' w' → Q .normal a' w') →
    wpList P all Q l a w := by
  intro l
  induction l with
  | nil =>
    intro E w a s s' st st' hw hs hfl h hQ
    simp only [opsRun, Option.some.injEq, Prod.mk.injEq] at h
    obtain ⟨rfl, rfl⟩ := h
    exact hQ a w E rfl hw hs (.refl _ _ _)
  | cons o l ih =>
    intro E w a s s' st st' hw hs hfl h hQ
    unfold opsRun at h
    cases ho : opRun P call all o s st with
    | none => rw [ho] at h; simp at h
    | some r =>
      obtain ⟨s1, st1⟩ := r
      rw [ho] at h
      simp only at h
      split at h
      · simp at h
      refine wpList_step fun K hKK => ?_
      refine op_sim hC hw hs hfl ho fun a' w' E' hd hw' hs' hseg => hKK _ _ ?_
      refine ih E' w' a' s1 s' st1 st' hw' hs' (hseg.flo_le hfl) h fun a2 w2 E2 hd2 hw2 hs2 hseg2 => ?_
      exact hQ a2 w2 E2 (hd2.trans hd) hw2 hs2 (hseg.trans hseg2)
end
end Go.Abs

namespace Go.Abs
open Go
section
variable {P : Program} {C : Cfg} {call : FuncId → List V → St → Option (V × St)} {ops : Array Oper} {o q : Oper} {s s' s1 : List V} {st st' st1 : St} {v : V}
/-- two lists of slots tell an operation the same -/
def Alike (ops : Array Oper) (o : Oper) (s s' : List V) : Prop := ∀ t, t ∈ o.looksAt ops → s[t]? = s'[t]?
theorem Alike.ev (h : Alike ops o s s') {x : Operand} (hx : x ∈ o.op.operands) : ev s x = ev s' x := by
  cases x with
  | tmp t =>
    have := h t (List.mem_append_left _ (List.mem_filterMap.2 ⟨.tmp t, by simpa using hx, rfl⟩))
    simp [Abs.ev, List.getD_eq_getElem?_getD, this]
  | _ => rfl
theorem Alike.evs (h : Alike ops o s s') {xs : Array Operand} (hx : ∀ x ∈ xs, x ∈ o.op.operands) : xs.toList.map (Abs.ev s) = xs.toList.map (Abs.ev s') :=
  List.map_congr_left fun x hm => h.ev (hx x (by simpa using hm))
theorem Alike.parts (h : Alike ops o s s') {ps : Array (Nat × Operand)} (hx : ∀ p ∈ ps, p.2 ∈ o.op.operands) :
    (ps.toList.map fun p => (p.1, Abs.ev s p.2)) = (ps.toList.map fun p => (p.1, Abs.ev s' p.2)) :=
  List.map_congr_left fun p hm => by rw [h.ev (hx p (by simpa using hm))]
theorem Alike.wanted (h : Alike ops o s s') : wantedB ops s o = wantedB ops s' o := by
  unfold wantedB
  cases hg : o.guard with
  | none => rfl
  | some gw =>
    obtain ⟨j, want⟩ := gw
    simp only
    cases hd : (ops[j]?).bind (·.dst) with
    | none => rfl
    | some d =>
      have : s[d]? = s'[d]? := h d (by simp [Oper.looksAt, hg, hd])
      simp only [this]
/-- the outcome but for the slots -/
def Out.same (s s' : List V) (kl : Nat) : Option Out → Option Out → Prop
  | none, none => True
  | some (.val v s1 st1), some (.val v' s1' st1') => v = v' ∧ st1 = st1' ∧ (st1.kills.length = kl → s1 = s ∧ s1' = s')
  | some (.call f args), some (.call f' args') => f = f' ∧ args = args'
  | _, _ => False
theorem Out.same_mk (y : Option V) (kl : Nat) : Out.same s s' kl (mk s st y) (mk s' st y) := by
  cases y <;> simp [mk, Out.same]
theorem Out.same_mkS (y : Option (V × St)) (kl : Nat) : Out.same s s' kl (mkS s y) (mkS s' y) := by
  cases y <;> simp [mkS, Out.same]
theorem store_alike (t : TypeId) (p v : V) : Out.same s s' st.kills.length ((storeB P s st t p v).map fun p => .val (.tup []) p.1 p.2) ((storeB P s' st t p v).map fun p => .val (.tup []) p.1 p.2) := by
  unfold storeB
  cases v.flat with
  | none => trivial
  | some vc =>
    simp only
    split
    rotate_left
    · trivial
    cases p with
    | ptr i off =>
      simp only
      split
      rotate_left
      · trivial
      cases st.heap[i]? with
      | none => trivial
      | some bx =>
        cases bx with
        | mapo es => trivial
        | cells cs =>
          simp only
          split
          · exact ⟨rfl, rfl, fun _ => ⟨rfl, rfl⟩⟩
          · trivial
    | eptr tk idx off e =>
      cases tk with
      | own F ep =>
        simp only
        split
        rotate_left
        · trivial
        cases st.fams[F]? with
        | none => trivial
        | some f =>
          cases e.flat with
          | none => trivial
          | some ec =>
            simp only
            split
            · exact ⟨rfl, rfl, fun h => by simp at h⟩
            · trivial
      | _ => trivial
    | _ => trivial
theorem append_alike (t : TypeId) (x : V) (szy : Nat) (ys : List V) : Out.same s s' st.kills.length (mk3 (appendB P t x szy ys s st)) (mk3 (appendB P t x szy ys s' st)) := by
  have ok : ∀ (v : V) (st1 : St), Out.same s s' st.kills.length (mk3 (some (v, s, st1))) (mk3 (some (v, s', st1))) := fun v st1 => ⟨rfl, rfl, fun _ => ⟨rfl, rfl⟩⟩
  unfold appendB
  cases P.underlying t with
  | none => trivial
  | some du =>
    cases du with
    | slice elem =>
      simp only
      cases sizeB P elem with
      | none => trivial
      | some n =>
        cases n with
        | zero => trivial
        | succ n =>
          cases bytesB P elem with
          | none => trivial
          | some b =>
            cases b with
            | zero => trivial
            | succ b =>
              cases x with
              | list tk off sz xs =>
                simp only
                split
                rotate_left
                · trivial
                cases tk with
                | nil => simp only; split <;> exact ok _ _
                | clip =>
                  simp only
                  split
                  · split <;> exact ok _ _
                  · trivial
                | own F ep =>
                  simp only
                  split
                  rotate_left
                  · trivial
                  cases st.fams[F]? with
                  | none => trivial
                  | some f =>
                    simp only
                    split
                    rotate_left
                    · trivial
                    split
                    · exact ok _ _
                    · split
                      · exact ⟨rfl, rfl, fun h => by simp at h⟩
                      · trivial
                | ro => trivial
              | _ => trivial
    | _ => trivial
theorem clear_alike (t : TypeId) (x : V) : Out.same s s' st.kills.length ((clearB P t x s st).map fun p => .val (.tup []) p.1 p.2) ((clearB P t x s' st).map fun p => .val (.tup []) p.1 p.2) := by
  unfold clearB
  split
  · exact ⟨rfl, rfl, fun _ => ⟨rfl, rfl⟩⟩
  · split
    · split
      · split
        · refine ⟨rfl, rfl, fun h => ?_⟩
          simp at h
        · trivial
      · trivial
    · trivial
  · trivial
theorem builtin_alike (b : Builtin) (ts : Array TypeId) (args : List V) : Out.same s s' st.kills.length (builtinB P b ts args s st) (builtinB P b ts args s' st) := by
  unfold builtinB
  split
  · cases ts[0]? with
    | none => trivial
    | some t => split <;> (try split) <;> first | exact Out.same_mk _ _ | trivial
  · cases ts[0]? with
    | none => trivial
    | some t => split <;> (try split) <;> first | exact Out.same_mk _ _ | trivial
  · cases ts[0]? with
    | none => trivial
    | some t =>
      split
      · exact append_alike _ _ _ _
      · trivial
  · cases ts[0]? with
    | none => trivial
    | some t => split <;> (try split) <;> first | exact Out.same_mk _ _ | trivial
  · cases ts[0]? with
    | none => trivial
    | some t => split <;> (try split) <;> first | exact Out.same_mk _ _ | trivial
  · cases ts[0]? with
    | none => trivial
    | some t => exact clear_alike _ _
  · exact Out.same_mk _ _
  · exact Out.same_mk _ _
  · trivial
theorem aop_alike (h : Alike ops o s s') : Out.same s s' st.kills.length (aop P s o st) (aop P s' o st) := by
  have he : ∀ x, x ∈ o.op.operands → ev s x = ev s' x := fun x hx => h.ev hx
  unfold aop
  cases hop : o.op with
  | move x => rw [hop] at he; simp only [he x (by simp [Op.operands])]; exact Out.same_mk _ _
  | assign x => rw [hop] at he; simp only [he x (by simp [Op.operands])]; exact Out.same_mk _ _
  | pick c a b =>
    rw [hop] at he
    simp only [he a (by simp [Op.operands]), he b (by simp [Op.operands]), he c (by simp [Op.operands])]
    split <;> first | exact Out.same_mk _ _ | trivial
  | alloc t =>
    simp only
    cases (zeroB P t).bind V.flat with
    | none => trivial
    | some cs => exact ⟨rfl, rfl, fun _ => ⟨rfl, rfl⟩⟩
  | box t x =>
    rw [hop] at he
    simp only [he x (by simp [Op.operands])]
    cases (ev s' x).flat with
    | none => trivial
    | some cs => exact ⟨rfl, rfl, fun _ => ⟨rfl, rfl⟩⟩
  | build t ps =>
    have := h.parts (ps := ps) (fun p hp => by rw [hop]; simp only [Op.operands]; simp; exact ⟨p.1, hp⟩)
    simp only [this]
    exact Out.same_mk _ _
  | buildSlice t n ps =>
    have := h.parts (ps := ps) (fun p hp => by rw [hop]; simp only [Op.operands]; simp; exact ⟨p.1, hp⟩)
    simp only [this]
    exact Out.same_mk _ _
  | load t x => rw [hop] at he; simp only [he x (by simp [Op.operands])]; exact Out.same_mk _ _
  | makeMap t r =>
    cases r with
    | none => exact ⟨rfl, rfl, fun _ => ⟨rfl, rfl⟩⟩
    | some r => trivial
  | lookup t m k ok =>
    rw [hop] at he
    simp only [he m (by simp [Op.operands]), he k (by simp [Op.operands])]
    exact Out.same_mk _ _
  | mapUpdate t m k x =>
    rw [hop] at he
    simp only [he m (by simp [Op.operands]), he k (by simp [Op.operands]), he x (by simp [Op.operands])]
    cases updateK P st t (ev s' m) (ev s' k) (ev s' x) with
    | none => trivial
    | some st' => exact ⟨rfl, rfl, fun _ => ⟨rfl, rfl⟩⟩
  | insert t m k x =>
    rw [hop] at he
    simp only [he m (by simp [Op.operands]), he k (by simp [Op.operands]), he x (by simp [Op.operands])]
    cases updateK P st t (ev s' m) (ev s' k) (ev s' x) with
    | none => trivial
    | some st' => exact ⟨rfl, rfl, fun _ => ⟨rfl, rfl⟩⟩
  | store t x y =>
    rw [hop] at he
    simp only [he x (by simp [Op.operands]), he y (by simp [Op.operands])]
    exact store_alike _ _ _
  | nilCheck x =>
    rw [hop] at he
    simp only [he x (by simp [Op.operands])]
    split <;> first | exact Out.same_mk _ _ | trivial
  | binOp op t x y z =>
    rw [hop] at he
    simp only [he x (by simp [Op.operands]), he y (by simp [Op.operands])]
    exact Out.same_mk _ _
  | unOp op t x =>
    rw [hop] at he
    simp only [he x (by simp [Op.operands])]
    split <;> first | exact Out.same_mk _ _ | trivial
  | convert t u x => rw [hop] at he; simp only [he x (by simp [Op.operands])]; exact Out.same_mkS _ _
  | makeInterface t x =>
    rw [hop] at he
    simp only [he x (by simp [Op.operands])]
    split <;> first | exact Out.same_mk _ _ | trivial
  | makeFunc fn first cap =>
    simp only
    rw [h.evs (xs := first) (fun x hx => by rw [hop]; simp [Op.operands, hx]), h.evs (xs := cap) (fun x hx => by rw [hop]; simp [Op.operands, hx])]
    exact Out.same_mk _ _
  | makeSlice t x y =>
    rw [hop] at he
    simp only [he x (by simp [Op.operands]), he y (by simp [Op.operands])]
    split
    · split
      · split
        · exact ⟨rfl, rfl, fun _ => ⟨rfl, rfl⟩⟩
        · trivial
      · trivial
    · trivial
  | slice t x lo hi mx =>
    rw [hop] at he
    cases mx with
    | some m => trivial
    | none =>
      have e1 : lo.map (ev s) = lo.map (ev s') := by
        cases lo with
        | none => rfl
        | some l => simp only [Option.map_some, he l (by simp [Op.operands])]
      have e2 : hi.map (ev s) = hi.map (ev s') := by
        cases hi with
        | none => rfl
        | some l => simp only [Option.map_some, he l (by simp [Op.operands])]
      simp only [he x (by simp [Op.operands]), e1, e2]
      exact Out.same_mk _ _
  | fieldAddr t x f => rw [hop] at he; simp only [he x (by simp [Op.operands])]; exact Out.same_mk _ _
  | field t x f => rw [hop] at he; simp only [he x (by simp [Op.operands])]; exact Out.same_mk _ _
  | indexAddr t x y =>
    rw [hop] at he
    simp only [he x (by simp [Op.operands]), he y (by simp [Op.operands])]
    split <;> first | exact Out.same_mk _ _ | trivial
  | index t x y =>
    rw [hop] at he
    simp only [he x (by simp [Op.operands]), he y (by simp [Op.operands])]
    split <;> first | exact Out.same_mk _ _ | trivial
  | typeAssert x t1 t ok =>
    rw [hop] at he
    simp only [he x (by simp [Op.operands])]
    split <;> first | exact Out.same_mk _ _ | trivial | (split <;> exact Out.same_mk _ _)
  | extract x i =>
    rw [hop] at he
    simp only [he x (by simp [Op.operands])]
    split <;> first | exact Out.same_mk _ _ | trivial
  | call c =>
    rw [hop] at he
    simp only
    have ha := h.evs (xs := c.args) (fun x hx => by rw [hop]; simp [Op.operands, Call.operands, hx])
    cases hc : c.callee with
    | builtin b => simp only [ha]; exact builtin_alike _ _ _
    | invoke r m => trivial
    | value f =>
      simp only [ha, he f (by simp [Op.operands, Call.operands, hc])]
      split
      · split
        · exact ⟨rfl, rfl⟩
        · trivial
      · trivial
  | _ => trivial
/-- what an operation comes to, when no list dies -/
theorem opRun_alike (h : Alike ops o s s') (hr : opRun P call ops o s st = some (s1, st1)) (hk : st1.kills.length = st.kills.length) :
    ∃ v, s1 = putS s o.dst v ∧ opRun P call ops o s' st = some (putS s' o.dst v, st1) := by
  unfold opRun at hr ⊢
  rw [← h.wanted]
  cases hw : wantedB ops s o with
  | none => rw [hw] at hr; simp at hr
  | some b =>
    rw [hw] at hr
    cases b with
    | false =>
      simp only [Option.some.injEq, Prod.mk.injEq] at hr ⊢
      obtain ⟨rfl, rfl⟩ := hr
      exact ⟨_, rfl, rfl, rfl⟩
    | true =>
      simp only at hr ⊢
      have ha := aop_alike (P := P) (st := st) h
      cases ho : aop P s o st with
      | none => rw [ho] at hr; simp at hr
      | some out =>
        rw [ho] at hr ha
        cases ho' : aop P s' o st with
        | none => rw [ho'] at ha; cases out <;> exact ha.elim
        | some out' =>
          rw [ho'] at ha
          cases out with
          | val v s2 st2 =>
            cases out' with
            | call _ _ => exact ha.elim
            | val v' s2' st2' =>
              obtain ⟨rfl, rfl, hkk⟩ := ha
              simp only [Option.some.injEq, Prod.mk.injEq] at hr ⊢
              obtain ⟨rfl, rfl⟩ := hr
              obtain ⟨rfl, rfl⟩ := hkk hk
              exact ⟨v, rfl, rfl, rfl⟩
          | call f args =>
            cases out' with
            | val _ _ _ => exact ha.elim
            | call f' args' =>
              obtain ⟨rfl, rfl⟩ := ha
              simp only at hr ⊢
              cases hc : call f args { st with kills := [] } with
              | none => rw [hc] at hr; simp at hr
              | some r =>
                obtain ⟨v, st2⟩ := r
                rw [hc] at hr
                simp only [Option.some.injEq, Prod.mk.injEq] at hr ⊢
                obtain ⟨rfl, rfl⟩ := hr
                have hk0 : st2.kills = [] := by
                  simp only [List.length_append] at hk
                  exact List.length_eq_zero_iff.1 (by omega)
                rw [hk0]
                exact ⟨v, rfl, rfl, rfl⟩
end
end Go.Abs

namespace Go.Abs
open Go
/-- a call of a function of no note leaves the state as it is -/
def PureOK (C : Cfg) (call : FuncId → List V → St → Option (V × St)) : Prop :=
  ∀ f args st v st', C.keep f = false → call f args st = some (v, st') → st' = st
section
variable {P : Program} {C : Cfg} {call : FuncId → List V → St → Option (V × St)} {ops : Array Oper} {o q : Oper} {s s' s1 s2 : List V} {st st' st1 st2 : St} {v : V}
theorem aop_cls0 {out : Out} (hc : clsB C P o = 0) (h : aop P s o st = some out) : ∃ v, out = .val v s st ∧ ∀ st2, aop P s o st2 = some (.val v s st2) := by
  have mkv : ∀ (y : Option V), mk s st y = some out → ∃ v, out = .val v s st ∧ ∀ st2, mk s st2 y = some (.val v s st2) := by
    intro y hy
    cases y with
    | none => simp [mk] at hy
    | some v => simp only [mk, Option.map_some, Option.some.injEq] at hy; exact ⟨v, hy.symm, fun st2 => rfl⟩
  unfold clsB at hc
  unfold aop at h ⊢
  cases hop : o.op with
  | convert a b x =>
    rw [hop] at h hc
    simp only at h hc ⊢
    unfold convB at h ⊢
    cases ha : P.underlying a with
    | none => simp [ha, mkS] at h
    | some da =>
      cases hb : P.underlying b with
      | none => rw [ha, hb] at h; cases da <;> simp [mkS] at h
      | some db =>
        rw [ha, hb] at h
        rw [hb] at hc
        cases db with
        | slice e => simp at hc
        | int k =>
          cases da <;> cases hx : ev s x <;> rw [hx] at h <;> simp [mkS] at h ⊢
          first | exact ⟨_, h.symm, fun _ => rfl⟩ | exact h.symm
        | string =>
          cases da with
          | string => cases hx : ev s x <;> rw [hx] at h <;> simp [mkS] at h ⊢; first | exact ⟨_, h.symm, fun _ => rfl⟩ | exact h.symm
          | slice e =>
            cases hx : ev s x with
            | list t off sz xs =>
              rw [hx] at h
              simp only at h ⊢
              split at h
              · rename_i heq
                try simp only [heq]
                split at h
                · rename_i hcnd
                  simp only [hcnd, if_true]
                  cases hm : xs.mapM byteB with
                  | none => rw [hm] at h; simp [mkS] at h
                  | some m => rw [hm] at h; simp only [mkS, Option.map_some, Option.some.injEq] at h ⊢; exact ⟨_, h.symm, fun _ => rfl⟩
                · simp [mkS] at h
              · simp [mkS] at h
            | _ => rw [hx] at h; simp [mkS] at h
          | _ => cases hx : ev s x <;> rw [hx] at h <;> simp [mkS] at h
        | _ => cases da <;> cases hx : ev s x <;> rw [hx] at h <;> simp [mkS] at h
  | load t x => rw [hop] at hc; simp at hc
  | call c =>
    rw [hop] at h hc
    simp only at h hc ⊢
    cases hcal : c.callee with
    | invoke r m => rw [hcal] at h; simp at h
    | value f =>
      rw [hcal] at hc
      exfalso
      try simp only at hc
      split at hc
      · rename_i heq; exact absurd heq (by simp)
      · split at hc <;> simp at hc
      · simp at hc
    | builtin b =>
      rw [hcal] at h hc
      simp only at h hc ⊢
      unfold builtinB at h ⊢
      split at h
      · try simp only
        split at h
        · rename_i heq; (try simp only [heq]); split at h
          · rename_i heq2; (try simp only [heq2]); exact mkv _ h
          · simp at h
        · simp at h
      · try simp only
        split at h
        · rename_i heq; (try simp only [heq]); split at h
          · rename_i heq2; (try simp only [heq2]); exact mkv _ h
          · simp at h
        · simp at h
      · simp at hc
      · try simp only
        split at h
        · rename_i heq; (try simp only [heq]); split at h
          · rename_i heq2; (try simp only [heq2]); exact mkv _ h
          · simp at h
        · simp at h
      · try simp only
        split at h
        · rename_i heq; (try simp only [heq]); split at h
          · rename_i heq2; (try simp only [heq2]); exact mkv _ h
          · simp at h
        · simp at h
      · simp at hc
      · exact mkv _ h
      · exact mkv _ h
      · simp at h
  | pick c a b =>
    rw [hop] at h
    simp only at h ⊢
    split at h
    · exact mkv _ h
    · exact mkv _ h
    · simp at h
  | nilCheck x =>
    rw [hop] at h
    simp only at h ⊢
    split at h
    · exact mkv _ h
    · exact mkv _ h
    · exact mkv _ h
    · simp at h
  | unOp op t x =>
    rw [hop] at h
    simp only at h ⊢
    split at h
    · exact mkv _ h
    · exact mkv _ h
    · simp at h
  | makeInterface t x =>
    rw [hop] at h
    simp only at h ⊢
    split at h
    · simp at h
    · exact mkv _ h
    · simp at h
  | slice t x lo hi mx =>
    rw [hop] at h
    cases mx with
    | some m => simp at h
    | none => simp only at h ⊢; exact mkv _ h
  | indexAddr t x y =>
    rw [hop] at h
    simp only at h ⊢
    split at h
    · exact mkv _ h
    · simp at h
  | index t x y =>
    rw [hop] at h
    simp only at h ⊢
    split at h
    · exact mkv _ h
    · simp at h
  | typeAssert x t1 t ok =>
    rw [hop] at h
    simp only at h ⊢
    split at h
    · simp at h
    · simp at h
    · exact mkv _ h
    · split at h
      · rename_i hh; simp only [hh, if_true]; exact mkv _ h
      · rename_i hh; simp only [hh, if_false]; exact mkv _ h
    · simp at h
  | extract x i =>
    rw [hop] at h
    simp only at h ⊢
    split at h
    · exact mkv _ h
    · simp at h
  | _ => rw [hop] at h hc; first | (simp at hc; done) | exact mkv _ h | (simp at h; done)
theorem opRun_cls0 (hc : clsB C P o = 0) (h : opRun P call ops o s st = some (s1, st1)) : st1 = st ∧ ∀ st2, opRun P call ops o s st2 = some (s1, st2) := by
  unfold opRun at h ⊢
  cases hw : wantedB ops s o with
  | none => rw [hw] at h; simp at h
  | some b =>
    rw [hw] at h
    cases b with
    | false =>
      simp only [Option.some.injEq, Prod.mk.injEq] at h ⊢
      exact ⟨h.2.symm, fun _ => by simp [h.1]⟩
    | true =>
      simp only at h ⊢
      cases ho : aop P s o st with
      | none => rw [ho] at h; simp at h
      | some out =>
        obtain ⟨v, rfl, hall⟩ := aop_cls0 hc ho
        rw [ho] at h
        simp only [Option.some.injEq, Prod.mk.injEq] at h
        exact ⟨h.2.symm, fun st2 => by rw [hall st2]; simp only [h.1]⟩
theorem opRun_cls1 (hp : PureOK C call) (hc : clsB C P o = 1) (h : opRun P call ops o s st = some (s1, st1)) : st1 = st := by
  unfold opRun at h
  cases hw : wantedB ops s o with
  | none => rw [hw] at h; simp at h
  | some b =>
    rw [hw] at h
    cases b with
    | false => simp only [Option.some.injEq, Prod.mk.injEq] at h; exact h.2.symm
    | true =>
      simp only at h
      unfold clsB at hc
      cases hop : o.op with
      | load t x =>
        unfold aop at h
        rw [hop] at h
        simp only at h
        cases hl : loadB P st t (ev s x) with
        | none => rw [hl] at h; simp [mk] at h
        | some v => rw [hl] at h; simp [mk] at h; exact h.2.symm
      | call c =>
        rw [hop] at hc
        simp only at hc
        cases hcal : c.callee with
        | invoke r m => rw [hcal] at hc; simp at hc
        | builtin b => rw [hcal] at hc; cases b <;> simp at hc
        | value x =>
          rw [hcal] at hc
          try simp only at hc
          split at hc
          · rename_i heq; exact absurd heq (by simp)
          · rename_i f heq
            simp only [Callee.value.injEq] at heq
            subst heq
            split at hc
            · simp at hc
            rename_i hke
            simp only [Bool.not_eq_true] at hke
            cases ho : aop P s o st with
            | none => rw [ho] at h; simp at h
            | some out =>
              rw [ho] at h
              cases out with
              | val v s2 st2 =>
                exfalso
                unfold aop at ho
                rw [hop] at ho
                simp only [hcal, ev] at ho
                split at ho <;> simp at ho
              | call g args =>
                obtain ⟨c', x, first, cap, hop', hc', hx, _, _⟩ := aop_call ho
                rw [hop] at hop'
                injection hop' with hop'
                subst hop'
                rw [hcal] at hc'
                injection hc' with hc'
                subst hc'
                simp only [ev, V.func.injEq, Fn.func.injEq] at hx
                obtain ⟨rfl, _⟩ := hx
                simp only at h
                cases hcall : call f args { st with kills := [] } with
                | none => rw [hcall] at h; simp at h
                | some r =>
                  obtain ⟨v, st2⟩ := r
                  rw [hcall] at h
                  have := hp _ _ _ _ _ hke hcall
                  subst this
                  simp only [Option.some.injEq, Prod.mk.injEq, List.nil_append] at h
                  exact h.2.symm
          · simp at hc
      | convert a b x => rw [hop] at hc; simp only at hc; split at hc <;> simp at hc
      | _ => rw [hop] at hc; simp at hc
end
end Go.Abs

namespace Go.Abs
open Go
section
variable {P : Program} {C : Cfg} {call : FuncId → List V → St → Option (V × St)} {ops : Array Oper} {o q : Oper} {s s' s1 s2 : List V} {st st' st1 st2 : St} {v : V}
theorem alike_put (h : ∀ d, q.dst = some d → d ∉ o.looksAt ops) (s : List V) (v : V) : Alike ops o (putS s q.dst v) s := by
  intro t ht
  cases hd : q.dst with
  | none => rfl
  | some d =>
    have hne : d ≠ t := fun e => h d hd (e ▸ ht)
    simp [putS, hne]
theorem putS_comm (h : ∀ d, q.dst = some d → o.dst ≠ some d) (s : List V) (v u : V) : putS (putS s q.dst v) o.dst u = putS (putS s o.dst u) q.dst v := by
  cases hq : q.dst with
  | none => rfl
  | some d =>
    cases ho : o.dst with
    | none => rfl
    | some e =>
      have hne : d ≠ e := fun he => h d hq (he ▸ ho)
      simp only [putS]
      exact List.set_comm _ _ hne
def swapOK (C : Cfg) (P : Program) (ops : Array Oper) (q o : Oper) : Bool :=
  q.apart ops o && (clsB C P q == 0 || clsB C P o == 0 || (clsB C P q == 1 && clsB C P o == 1))
theorem Alike.symm (h : Alike ops o s s') : Alike ops o s' s := fun t ht => (h t ht).symm
theorem swap (hp : PureOK C call) (hsw : swapOK C P ops q o = true) (hq : opRun P call ops q s st = some (s1, st1)) (hk1 : st1.kills.length = st.kills.length)
    (ho : opRun P call ops o s1 st1 = some (s2, st2)) (hk2 : st2.kills.length = st1.kills.length) :
    ∃ so sto, opRun P call ops o s st = some (so, sto) ∧ sto.kills.length = st.kills.length ∧ opRun P call ops q so sto = some (s2, st2) := by
  simp only [swapOK, Bool.and_eq_true, Bool.or_eq_true, beq_iff_eq] at hsw
  obtain ⟨hap, hcls⟩ := hsw
  obtain ⟨a1, a2, a3⟩ := Oper.apart_spec hap
  obtain ⟨vq, rfl, _⟩ := opRun_alike (s' := s) (fun t _ => rfl) hq hk1
  obtain ⟨vo, rfl, ho'⟩ := opRun_alike (alike_put a1 s vq) ho hk2
  have hq' : opRun P call ops q (putS s o.dst vo) st = some (putS (putS s o.dst vo) q.dst vq, st1) := by
    obtain ⟨v, h1, h2⟩ := opRun_alike (s' := putS s o.dst vo) (alike_put (q := o) (o := q) a3 s vo).symm hq hk1
    rw [h2]
    cases hd : q.dst with
    | none => rfl
    | some d =>
      rw [hd] at h1
      simp only [putS] at h1 ⊢
      rcases Nat.lt_or_ge d s.length with hlt | hge
      · have : (s.set d vq)[d]? = (s.set d v)[d]? := by rw [h1]
        simp [hlt] at this
        rw [this]
      · have hl : (putS s o.dst vo).length = s.length := by cases o.dst <;> simp [putS]
        simp only [putS] at hl
        rw [List.set_eq_of_length_le (by rw [hl]; exact hge), List.set_eq_of_length_le (by rw [hl]; exact hge)]
  have hfin : putS (putS s o.dst vo) q.dst vq = putS (putS s q.dst vq) o.dst vo := (putS_comm a2 s vq vo).symm
  rw [hfin] at hq'
  rcases hcls with (h0 | h0) | ⟨h0, h1⟩
  · obtain ⟨rfl, _⟩ := opRun_cls0 h0 hq
    exact ⟨_, _, ho', hk2, (opRun_cls0 h0 hq').2 st2⟩
  · obtain ⟨rfl, hall⟩ := opRun_cls0 h0 ho'
    exact ⟨_, _, hall st, rfl, hq'⟩
  · have e1 := opRun_cls1 hp h0 hq
    subst e1
    have e2 := opRun_cls1 hp h1 ho'
    subst e2
    exact ⟨_, _, ho', rfl, hq'⟩
theorem addr_load {x : Nat} (h : addrB o = some (false, x)) : ∃ t, o.op = .load t (.tmp x) := by
  unfold addrB at h
  split at h <;> simp at h
  rename_i t y hy
  exact ⟨t, by rw [hy, h]⟩
theorem addr_store {x : Nat} (h : addrB o = some (true, x)) : ∃ t v, o.op = .store t (.tmp x) v := by
  unfold addrB at h
  split at h <;> simp at h
  rename_i t y v hy
  exact ⟨t, v, by rw [hy, h]⟩
theorem load_far {x : Nat} (ha : addrB o = some (false, x)) (h : opRun P call ops o s st = some (s1, st1)) :
    st1 = st ∧ ∀ st2 : St, (∀ i off, s.getD x .any = .ptr i off → st2.heap[i]? = st.heap[i]?) → opRun P call ops o s st2 = some (s1, st2) := by
  obtain ⟨t, hop⟩ := addr_load ha
  unfold opRun at h ⊢
  cases hw : wantedB ops s o with
  | none => rw [hw] at h; simp at h
  | some b =>
    rw [hw] at h
    cases b with
    | false => simp only [Option.some.injEq, Prod.mk.injEq] at h ⊢; exact ⟨h.2.symm, fun _ _ => by simp [h.1]⟩
    | true =>
      unfold aop at h ⊢
      rw [hop] at h ⊢
      simp only [ev] at h ⊢
      cases hl : loadB P st t (s.getD x .any) with
      | none => rw [hl] at h; simp [mk] at h
      | some v =>
        rw [hl] at h
        simp only [mk, Option.map_some, Option.some.injEq, Prod.mk.injEq] at h
        refine ⟨h.2.symm, fun st2 h2 => ?_⟩
        have : loadB P st2 t (s.getD x .any) = some v := by
          rw [← hl]
          cases hx : s.getD x .any with
          | ptr i off => unfold loadB; simp only; rw [h2 i off hx]
          | _ => rfl
        rw [this]
        simp [mk, h.1]
theorem store_far {y : Nat} (ha : addrB o = some (true, y)) (h : opRun P call ops o s st = some (s1, st1)) (hk : st1.kills.length = st.kills.length) :
    st1 = st ∨ ∃ j off, s.getD y .any = .ptr j off ∧ ∀ i, i ≠ j → st1.heap[i]? = st.heap[i]? := by
  obtain ⟨t, v, hop⟩ := addr_store ha
  unfold opRun at h
  cases hw : wantedB ops s o with
  | none => rw [hw] at h; simp at h
  | some b =>
    rw [hw] at h
    cases b with
    | false => simp only [Option.some.injEq, Prod.mk.injEq] at h; exact .inl h.2.symm
    | true =>
      unfold aop at h
      rw [hop] at h
      simp only [ev.eq_1] at h
      cases hst : storeB P s st t (s.getD y .any) (ev s v) with
      | none => rw [hst] at h; simp at h
      | some r =>
        rw [hst] at h
        simp only [Option.map_some, Option.some.injEq, Prod.mk.injEq] at h
        obtain ⟨_, h2⟩ := h
        unfold storeB at hst
        split at hst
        · split at hst
          · split at hst
            · rename_i i off hx
              split at hst
              · split at hst
                · split at hst
                  · simp only [Option.some.injEq] at hst
                    subst hst
                    subst h2
                    refine .inr ⟨_, _, hx, fun k hk => ?_⟩
                    simp only
                    rw [List.getElem?_set_ne (Ne.symm hk)]
                  · simp at hst
                · simp at hst
              · simp at hst
            · exfalso
              split at hst
              · split at hst
                · split at hst
                  · simp only [Option.some.injEq] at hst
                    subst hst
                    subst h2
                    simp at hk
                  · simp at hst
                · simp at hst
              · simp at hst
            · simp at hst
          · simp at hst
        · simp at hst
theorem putS_get {x : Nat} (h : q.dst ≠ some x) (s : List V) (v : V) : (putS s q.dst v).getD x .any = s.getD x .any := by
  cases hd : q.dst with
  | none => rfl
  | some d =>
    have hne : d ≠ x := fun e => h (by rw [hd, e])
    simp [putS, List.getD_eq_getElem?_getD, List.getElem?_set_ne hne]
theorem opsRun_keep {x : Nat} : ∀ (L : List Oper) (s : List V) (st : St), (∀ r ∈ L, r.dst ≠ some x) → opsRun P call true ops L s st = some (s', st') → s'.getD x .any = s.getD x .any := by
  intro L
  induction L with
  | nil => intro s st _ h; simp only [opsRun, Option.some.injEq, Prod.mk.injEq] at h; rw [h.1]
  | cons r L ih =>
    intro s st hr h
    unfold opsRun at h
    cases ho : opRun P call ops r s st with
    | none => rw [ho] at h; simp at h
    | some p =>
      obtain ⟨sq, stq⟩ := p
      rw [ho] at h
      simp only [Bool.true_and] at h
      split at h
      · simp at h
      rename_i hk
      obtain ⟨v, rfl, _⟩ := opRun_alike (s' := s) (fun t _ => rfl) ho (by simpa using hk)
      rw [ih _ _ (fun r' hr' => hr r' (by simp [hr'])) h, putS_get (hr r (by simp))]
theorem swap_far (hp : PureOK C call) (hap : q.apart ops o = true) {a b : Bool} {x y : Nat} (hqa : addrB q = some (a, x)) (hoa : addrB o = some (b, y)) (hab : a ≠ b)
    (hfar : farB s x y = true) (hxo : o.dst ≠ some x) (hyq : q.dst ≠ some y)
    (hq : opRun P call ops q s st = some (s1, st1)) (hk1 : st1.kills.length = st.kills.length)
    (ho : opRun P call ops o s1 st1 = some (s2, st2)) (hk2 : st2.kills.length = st1.kills.length) :
    ∃ so sto, opRun P call ops o s st = some (so, sto) ∧ sto.kills.length = st.kills.length ∧ opRun P call ops q so sto = some (s2, st2) := by
  obtain ⟨a1, a2, a3⟩ := Oper.apart_spec hap
  obtain ⟨vq, rfl, _⟩ := opRun_alike (s' := s) (fun t _ => rfl) hq hk1
  obtain ⟨vo, rfl, ho'⟩ := opRun_alike (alike_put a1 s vq) ho hk2
  have hq' : opRun P call ops q (putS s o.dst vo) st = some (putS (putS s o.dst vo) q.dst vq, st1) := by
    obtain ⟨v, h1, h2⟩ := opRun_alike (s' := putS s o.dst vo) (alike_put (q := o) (o := q) a3 s vo).symm hq hk1
    rw [h2]
    cases hd : q.dst with
    | none => rfl
    | some d =>
      rw [hd] at h1
      simp only [putS] at h1 ⊢
      rcases Nat.lt_or_ge d s.length with hlt | hge
      · have : (s.set d vq)[d]? = (s.set d v)[d]? := by rw [h1]
        simp [hlt] at this
        rw [this]
      · have hl : (putS s o.dst vo).length = s.length := by cases o.dst <;> simp [putS]
        simp only [putS] at hl
        rw [List.set_eq_of_length_le (by rw [hl]; exact hge), List.set_eq_of_length_le (by rw [hl]; exact hge)]
  have hfin : putS (putS s o.dst vo) q.dst vq = putS (putS s q.dst vq) o.dst vo := (putS_comm a2 s vq vo).symm
  rw [hfin] at hq'
  have hne : ∀ i o1 j o2, s.getD x .any = .ptr i o1 → s.getD y .any = .ptr j o2 → i ≠ j := by
    intro i o1 j o2 h1 h2
    unfold farB at hfar
    rw [h1, h2] at hfar
    simpa using hfar
  cases a with
  | false =>
    have hb : b = true := by cases b <;> simp_all
    subst hb
    obtain ⟨e1, _⟩ := load_far hqa hq
    subst e1
    refine ⟨_, _, ho', hk2, ?_⟩
    refine (load_far hqa hq').2 st2 fun i off hx => ?_
    rw [putS_get hxo] at hx
    rcases store_far hoa ho' hk2 with e2 | ⟨j, off2, hj, hh⟩
    · rw [e2]
    · exact hh i (hne _ _ _ _ hx hj)
  | true =>
    have hb : b = false := by cases b <;> simp_all
    subst hb
    obtain ⟨e2, hall⟩ := load_far hoa ho'
    subst e2
    refine ⟨_, st, hall st fun i off hy => ?_, rfl, hq'⟩
    rcases store_far hqa hq hk1 with e1 | ⟨j, off2, hj, hh⟩
    · rw [e1]
    · exact (hh i fun e => hne _ _ _ _ hj hy e.symm).symm
/-- o may go ahead of each of them -/
def Sw (C : Cfg) (P : Program) (ops : Array Oper) (s' : List V) (o : Oper) (post : List Oper) : List Oper → Prop
  | [] => True
  | q :: p => (swapOK C P ops q o = true ∨ (q.apart ops o = true ∧ ∃ a b x y, addrB q = some (a, x) ∧ addrB o = some (b, y) ∧ a ≠ b ∧ farB s' x y = true ∧
      ∀ r ∈ q :: (p ++ o :: post), r.dst ≠ some x ∧ r.dst ≠ some y)) ∧ Sw C P ops s' o post p
theorem bubble (hp : PureOK C call) (post : List Oper) : ∀ (pre : List Oper) (s : List V) (st : St), Sw C P ops s' o post pre →
    opsRun P call true ops (pre ++ o :: post) s st = some (s', st') →
    ∃ s1 st1, opRun P call ops o s st = some (s1, st1) ∧ st1.kills.length = st.kills.length ∧ opsRun P call true ops (pre ++ post) s1 st1 = some (s', st') := by
  intro pre
  induction pre with
  | nil =>
    intro s st _ h
    simp only [List.nil_append] at h ⊢
    unfold opsRun at h
    cases ho : opRun P call ops o s st with
    | none => rw [ho] at h; simp at h
    | some r =>
      obtain ⟨s1, st1⟩ := r
      rw [ho] at h
      simp only [Bool.true_and] at h
      split at h
      · simp at h
      rename_i hk
      exact ⟨s1, st1, rfl, by simpa using hk, h⟩
  | cons q pre ih =>
    intro s st hsw h
    have hall := h
    simp only [List.cons_append] at h hall ⊢
    unfold opsRun at h
    cases hq : opRun P call ops q s st with
    | none => rw [hq] at h; simp at h
    | some r =>
      obtain ⟨sq, stq⟩ := r
      rw [hq] at h
      simp only [Bool.true_and] at h
      split at h
      · simp at h
      rename_i hk
      have hk' : stq.kills.length = st.kills.length := by simpa using hk
      obtain ⟨s1, st1, h1, h2, h3⟩ := ih sq stq hsw.2 h
      have hsx : ∃ so sto, opRun P call ops o s st = some (so, sto) ∧ sto.kills.length = st.kills.length ∧ opRun P call ops q so sto = some (s1, st1) := by
        rcases hsw.1 with h0 | ⟨hap, a, b, x, y, g1, g2, g3, g4, g5⟩
        · exact swap hp h0 hq hk' h1 h2
        · refine swap_far hp hap g1 g2 g3 ?_ (g5 o (by simp)).1 (g5 q (by simp)).2 hq hk' h1 h2
          have e1 := opsRun_keep _ s st (fun r hr => (g5 r hr).1) hall
          have e2 := opsRun_keep _ s st (fun r hr => (g5 r hr).2) hall
          unfold farB at g4 ⊢
          rw [e1, e2] at g4
          exact g4
      obtain ⟨so, sto, g1, g2, g3⟩ := hsx
      refine ⟨so, sto, g1, g2, ?_⟩
      unfold opsRun
      rw [g3]
      have hk3 : st1.kills.length = sto.kills.length := by omega
      simp [hk3, h3]
/-- what drawF looks at, told -/
structure DrawOK (C : Cfg) (P : Program) (ops : Array Oper) (anc : Nat → List Nat) (far : Nat → Nat → Bool) : Prop where
  back : ∀ i o, ops[i]? = some o → ∀ e ∈ o.after, Region.binds .any e = true → e.on < i
  up : ∀ i o, ops[i]? = some o → ∀ j ∈ anc i, ∃ e ∈ o.after, Region.binds .any e = true ∧ (e.on = j ∨ j ∈ anc e.on)
  swap : ∀ i o j q, ops[i]? = some o → ops[j]? = some q → j < i → j ∈ anc i ∨ swapOK C P ops q o = true ∨
    (q.apart ops o = true ∧ ∃ a b x y, addrB q = some (a, x) ∧ addrB o = some (b, y) ∧ a ≠ b ∧ far x y = true ∧
      ∀ k r, ops[k]? = some r → (r.dst = some x → k ∈ anc j) ∧ (r.dst = some y → k ∈ anc i))
theorem owns_spec {as : List Nat} {x k : Nat} {r : Oper} (h : ownsB ops as x = true) (hr : ops[k]? = some r) (hd : r.dst = some x) : k ∈ as := by
  unfold ownsB at h
  rw [List.all_eq_true] at h
  have hk := (Array.getElem?_eq_some_iff.1 hr).1
  have := h k (by simp [hk])
  have hg : ops.getD k default = r := by simp [Array.getD_eq_getD_getElem?, hr]
  rw [hg, hd] at this
  simpa using this
theorem drawF_ok {far : Nat → Nat → Bool} (h : drawF C P ops far = true) : DrawOK C P ops (fun i => (ancB ops).getD i []) far := by
  unfold drawF at h
  simp only [List.all_eq_true, List.mem_range, Bool.and_eq_true] at h
  have hget : ∀ i o, ops[i]? = some o → ops.getD i default = o := fun i o ho => by simp [Array.getD_eq_getD_getElem?, ho]
  have hlt : ∀ i o, ops[i]? = some o → i < ops.size := fun i o ho => (Array.getElem?_eq_some_iff.1 ho).1
  refine ⟨fun i o ho e he hb => ?_, fun i o ho j hj => ?_, fun i o j q ho hq hji => ?_⟩
  · have := (h i (hlt i o ho)).1.1
    rw [hget i o ho] at this
    have := this e (by simpa using he)
    simpa [hb] using this
  · have := (h i (hlt i o ho)).1.2 j hj
    rw [hget i o ho, List.any_eq_true] at this
    obtain ⟨e, he, hh⟩ := this
    simp only [Bool.and_eq_true, Bool.or_eq_true, beq_iff_eq, List.contains_eq_mem, decide_eq_true_eq] at hh
    exact ⟨e, by simpa using he, hh.1, hh.2⟩
  · have := (h i (hlt i o ho)).2 j hji
    rw [hget i o ho, hget j q hq] at this
    rw [Bool.or_eq_true] at this
    rcases this with h1 | h1
    · exact .inl (by simpa using h1)
    · rw [Bool.and_eq_true, Bool.or_eq_true] at h1
      obtain ⟨h0, h1 | h1⟩ := h1
      · exact .inr (.inl (by unfold swapOK; rw [h0, h1]; rfl))
      · refine .inr (.inr ⟨h0, ?_⟩)
        split at h1
        · rename_i a x b y e1 e2
          simp only [Bool.and_eq_true, bne_iff_ne] at h1
          exact ⟨a, b, x, y, e1, e2, h1.1.1.1, h1.1.1.2, fun k r hr => ⟨owns_spec h1.1.2 hr, owns_spec h1.2 hr⟩⟩
        · simp at h1
theorem drawB_F {far : Nat → Nat → Bool} (h : drawB C P ops = true) : drawF C P ops far = true := by
  unfold drawB at h
  unfold drawF
  simp only [List.all_eq_true, List.mem_range, Bool.and_eq_true] at h ⊢
  refine fun i hi => ⟨(h i hi).1, fun j hj => ?_⟩
  have := (h i hi).2 j hj
  rw [Bool.or_eq_true] at this ⊢
  rcases this with h1 | h1
  · exact .inl h1
  · rw [Bool.and_eq_true] at h1
    refine .inr ?_
    rw [Bool.and_eq_true, Bool.or_eq_true]
    exact ⟨h1.1, .inl h1.2⟩
theorem DrawOK.anc_lt {anc : Nat → List Nat} {far : Nat → Nat → Bool} (hd : DrawOK C P ops anc far) : ∀ i, i < ops.size → ∀ j ∈ anc i, j < i := by
  intro i
  induction i using Nat.strongRecOn with
  | ind i ih =>
    intro hi j hj
    have ho : ops[i]? = some ops[i] := Array.getElem?_eq_getElem hi
    obtain ⟨e, he, hb, hor⟩ := hd.up i _ ho j hj
    have h1 := hd.back i _ ho e he hb
    rcases hor with rfl | h2
    · exact h1
    · exact Nat.lt_trans (ih e.on h1 (by omega) j h2) h1
theorem Sw_of {s' : List V} {post : List Oper} : ∀ (pre : List Oper), (∀ p1 q p2, pre = p1 ++ q :: p2 → swapOK C P ops q o = true ∨ (q.apart ops o = true ∧ ∃ a b x y, addrB q = some (a, x) ∧ addrB o = some (b, y) ∧ a ≠ b ∧ farB s' x y = true ∧
      ∀ r ∈ q :: (p2 ++ o :: post), r.dst ≠ some x ∧ r.dst ≠ some y)) → Sw C P ops s' o post pre := by
  intro pre
  induction pre with
  | nil => intro _; trivial
  | cons q p ih => exact fun h => ⟨h [] q p rfl, ih fun p1 q' p2 e => h (q :: p1) q' p2 (by rw [e]; rfl)⟩
theorem draw_sim {Q : Exit → Act → World → Prop} {anc : Nat → List Nat} (hC : CallOK P call) (hp : PureOK C call) (hd : DrawOK C P ops anc (farB s')) :
    ∀ (fuel : Nat) (listed : Array Bool) (R : List Nat) (E : Env) (w : World) (a : Act) (s : List V) (st st' : St),
    listed.size = ops.size → R.Pairwise (· < ·) → (∀ j, j ∈ R ↔ j < ops.size ∧ listed.getD j true = false) → R.length ≤ fuel →
    (∀ i, i < ops.size → listed.getD i false = true → ∀ j ∈ anc i, listed.getD j false = true) →
    WR E st w → SR E st w a.tmps s → st.flo ≤ st.fams.length →
    opsRun P call true ops (R.map fun i => ops.getD i default) s st = some (s', st') →
    (∀ a' w' E', a'.defers = a.defers → WR E' st' w' → SR E' st' w' a'.tmps s' → Seg E st w E' st' w' → Q .normal a' w') →
    wpAny P .any ops Q fuel listed a w := by
  intro fuel
  have noready : ∀ (listed : Array Bool) (R : List Nat), listed.size = ops.size → R.Pairwise (· < ·) → (∀ j, j ∈ R ↔ j < ops.size ∧ listed.getD j true = false) → Region.ready .any ops listed = [] → R = [] := by
    intro listed R hls hR hm hr
    cases R with
    | nil => rfl
    | cons r rest =>
      exfalso
      have hrm := (hm r).1 (by simp)
      have : r ∈ Region.ready .any ops listed := by
        rw [mem_ready]
        refine ⟨hrm.2, ops[r], Array.getElem?_eq_getElem hrm.1, fun e he hb => ?_⟩
        have hlt := hd.back r _ (Array.getElem?_eq_getElem hrm.1) e he hb
        have hnot : e.on ∉ r :: rest := by
          intro hmem
          rcases List.mem_cons.1 hmem with h1 | h1
          · omega
          · have := (List.pairwise_cons.1 hR).1 _ h1; omega
        have h2 : ¬ (e.on < ops.size ∧ listed.getD e.on true = false) := fun h => hnot ((hm _).2 h)
        have h3 : e.on < listed.size := by omega
        have h4 : listed.getD e.on true ≠ false := fun h => h2 ⟨by omega, h⟩
        simp only [Array.getD_eq_getD_getElem?, Array.getElem?_eq_getElem h3, Option.getD_some] at h4 ⊢
        simpa using h4
      rw [hr] at this
      simp at this
  induction fuel with
  | zero =>
    intro listed R E w a s st st' hls hR hm hlen hanc hw hs hfl h hQ
    have hnil : R = [] := List.length_eq_zero_iff.1 (by omega)
    subst hnil
    simp only [List.map_nil, opsRun, Option.some.injEq, Prod.mk.injEq] at h
    obtain ⟨rfl, rfl⟩ := h
    refine ⟨?_, hQ a w E rfl hw hs (.refl _ _ _)⟩
    rw [List.eq_nil_iff_forall_not_mem]
    intro i hi
    rw [mem_ready] at hi
    obtain ⟨h0, o, ho, _⟩ := hi
    have := (hm i).2 ⟨(Array.getElem?_eq_some_iff.1 ho).1, h0⟩
    simp at this
  | succ fuel ih =>
    intro listed R E w a s st st' hls hR hm hlen hanc hw hs hfl h hQ
    refine ⟨fun hr => ?_, fun i hi => ?_⟩
    · have hnil := noready listed R hls hR hm hr
      subst hnil
      simp only [List.map_nil, opsRun, Option.some.injEq, Prod.mk.injEq] at h
      obtain ⟨rfl, rfl⟩ := h
      exact hQ a w E rfl hw hs (.refl _ _ _)
    · rw [mem_ready] at hi
      obtain ⟨h0, o, ho, hall⟩ := hi
      have hin : i < ops.size := (Array.getElem?_eq_some_iff.1 ho).1
      have hiR : i ∈ R := (hm i).2 ⟨hin, h0⟩
      obtain ⟨pre, post, rfl⟩ := List.append_of_mem hiR
      have hgo : ops.getD i default = o := by simp [Array.getD_eq_getD_getElem?, ho]
      have hpw := List.pairwise_append.1 hR
      have hpre : ∀ j ∈ pre, j < i := fun j hj => hpw.2.2 j hj i (by simp)
      have hpost : ∀ j ∈ post, i < j := fun j hj => (List.pairwise_cons.1 hpw.2.1).1 j hj
      have hanci : ∀ j ∈ anc i, listed.getD j false = true := by
        intro j hj
        obtain ⟨e, he, hb, hor⟩ := hd.up i o ho j hj
        have hl := hall e he hb
        rcases hor with rfl | hj'
        · exact hl
        · have := hd.back i o ho e he hb
          exact hanc e.on (by omega) hl j hj'
      have hget2 : ∀ j, listed.getD j true = false → listed.getD j false = true → False := by
        intro j h1 h2
        simp only [Array.getD_eq_getD_getElem?] at h1 h2
        cases hx : listed[j]? with
        | none => rw [hx] at h1; simp at h1
        | some b => rw [hx] at h1 h2; simp at h1 h2; rw [h1] at h2; cases h2
      have hgjs : ∀ j, j < ops.size → ops[j]? = some (ops.getD j default) := fun j hj => by simp [Array.getD_eq_getD_getElem?, Array.getElem?_eq_getElem hj]
      have hsw : Sw C P ops s' o (post.map fun i => ops.getD i default) (pre.map fun i => ops.getD i default) := by
        refine Sw_of _ fun p1 q p2 e => ?_
        obtain ⟨l1, l2', e1, e2, e3⟩ := List.map_eq_append_iff.1 e
        obtain ⟨j, l2, rfl, rfl, rfl⟩ := List.map_eq_cons_iff.1 e3
        subst e1 e2
        obtain ⟨hjn, hjl⟩ := (hm j).1 (by simp)
        have hgj := hgjs j hjn
        rcases hd.swap i o j _ ho hgj (hpre j (by simp)) with h1 | h1 | ⟨hap, a, b, x, y, g1, g2, g3, g4, g5⟩
        · exact (hget2 j hjl (hanci j h1)).elim
        · exact .inl h1
        · refine .inr ⟨hap, a, b, x, y, g1, g2, g3, g4, fun r hr => ?_⟩
          have hex : ∃ k, k ∈ j :: (l2 ++ i :: post) ∧ ops.getD k default = r := by
            rcases List.mem_cons.1 hr with h1 | h1
            · exact ⟨j, by simp, h1.symm⟩
            · rcases List.mem_append.1 h1 with h1 | h1
              · obtain ⟨k, hk, e⟩ := List.mem_map.1 h1; exact ⟨k, by simp [hk], e⟩
              · rcases List.mem_cons.1 h1 with h1 | h1
                · exact ⟨i, by simp, by rw [hgo]; exact h1.symm⟩
                · obtain ⟨k, hk, e⟩ := List.mem_map.1 h1; exact ⟨k, by simp [hk], e⟩
          obtain ⟨k, hk, rfl⟩ := hex
          have hR2 : (j :: (l2 ++ i :: post)).Pairwise (· < ·) := by
            have : l1 ++ j :: l2 ++ i :: post = l1 ++ (j :: (l2 ++ i :: post)) := by simp
            rw [this] at hR
            exact (List.pairwise_append.1 hR).2.1
          have hkm : k ∈ l1 ++ j :: l2 ++ i :: post := by
            rcases List.mem_cons.1 hk with h1 | h1
            · simp [h1]
            · rcases List.mem_append.1 h1 with h1 | h1
              · simp [h1]
              · rcases List.mem_cons.1 h1 with h1 | h1 <;> simp [h1]
          obtain ⟨hkn, hkl⟩ := (hm k).1 hkm
          have hjk : j ≤ k := by
            rcases List.mem_cons.1 hk with h1 | h1
            · omega
            · exact Nat.le_of_lt ((List.pairwise_cons.1 hR2).1 k h1)
          obtain ⟨w1, w2⟩ := g5 k _ (hgjs k hkn)
          refine ⟨fun e => ?_, fun e => ?_⟩
          · have := hd.anc_lt j hjn k (w1 e); omega
          · exact hget2 k hkl (hanci k (w2 e))
      simp only [List.map_append, List.map_cons, hgo] at h
      obtain ⟨s1, st1, g1, g2, g3⟩ := bubble hp _ _ s st hsw h
      have hop := op_sim (Q := Q) (K := wpAny P .any ops Q fuel (listed.setIfInBounds i true)) hC hw hs hfl g1 (by
        intro a' w' E' hd' hw' hs' hseg
        refine ih _ (pre ++ post) E' w' a' s1 st1 st' (by simp [hls]) ?_ ?_ ?_ ?_ hw' hs' (hseg.flo_le hfl) (by rw [List.map_append]; exact g3) fun a2 w2 E2 hd2 hw2 hs2 hseg2 => ?_
        · exact hR.sublist (by simp)
        · intro j
          by_cases hij : i = j
          · subst hij
            constructor
            · intro hmem
              rcases List.mem_append.1 hmem with h1 | h1
              · have := hpre _ h1; omega
              · have := hpost _ h1; omega
            · rintro ⟨_, h1⟩
              simp [Array.getElem?_setIfInBounds_self_of_lt (by omega : i < listed.size)] at h1
          · rw [getD_set_ne true hij, ← hm j]
            simp [Ne.symm hij]
        · simp only [List.length_append, List.length_cons] at hlen ⊢; omega
        · intro k hk hlk j hj
          by_cases hik : i = k
          · subst hik
            exact getD_set_true (hanci j hj)
          · rw [getD_set_ne false hik] at hlk
            exact getD_set_true (hanc k hk hlk j hj)
        · exact hQ a2 w2 E2 (hd2.trans hd') hw2 hs2 (hseg.trans hseg2))
      unfold wpOp
      simp only [ho]
      split
      · rename_i hwd; simp only [hwd, if_true] at hop; exact .inl hop
      · rename_i hwd; simp only [hwd] at hop; exact hop
end
end Go.Abs

namespace Go.Abs
open Go
section
variable {P : Program} {C : Cfg} {call : FuncId → List V → St → Option (V × St)} {ops : Array Oper} {o q : Oper} {s s' s1 s2 : List V} {st st' st1 st2 : St} {v : V} {n : Nat}
/-- an operation; the region's new boxes stand ready from n on -/
def dOp (P : Program) (call : FuncId → List V → St → Option (V × St)) (n : Nat) (ops : Array Oper) (o : Oper) (s : List V) (st : St) : Option (List V × St) :=
  if isAlloc o = true then some (putS s o.dst (.ptr (n + allocIx ops o) 0), st) else opRun P call ops o s st
def dOps (P : Program) (call : FuncId → List V → St → Option (V × St)) (n : Nat) (ops : Array Oper) : List Oper → List V → St → Option (List V × St)
  | [], s, st => some (s, st)
  | o :: l, s, st =>
    match dOp P call n ops o s st with
    | some (s', st') => if st'.kills.length != st.kills.length then none else dOps P call n ops l s' st'
    | none => none
theorem dOp_al (h : isAlloc o = true) : dOp P call n ops o s st = some (putS s o.dst (.ptr (n + allocIx ops o) 0), st) := by unfold dOp; rw [if_pos h]
theorem dOp_no (h : isAlloc o = false) : dOp P call n ops o s st = opRun P call ops o s st := by unfold dOp; rw [if_neg (by simp [h])]
theorem addr_no {a : Bool} {x : Nat} (h : addrB o = some (a, x)) : isAlloc o = false := by
  cases a with
  | false => obtain ⟨t, h⟩ := addr_load h; simp [isAlloc, h]
  | true => obtain ⟨t, v, h⟩ := addr_store h; simp [isAlloc, h]
def swapG (C : Cfg) (P : Program) (ops : Array Oper) (q o : Oper) : Bool :=
  q.apart ops o && (isAlloc q || isAlloc o || clsB C P q == 0 || clsB C P o == 0 || (clsB C P q == 1 && clsB C P o == 1))
theorem putS_len (s : List V) (d : Option Nat) (v : V) : (putS s d v).length = s.length := by cases d <;> simp [putS]
/-- q behind o, from slots that o has changed -/
theorem opRun_put {vq vo : V} (a3 : ∀ d, o.dst = some d → d ∉ q.looksAt ops) (hq : opRun P call ops q s st = some (putS s q.dst vq, st1)) (hk1 : st1.kills.length = st.kills.length) :
    opRun P call ops q (putS s o.dst vo) st = some (putS (putS s o.dst vo) q.dst vq, st1) := by
  obtain ⟨v, h1, h2⟩ := opRun_alike (s' := putS s o.dst vo) (alike_put (q := o) (o := q) a3 s vo).symm hq hk1
  rw [h2]
  cases hd : q.dst with
  | none => rfl
  | some d =>
    rw [hd] at h1
    simp only [putS] at h1 ⊢
    rcases Nat.lt_or_ge d s.length with hlt | hge
    · have : (s.set d vq)[d]? = (s.set d v)[d]? := by rw [h1]
      simp [hlt] at this
      rw [this]
    · have hl : (putS s o.dst vo).length = s.length := putS_len _ _ _
      simp only [putS] at hl
      rw [List.set_eq_of_length_le (by rw [hl]; exact hge), List.set_eq_of_length_le (by rw [hl]; exact hge)]
theorem swapD (hp : PureOK C call) (hsw : swapG C P ops q o = true) (hq : dOp P call n ops q s st = some (s1, st1)) (hk1 : st1.kills.length = st.kills.length)
    (ho : dOp P call n ops o s1 st1 = some (s2, st2)) (hk2 : st2.kills.length = st1.kills.length) :
    ∃ so sto, dOp P call n ops o s st = some (so, sto) ∧ sto.kills.length = st.kills.length ∧ dOp P call n ops q so sto = some (s2, st2) := by
  have hsw' := hsw
  simp only [swapG, Bool.and_eq_true] at hsw
  obtain ⟨hap, hcls⟩ := hsw
  obtain ⟨a1, a2, a3⟩ := Oper.apart_spec hap
  cases hqa : isAlloc q with
  | true =>
    rw [dOp_al hqa] at hq
    simp only [Option.some.injEq, Prod.mk.injEq] at hq
    obtain ⟨rfl, rfl⟩ := hq
    cases hoa : isAlloc o with
    | true =>
      rw [dOp_al hoa] at ho
      simp only [Option.some.injEq, Prod.mk.injEq] at ho
      obtain ⟨rfl, rfl⟩ := ho
      refine ⟨_, _, dOp_al hoa, rfl, ?_⟩
      rw [dOp_al hqa, putS_comm a2]
    | false =>
      rw [dOp_no hoa] at ho
      obtain ⟨vo, rfl, ho'⟩ := opRun_alike (alike_put a1 s _) ho hk2
      refine ⟨_, _, by rw [dOp_no hoa]; exact ho', hk2, ?_⟩
      rw [dOp_al hqa, putS_comm a2]
  | false =>
    rw [dOp_no hqa] at hq
    cases hoa : isAlloc o with
    | true =>
      rw [dOp_al hoa] at ho
      simp only [Option.some.injEq, Prod.mk.injEq] at ho
      obtain ⟨rfl, rfl⟩ := ho
      obtain ⟨vq, rfl, _⟩ := opRun_alike (s' := s) (fun t _ => rfl) hq hk1
      refine ⟨_, _, dOp_al hoa, rfl, ?_⟩
      rw [dOp_no hqa, opRun_put a3 hq hk1, putS_comm a2]
    | false =>
      rw [dOp_no hoa] at ho ⊢
      rw [hqa, hoa] at hcls
      have hs : swapOK C P ops q o = true := by
        simp only [swapOK, Bool.and_eq_true]
        exact ⟨hap, by simpa using hcls⟩
      obtain ⟨so, sto, g1, g2, g3⟩ := swap hp hs hq hk1 ho hk2
      exact ⟨so, sto, g1, g2, by rw [dOp_no hqa]; exact g3⟩
theorem dOps_keep {x : Nat} : ∀ (L : List Oper) (s : List V) (st : St), (∀ r ∈ L, r.dst ≠ some x) → dOps P call n ops L s st = some (s', st') → s'.getD x .any = s.getD x .any := by
  intro L
  induction L with
  | nil =>
    intro s st _ h
    simp only [dOps, Option.some.injEq, Prod.mk.injEq] at h
    rw [h.1]
  | cons r L ih =>
    intro s st hr h
    unfold dOps at h
    cases ho : dOp P call n ops r s st with
    | none => rw [ho] at h; simp at h
    | some p =>
      obtain ⟨s1, st1⟩ := p
      rw [ho] at h
      simp only at h
      split at h
      · simp at h
      rename_i hk
      have e1 := ih s1 st1 (fun r' h' => hr r' (by simp [h'])) h
      rw [e1]
      cases ha : isAlloc r with
      | true =>
        rw [dOp_al ha] at ho
        simp only [Option.some.injEq, Prod.mk.injEq] at ho
        rw [← ho.1]
        exact putS_get (hr r (by simp)) s _
      | false =>
        rw [dOp_no ha] at ho
        obtain ⟨v, rfl, _⟩ := opRun_alike (s' := s) (fun t _ => rfl) ho (by simpa using hk)
        exact putS_get (hr r (by simp)) s _
/-- o may go ahead of each of them -/
def SwG (C : Cfg) (P : Program) (ops : Array Oper) (s' : List V) (o : Oper) (post : List Oper) : List Oper → Prop
  | [] => True
  | q :: p => (swapG C P ops q o = true ∨ (q.apart ops o = true ∧ ∃ a b x y, addrB q = some (a, x) ∧ addrB o = some (b, y) ∧ a ≠ b ∧ farB s' x y = true ∧
      ∀ r ∈ q :: (p ++ o :: post), r.dst ≠ some x ∧ r.dst ≠ some y)) ∧ SwG C P ops s' o post p
theorem bubbleD (hp : PureOK C call) (post : List Oper) : ∀ (pre : List Oper) (s : List V) (st : St), SwG C P ops s' o post pre →
    dOps P call n ops (pre ++ o :: post) s st = some (s', st') →
    ∃ s1 st1, dOp P call n ops o s st = some (s1, st1) ∧ st1.kills.length = st.kills.length ∧ dOps P call n ops (pre ++ post) s1 st1 = some (s', st') := by
  intro pre
  induction pre with
  | nil =>
    intro s st _ h
    simp only [List.nil_append] at h ⊢
    unfold dOps at h
    cases ho : dOp P call n ops o s st with
    | none => rw [ho] at h; simp at h
    | some r =>
      obtain ⟨s1, st1⟩ := r
      rw [ho] at h
      simp only at h
      split at h
      · simp at h
      rename_i hk
      exact ⟨s1, st1, rfl, by simpa using hk, h⟩
  | cons q pre ih =>
    intro s st hsw h
    have hall := h
    simp only [List.cons_append] at h hall ⊢
    unfold dOps at h
    cases hq : dOp P call n ops q s st with
    | none => rw [hq] at h; simp at h
    | some r =>
      obtain ⟨sq, stq⟩ := r
      rw [hq] at h
      simp only at h
      split at h
      · simp at h
      rename_i hk
      have hk' : stq.kills.length = st.kills.length := by simpa using hk
      obtain ⟨s1, st1, h1, h2, h3⟩ := ih sq stq hsw.2 h
      have hsx : ∃ so sto, dOp P call n ops o s st = some (so, sto) ∧ sto.kills.length = st.kills.length ∧ dOp P call n ops q so sto = some (s1, st1) := by
        rcases hsw.1 with h0 | ⟨hap, a, b, x, y, g1, g2, g3, g4, g5⟩
        · exact swapD hp h0 hq hk' h1 h2
        · have nq := addr_no g1
          have no := addr_no g2
          rw [dOp_no nq] at hq
          rw [dOp_no no] at h1
          have hsf := swap_far hp hap g1 g2 g3 ?_ (g5 o (by simp)).1 (g5 q (by simp)).2 hq hk' h1 h2
          · obtain ⟨so, sto, k1, k2, k3⟩ := hsf
            exact ⟨so, sto, by rw [dOp_no no]; exact k1, k2, by rw [dOp_no nq]; exact k3⟩
          · have e1 := dOps_keep _ s st (fun r hr => (g5 r hr).1) hall
            have e2 := dOps_keep _ s st (fun r hr => (g5 r hr).2) hall
            unfold farB at g4 ⊢
            rw [e1, e2] at g4
            exact g4
      obtain ⟨so, sto, g1, g2, g3⟩ := hsx
      refine ⟨so, sto, g1, g2, ?_⟩
      unfold dOps
      rw [g3]
      have hk3 : st1.kills.length = sto.kills.length := by omega
      simp [hk3, h3]
theorem unhoist (hp : PureOK C call) : ∀ (l : List Oper) (s : List V) (st : St), (∀ p1 q p2, l = p1 ++ q :: p2 → isAlloc q = false → ∀ a ∈ p2, isAlloc a = true → a.apart ops q = true) →
    dOps P call n ops (l.filter isAlloc ++ l.filter fun o => !isAlloc o) s st = some (s', st') → dOps P call n ops l s st = some (s', st')
  | [], s, st, _, h => h
  | q :: l, s, st, ha, h => by
    have ha' : ∀ p1 q' p2, l = p1 ++ q' :: p2 → isAlloc q' = false → ∀ a ∈ p2, isAlloc a = true → a.apart ops q' = true := fun p1 q' p2 e => ha (q :: p1) q' p2 (by rw [e]; rfl)
    cases hq : isAlloc q with
    | true =>
      simp only [List.filter_cons, hq, if_true, Bool.not_true, Bool.false_eq_true, if_false, List.cons_append] at h
      unfold dOps at h ⊢
      cases hd : dOp P call n ops q s st with
      | none => rw [hd] at h; simp at h
      | some r =>
        obtain ⟨s1, st1⟩ := r
        rw [hd] at h
        simp only at h ⊢
        split at h
        · simp at h
        · rename_i hk
          rw [if_neg hk]
          exact unhoist hp l s1 st1 ha' h
    | false =>
      simp only [List.filter_cons, hq, Bool.false_eq_true, if_false, Bool.not_false, if_true] at h
      have hsw : SwG C P ops s' q (l.filter fun o => !isAlloc o) (l.filter isAlloc) := by
        have key : ∀ L : List Oper, (∀ a ∈ L, isAlloc a = true ∧ a.apart ops q = true) → SwG C P ops s' q (l.filter fun o => !isAlloc o) L := by
          intro L
          induction L with
          | nil => intro _; trivial
          | cons a L ih =>
            intro hL
            refine ⟨.inl ?_, ih fun b hb => hL b (by simp [hb])⟩
            obtain ⟨h1, h2⟩ := hL a (by simp)
            simp [swapG, h1, h2]
        refine key _ fun a hm => ?_
        obtain ⟨h1, h2⟩ := List.mem_filter.1 hm
        exact ⟨h2, ha [] q l rfl hq a h1 h2⟩
      obtain ⟨s1, st1, g1, g2, g3⟩ := bubbleD hp _ _ s st hsw h
      unfold dOps
      rw [g1]
      simp only [g2, bne_self_eq_false, Bool.false_eq_true, if_false]
      exact unhoist hp l s1 st1 ha' g3
/-- boxes that stand ready -/
def readyB (P : Program) : List Oper → Option (List Box)
  | [] => some []
  | o :: l => match o.op with
    | .alloc t => match (zeroB P t).bind V.flat, readyB P l with
      | some cs, some r => some (.cells t cs :: r)
      | _, _ => none
    | _ => none
theorem opsRun_dOps : ∀ (l : List Oper) (s : List V) (st : St), (∀ o ∈ l, isAlloc o = false) → opsRun P call true ops l s st = some (s', st') → dOps P call n ops l s st = some (s', st')
  | [], s, st, _, h => h
  | o :: l, s, st, ha, h => by
    unfold opsRun at h
    unfold dOps
    rw [dOp_no (ha o (by simp))]
    cases hd : opRun P call ops o s st with
    | none => rw [hd] at h; simp at h
    | some r =>
      obtain ⟨s1, st1⟩ := r
      rw [hd] at h
      simp only [Bool.true_and] at h ⊢
      split at h
      · simp at h
      · rename_i hk
        rw [if_neg hk]
        exact opsRun_dOps l s1 st1 (fun o ho => ha o (by simp [ho])) h
theorem hoist_al {B : List Oper} (hB : ∀ o ∈ B, isAlloc o = false) (hg : ∀ o ∈ allocsOf ops, o.guard = none ∧ o.dst.isSome = true) (hnd : ((allocsOf ops).map (·.dst)).Nodup) : ∀ (A2 A1 : List Oper) (s : List V) (st : St), A1 ++ A2 = allocsOf ops → st.heap.length = n + A1.length →
    opsRun P call true ops (A2 ++ B) s st = some (s', st') → ∃ bs, readyB P A2 = some bs ∧ bs.length = A2.length ∧ dOps P call n ops (A2 ++ B) s { st with heap := st.heap ++ bs } = some (s', st')
  | [], A1, s, st, _, _, h => by
    refine ⟨[], rfl, rfl, ?_⟩
    simp only [List.append_nil]
    exact opsRun_dOps _ s st hB h
  | o :: A2, A1, s, st, hA, hl, h => by
    have hom : o ∈ allocsOf ops := by rw [← hA]; simp
    have hoa : isAlloc o = true := (List.mem_filter.1 hom).2
    obtain ⟨g1, g2⟩ := hg o hom
    obtain ⟨t, ht⟩ : ∃ t, o.op = .alloc t := by
      unfold isAlloc at hoa
      split at hoa
      · rename_i t ht; exact ⟨t, ht⟩
      · simp at hoa
    rw [List.cons_append] at h ⊢
    unfold opsRun at h
    unfold opRun at h
    have hw : wantedB ops s o = some true := by unfold wantedB; rw [g1]
    rw [hw] at h
    have hao : aop P s o st = ((zeroB P t).bind V.flat).map fun cs => .val (.ptr st.heap.length 0) s { st with heap := st.heap ++ [.cells t cs] } := by
      unfold aop
      rw [ht]
    simp only [hao] at h
    cases hz : (zeroB P t).bind V.flat with
    | none => rw [hz] at h; simp at h
    | some cs =>
      rw [hz] at h
      simp only [Option.map_some, bne_self_eq_false, Bool.and_false, Bool.false_eq_true, if_false] at h
      obtain ⟨bs, e1, e2, e3⟩ := hoist_al hB hg hnd A2 (A1 ++ [o]) _ _ (by rw [← hA]; simp) (by simp [hl]; omega) h
      refine ⟨.cells t cs :: bs, ?_, by simp [e2], ?_⟩
      · unfold readyB
        rw [ht]
        simp only [hz, e1]
      · unfold dOps
        have hix : allocIx ops o = A1.length := by
          unfold allocIx
          rw [← hA] at hnd ⊢
          rw [List.findIdx_append]
          have hno : ∀ q ∈ A1, (q.dst == o.dst) = false := by
            intro q hq
            rw [List.map_append, List.nodup_append] at hnd
            have := hnd.2.2 q.dst (List.mem_map.2 ⟨q, hq, rfl⟩) o.dst (by simp)
            simpa using this
          have h1 : List.findIdx (fun q => q.dst == o.dst) A1 = A1.length := List.findIdx_eq_length.2 hno
          rw [h1, if_neg (Nat.lt_irrefl _)]
          simp [List.findIdx_cons]
        rw [dOp_al hoa, hix]
        simp only [bne_self_eq_false, Bool.false_eq_true, if_false]
        rw [← hl]
        have e4 : (st.heap ++ [Box.cells t cs]) ++ bs = st.heap ++ (Box.cells t cs :: bs) := by simp
        simp only [e4] at e3
        exact e3
def Env.ghost (E : Env) (n : Nat) : Env := { E with box := fun i => if i < n then E.box i else none }
theorem ghost_WR {E : Env} {w : World} (h : WR E st w) (hfl : st.flo ≤ st.fams.length) (bs : List Box) :
    WR (E.ghost st.heap.length) { st with heap := st.heap ++ bs } w ∧ Seg E st w (E.ghost st.heap.length) { st with heap := st.heap ++ bs } w ∧ Step [] E st w (E.ghost st.heap.length) { st with heap := st.heap ++ bs } w := by
  have e1 : ∀ i, i < st.heap.length → (E.ghost st.heap.length).box i = E.box i := fun i hi => by simp [Env.ghost, hi]
  have e2 : ∀ i b, (E.ghost st.heap.length).box i = some b → i < st.heap.length := by
    intro i b hb
    simp only [Env.ghost] at hb
    split at hb
    · assumption
    · simp at hb
  have hBl := Blw.refl w
  have S : Step [] E st w (E.ghost st.heap.length) { st with heap := st.heap ++ bs } w :=
    step_grow hBl (fun i hi => ⟨by simp; omega, e1 i hi⟩) (fun i b h1 _ h3 => by have := e2 i b h3; omega) (fun F f hf => ⟨hf, rfl, rfl⟩) (fun F h1 h2 => by simp at h2; omega)
  refine ⟨⟨?_, ?_, ?_, ?_, h.famInj⟩, seg_grow hBl (fun i hi => ⟨by simp; omega, e1 i hi⟩) (fun i b h1 _ h3 => by have := e2 i b h3; omega) (fun F f hf => ⟨hf, rfl, rfl⟩) (fun F h1 h2 => by simp at h2; omega) rfl rfl rfl hfl (by simp) (Nat.le_refl _), S⟩
  · intro i bx b hi hb
    have hlt := e2 i b hb
    rw [List.getElem?_append_left hlt] at hi
    rw [e1 i hlt] at hb
    exact (h.box i bx b hi hb).step0 S rfl
  · intro i j b _ _ hbi hbj
    have h1 := e2 i b hbi
    have h2 := e2 j b hbj
    rw [e1 i h1] at hbi
    rw [e1 j h2] at hbj
    exact h.inj i j b h1 h2 hbi hbj
  · intro F f hf
    exact h.fam F f hf
  · intro F i hF _ hb
    have h1 := e2 i _ hb
    rw [e1 i h1] at hb
    exact h.famBox F i hF h1 hb
/-- a box that stood ready gets its block -/
theorem map_box {E : Env} {w w' : World} {n : Nat} {bx : Box} (h : WR E st w) (hB : Blw w w') (hn : st.heap[n]? = some bx) (he : E.box n = none)
    (hbx : Step [] E st w (E.addBox n w.heap.size) st w' → BoxR (E.addBox n w.heap.size) st w' w.heap.size bx) :
    WR (E.addBox n w.heap.size) st w' ∧ Step [] E st w (E.addBox n w.heap.size) st w' := by
  have hnl : n < st.heap.length := (List.getElem?_eq_some_iff.1 hn).1
  have e1 : ∀ i, i ≠ n → (E.addBox n w.heap.size).box i = E.box i := fun i hi => by simp [Env.addBox, hi]
  have e0 : (E.addBox n w.heap.size).box n = some w.heap.size := by simp [Env.addBox]
  have hne : ∀ i b, E.box i = some b → i ≠ n := by rintro i b hb rfl; rw [he] at hb; simp at hb
  have S : Step [] E st w (E.addBox n w.heap.size) st w' := by
    refine ⟨fun i b hi hb => ⟨hi, by rw [e1 i (hne i b hb)]; exact hb⟩, fun t b off v _ _ hc => (cell_of_heap (hB.same b (cell_lt hc)) off).trans hc, fun t b hi _ hb hr => ?_, fun t off sz a k cap _ _ h => h.of_rows (fun F f hf => ⟨hf, rfl, rfl⟩) (hB.rows _)⟩
    refine ⟨fun i hi hbi => ?_, fun F f hf hbf => hr.2 F f hf hbf⟩
    by_cases hin : i = n
    · subst hin
      rw [e0] at hbi
      simp only [Option.some.injEq] at hbi
      omega
    · rw [e1 i hin] at hbi
      exact hr.1 i hi hbi
  refine ⟨⟨?_, ?_, ?_, ?_, h.famInj⟩, S⟩
  · intro i bx' b hi hb
    by_cases hin : i = n
    · subst hin
      rw [hn] at hi
      simp only [Option.some.injEq] at hi
      subst hi
      rw [e0] at hb
      simp only [Option.some.injEq] at hb
      subst hb
      exact hbx S
    · rw [e1 i hin] at hb
      have := h.box i bx' b hi hb
      exact this.step0 S (hB.same b this.lt)
  · intro i j b hi hj hbi hbj
    by_cases hin : i = n
    · by_cases hjn : j = n
      · omega
      · subst hin
        rw [e0] at hbi
        rw [e1 j hjn] at hbj
        have := h.boxLt hj hbj
        simp only [Option.some.injEq] at hbi
        omega
    · by_cases hjn : j = n
      · subst hjn
        rw [e0] at hbj
        rw [e1 i hin] at hbi
        have := h.boxLt hi hbi
        simp only [Option.some.injEq] at hbj
        omega
      · rw [e1 i hin] at hbi
        rw [e1 j hjn] at hbj
        exact h.inj i j b hi hj hbi hbj
  · intro F f hf
    obtain ⟨c, t, z, h2, h3⟩ := h.fam F f hf
    exact ⟨c, t, z, (hB.same _ (h.famLt hf)).trans h2, h3⟩
  · intro F i hF hi hb
    have hlt := h.famLt (List.getElem?_eq_getElem hF)
    by_cases hin : i = n
    · subst hin
      rw [e0] at hb
      simp only [Option.some.injEq, Env.addBox] at hb
      omega
    · rw [e1 i hin] at hb
      exact h.famBox F i hF hi hb
theorem Seg.map {E0 E : Env} {st0 : St} {w0 w w' : World} {n : Nat} (h : Seg E0 st0 w0 E st w) (hB : Blw w w') (hn : st0.heap.length ≤ n) (S : Step [] E st w (E.addBox n w.heap.size) st w') :
    Seg E0 st0 w0 (E.addBox n w.heap.size) st w' where
  step := h.step.trans h.size (S.more (fun F hF => by simp at hF))
  size := Nat.le_trans h.size hB.size
  keep b hb hm := (hB.same b (Nat.lt_of_lt_of_le hb h.size)).trans (h.keep b hb hm)
  muts b hb hm := by
    refine h.muts b hb ?_
    rcases hm with ⟨i, h1, h2, h3⟩ | hm
    · by_cases hin : i = n
      · subst hin
        simp only [Env.addBox, if_true, Option.some.injEq] at h3
        have := h.size
        omega
      · simp only [Env.addBox, hin, if_false] at h3
        exact .inl ⟨i, h1, h2, h3⟩
    · exact .inr hm
  lo := h.lo
  flo := h.flo
  hlen := h.hlen
  flen := h.flen
  fams := h.fams
  kills := h.kills
  boxE i hi := by
    have hin : i ≠ n := by omega
    simp only [Env.addBox, hin, if_false]
    exact h.boxE i hi
  quiet := h.quiet.trans hB.quiet
/-- the box's own operation -/
theorem alloc_map {E : Env} {w : World} {a : Act} {t : TypeId} {cs : List V} {n : Nat} {K : Act → World → Prop} {Q : Exit → Act → World → Prop} (hw : WR E st w) (hs : SR E st w a.tmps s)
    (ho : o.op = .alloc t) (hz : (zeroB P t).bind V.flat = some cs) (hn : st.heap[n]? = some (.cells t cs)) (he : E.box n = none)
    (hK : ∀ a' w', a'.defers = a.defers → Blw w w' → WR (E.addBox n w.heap.size) st w' → SR (E.addBox n w.heap.size) st w' a'.tmps (putS s o.dst (.ptr n 0)) → Step [] E st w (E.addBox n w.heap.size) st w' → K a' w') :
    o.wp P a w K Q := by
  have hput : ∀ (a : Act) dst v, (a.put dst v).defers = a.defers := by intro a dst v; cases dst <;> rfl
  obtain ⟨zV, hz1, hz2⟩ := Option.bind_eq_some_iff.1 hz
  obtain ⟨z, e1, e2⟩ := zeroB_some hz1
  have hzVR : VR E st w z zV := by rw [e1]; exact ofVal_VR E st w 3 z
  obtain ⟨g1, g0, g2⟩ := hzVR.flat' hz2
  have hB : Blw w { w with heap := w.heap.push (.cells z.cells t) } := Blw.push w _
  obtain ⟨k1, S⟩ := map_box hw hB hn he (fun S => ⟨z.cells, by simp, g1, g0, fun k hk => (g2 k hk).step0 S⟩)
  have hnl : n < st.heap.length := (List.getElem?_eq_some_iff.1 hn).1
  have hrun : (newVar t z).run P w = .ok (adr w.heap.size 0) { w with heap := w.heap.push (.cells z.cells t) } := by simp [newVar, newRow]
  have hv : VR (E.addBox n w.heap.size) st { w with heap := w.heap.push (.cells z.cells t) } (.pointer (some (adr w.heap.size 0))) (.ptr n 0) := .ptr _ _ _ hnl (by simp [Env.addBox])
  have hx0 : (execOp a.eval o).run P w = ((do pure (.pointer (some (← newVar t z))) : Sem Value).run P w).andThen fun v w' => .ok (.value v) w' := by
    simp [execOp, ho, Instr.alloc, e2]
    cases (newVar t z).run P w <;> rfl
  have hx1 : (do pure (.pointer (some (← newVar t z))) : Sem Value).run P w = .ok (.pointer (some (adr w.heap.size 0))) { w with heap := w.heap.push (.cells z.cells t) } := by simp [newVar, newRow]
  unfold Oper.wp
  rw [hx0, hx1]
  exact hK _ _ (hput _ _ _) hB k1 ((hs.step0 S).put hv o.dst a.defers) S
/-- what drawG looks at, told -/
structure DrawG (C : Cfg) (P : Program) (ops : Array Oper) (anc : Nat → List Nat) (far : Nat → Nat → Bool) : Prop where
  back : ∀ (i : Nat) (o : Oper), ops[i]? = some o → ∀ e ∈ o.after, Region.binds .any e = true → e.on < i
  up : ∀ (i : Nat) (o : Oper), ops[i]? = some o → ∀ j ∈ anc i, ∃ e ∈ o.after, Region.binds .any e = true ∧ (e.on = j ∨ j ∈ anc e.on)
  swap : ∀ (i : Nat) (o : Oper) (j : Nat) (q : Oper), ops[i]? = some o → ops[j]? = some q → j < i → j ∈ anc i ∨ swapG C P ops q o = true ∨
    (q.apart ops o = true ∧ ∃ a b x y, addrB q = some (a, x) ∧ addrB o = some (b, y) ∧ a ≠ b ∧ far x y = true ∧
      ∀ (k : Nat) (r : Oper), ops[k]? = some r → (r.dst = some x → k ∈ anc j) ∧ (r.dst = some y → k ∈ anc i))
  guard : ∀ (i : Nat) (o : Oper), ops[i]? = some o → isAlloc o = true → o.guard = none
  ix : ∀ (i : Nat) (o : Oper) (j : Nat) (q : Oper), ops[i]? = some o → ops[j]? = some q → i ≠ j → isAlloc o = true → isAlloc q = true → allocIx ops o ≠ allocIx ops q
  easy : ∀ (i : Nat) (o : Oper), ops[i]? = some o → isAlloc o = false → ∀ (j : Nat) (q : Oper), ops[j]? = some q → isAlloc q = true → clsB C P o ≤ 1 ∨ ∃ y, addrB o = some (true, y)
theorem SwG_of {s' : List V} {post : List Oper} : ∀ (pre : List Oper), (∀ p1 q p2, pre = p1 ++ q :: p2 → swapG C P ops q o = true ∨ (q.apart ops o = true ∧ ∃ a b x y, addrB q = some (a, x) ∧ addrB o = some (b, y) ∧ a ≠ b ∧ farB s' x y = true ∧
      ∀ r ∈ q :: (p2 ++ o :: post), r.dst ≠ some x ∧ r.dst ≠ some y)) → SwG C P ops s' o post pre := by
  intro pre
  induction pre with
  | nil => intro _; trivial
  | cons q p ih => exact fun h => ⟨h [] q p rfl, ih fun p1 q' p2 e => h (q :: p1) q' p2 (by rw [e]; rfl)⟩
theorem DrawG.anc_lt {anc : Nat → List Nat} {far : Nat → Nat → Bool} (hd : DrawG C P ops anc far) : ∀ i, i < ops.size → ∀ j ∈ anc i, j < i := by
  intro i
  induction i using Nat.strongRecOn with
  | ind i ih =>
    intro hi j hj
    have ho : ops[i]? = some ops[i] := Array.getElem?_eq_getElem hi
    obtain ⟨e, he, hb, hor⟩ := hd.up i _ ho j hj
    have h1 := hd.back i _ ho e he hb
    rcases hor with rfl | h2
    · exact h1
    · exact Nat.lt_trans (ih e.on h1 (by omega) j h2) h1
theorem draw_simG {Q : Exit → Act → World → Prop} {anc : Nat → List Nat} {E0 : Env} {st0 : St} {w0 : World} (hn0 : st0.heap.length ≤ n) (hC : CallOK P call) (hp : PureOK C call) (hd : DrawG C P ops anc (farB s')) :
    ∀ (fuel : Nat) (listed : Array Bool) (R : List Nat) (E : Env) (w : World) (a : Act) (s : List V) (st st' : St),
    listed.size = ops.size → R.Pairwise (· < ·) → (∀ j, j ∈ R ↔ j < ops.size ∧ listed.getD j true = false) → R.length ≤ fuel →
    (∀ i, i < ops.size → listed.getD i false = true → ∀ j ∈ anc i, listed.getD j false = true) →
    WR E st w → SR E st w a.tmps s → st.flo ≤ st.fams.length → Seg E0 st0 w0 E st w →
    (∀ j ∈ R, ∀ o, ops[j]? = some o → isAlloc o = true → E.box (n + allocIx ops o) = none ∧ ∃ t cs, o.op = .alloc t ∧ (zeroB P t).bind V.flat = some cs ∧ st.heap[n + allocIx ops o]? = some (.cells t cs)) →
    dOps P call n ops (R.map fun i => ops.getD i default) s st = some (s', st') →
    (∀ a' w' E', a'.defers = a.defers → WR E' st' w' → SR E' st' w' a'.tmps s' → Seg E0 st0 w0 E' st' w' → Q .normal a' w') →
    wpAny P .any ops Q fuel listed a w := by
  intro fuel
  have noready : ∀ (listed : Array Bool) (R : List Nat), listed.size = ops.size → R.Pairwise (· < ·) → (∀ j, j ∈ R ↔ j < ops.size ∧ listed.getD j true = false) → Region.ready .any ops listed = [] → R = [] := by
    intro listed R hls hR hm hr
    cases R with
    | nil => rfl
    | cons r rest =>
      exfalso
      have hrm := (hm r).1 (by simp)
      have : r ∈ Region.ready .any ops listed := by
        rw [mem_ready]
        refine ⟨hrm.2, ops[r], Array.getElem?_eq_getElem hrm.1, fun e he hb => ?_⟩
        have hlt := hd.back r _ (Array.getElem?_eq_getElem hrm.1) e he hb
        have hnot : e.on ∉ r :: rest := by
          intro hmem
          rcases List.mem_cons.1 hmem with h1 | h1
          · omega
          · have := (List.pairwise_cons.1 hR).1 _ h1; omega
        have h2 : ¬ (e.on < ops.size ∧ listed.getD e.on true = false) := fun h => hnot ((hm _).2 h)
        have h3 : e.on < listed.size := by omega
        have h4 : listed.getD e.on true ≠ false := fun h => h2 ⟨by omega, h⟩
        simp only [Array.getD_eq_getD_getElem?, Array.getElem?_eq_getElem h3, Option.getD_some] at h4 ⊢
        simpa using h4
      rw [hr] at this
      simp at this
  induction fuel with
  | zero =>
    intro listed R E w a s st st' hls hR hm hlen hanc hw hs hfl hsg hgh h hQ
    have hnil : R = [] := List.length_eq_zero_iff.1 (by omega)
    subst hnil
    simp only [List.map_nil, dOps, Option.some.injEq, Prod.mk.injEq] at h
    obtain ⟨rfl, rfl⟩ := h
    refine ⟨?_, hQ a w E rfl hw hs hsg⟩
    rw [List.eq_nil_iff_forall_not_mem]
    intro i hi
    rw [mem_ready] at hi
    obtain ⟨h0, o, ho, _⟩ := hi
    have := (hm i).2 ⟨(Array.getElem?_eq_some_iff.1 ho).1, h0⟩
    simp at this
  | succ fuel ih =>
    intro listed R E w a s st st' hls hR hm hlen hanc hw hs hfl hsg hgh h hQ
    refine ⟨fun hr => ?_, fun i hi => ?_⟩
    · have hnil := noready listed R hls hR hm hr
      subst hnil
      simp only [List.map_nil, dOps, Option.some.injEq, Prod.mk.injEq] at h
      obtain ⟨rfl, rfl⟩ := h
      exact hQ a w E rfl hw hs hsg
    · rw [mem_ready] at hi
      obtain ⟨h0, o, ho, hall⟩ := hi
      have hin : i < ops.size := (Array.getElem?_eq_some_iff.1 ho).1
      have hiR : i ∈ R := (hm i).2 ⟨hin, h0⟩
      obtain ⟨pre, post, rfl⟩ := List.append_of_mem hiR
      have hgo : ops.getD i default = o := by simp [Array.getD_eq_getD_getElem?, ho]
      have hpw := List.pairwise_append.1 hR
      have hpre : ∀ j ∈ pre, j < i := fun j hj => hpw.2.2 j hj i (by simp)
      have hpost : ∀ j ∈ post, i < j := fun j hj => (List.pairwise_cons.1 hpw.2.1).1 j hj
      have hanci : ∀ j ∈ anc i, listed.getD j false = true := by
        intro j hj
        obtain ⟨e, he, hb, hor⟩ := hd.up i o ho j hj
        have hl := hall e he hb
        rcases hor with rfl | hj'
        · exact hl
        · have := hd.back i o ho e he hb
          exact hanc e.on (by omega) hl j hj'
      have hget2 : ∀ j, listed.getD j true = false → listed.getD j false = true → False := by
        intro j h1 h2
        simp only [Array.getD_eq_getD_getElem?] at h1 h2
        cases hx : listed[j]? with
        | none => rw [hx] at h1; simp at h1
        | some b => rw [hx] at h1 h2; simp at h1 h2; rw [h1] at h2; cases h2
      have hgjs : ∀ j, j < ops.size → ops[j]? = some (ops.getD j default) := fun j hj => by simp [Array.getD_eq_getD_getElem?, Array.getElem?_eq_getElem hj]
      have hsw : SwG C P ops s' o (post.map fun i => ops.getD i default) (pre.map fun i => ops.getD i default) := by
        refine SwG_of _ fun p1 q p2 e => ?_
        obtain ⟨l1, l2', e1, e2, e3⟩ := List.map_eq_append_iff.1 e
        obtain ⟨j, l2, rfl, rfl, rfl⟩ := List.map_eq_cons_iff.1 e3
        subst e1 e2
        obtain ⟨hjn, hjl⟩ := (hm j).1 (by simp)
        have hgj := hgjs j hjn
        rcases hd.swap i o j _ ho hgj (hpre j (by simp)) with h1 | h1 | ⟨hap, a, b, x, y, g1, g2, g3, g4, g5⟩
        · exact (hget2 j hjl (hanci j h1)).elim
        · exact .inl h1
        · refine .inr ⟨hap, a, b, x, y, g1, g2, g3, g4, fun r hr => ?_⟩
          have hex : ∃ k, k ∈ j :: (l2 ++ i :: post) ∧ ops.getD k default = r := by
            rcases List.mem_cons.1 hr with h1 | h1
            · exact ⟨j, by simp, h1.symm⟩
            · rcases List.mem_append.1 h1 with h1 | h1
              · obtain ⟨k, hk, e⟩ := List.mem_map.1 h1; exact ⟨k, by simp [hk], e⟩
              · rcases List.mem_cons.1 h1 with h1 | h1
                · exact ⟨i, by simp, by rw [hgo]; exact h1.symm⟩
                · obtain ⟨k, hk, e⟩ := List.mem_map.1 h1; exact ⟨k, by simp [hk], e⟩
          obtain ⟨k, hk, rfl⟩ := hex
          have hR2 : (j :: (l2 ++ i :: post)).Pairwise (· < ·) := by
            have : l1 ++ j :: l2 ++ i :: post = l1 ++ (j :: (l2 ++ i :: post)) := by simp
            rw [this] at hR
            exact (List.pairwise_append.1 hR).2.1
          have hkm : k ∈ l1 ++ j :: l2 ++ i :: post := by
            rcases List.mem_cons.1 hk with h1 | h1
            · simp [h1]
            · rcases List.mem_append.1 h1 with h1 | h1
              · simp [h1]
              · rcases List.mem_cons.1 h1 with h1 | h1 <;> simp [h1]
          obtain ⟨hkn, hkl⟩ := (hm k).1 hkm
          have hjk : j ≤ k := by
            rcases List.mem_cons.1 hk with h1 | h1
            · omega
            · exact Nat.le_of_lt ((List.pairwise_cons.1 hR2).1 k h1)
          obtain ⟨w1, w2⟩ := g5 k _ (hgjs k hkn)
          refine ⟨fun e => ?_, fun e => ?_⟩
          · have := hd.anc_lt j hjn k (w1 e); omega
          · exact hget2 k hkl (hanci k (w2 e))
      simp only [List.map_append, List.map_cons, hgo] at h
      obtain ⟨s1, st1, g1, g2, g3⟩ := bubbleD hp _ _ s st hsw h
      have hlist : (∀ j, j ∈ pre ++ post ↔ j < ops.size ∧ (listed.setIfInBounds i true).getD j true = false) := by
        intro j
        by_cases hij : i = j
        · subst hij
          constructor
          · intro hmem
            rcases List.mem_append.1 hmem with h1 | h1
            · have := hpre _ h1; omega
            · have := hpost _ h1; omega
          · rintro ⟨_, h1⟩
            simp [Array.getElem?_setIfInBounds_self_of_lt (by omega : i < listed.size)] at h1
        · rw [getD_set_ne true hij, ← hm j]
          simp [Ne.symm hij]
      have hlenR : (pre ++ post).length ≤ fuel := by simp only [List.length_append, List.length_cons] at hlen ⊢; omega
      have hancR : ∀ k, k < ops.size → (listed.setIfInBounds i true).getD k false = true → ∀ j ∈ anc k, (listed.setIfInBounds i true).getD j false = true := by
        intro k hk hlk j hj
        by_cases hik : i = k
        · subst hik
          exact getD_set_true (hanci j hj)
        · rw [getD_set_ne false hik] at hlk
          exact getD_set_true (hanc k hk hlk j hj)
      have hne : ∀ j ∈ pre ++ post, j ≠ i := by
        rintro j hj rfl
        rcases List.mem_append.1 hj with h1 | h1
        · have := hpre _ h1; omega
        · have := hpost _ h1; omega
      unfold wpOp
      simp only [ho]
      cases hoa : isAlloc o with
      | true =>
        obtain ⟨hbox, t, cs, k1, k2, k3⟩ := hgh i hiR o ho hoa
        rw [dOp_al hoa] at g1
        simp only [Option.some.injEq, Prod.mk.injEq] at g1
        obtain ⟨rfl, rfl⟩ := g1
        have hguard := hd.guard i o ho hoa
        have hwd : Region.wanted o (yielded ops a.tmps) = true := by
          have hw2 : wantedB ops s o = some true := by unfold wantedB; rw [hguard]
          exact wanted_VR hs hw2
        rw [if_pos hwd]
        refine .inl (alloc_map hw hs k1 k2 k3 hbox fun a' w' hd' hB hw' hs' S => ?_)
        refine ih _ (pre ++ post) (E.addBox (n + allocIx ops o) w.heap.size) w' a' _ st st' (by simp [hls]) (hR.sublist (by simp)) hlist hlenR hancR hw' hs' hfl (hsg.map hB (by omega) S) ?_ (by rw [List.map_append]; exact g3) fun a2 w2 E2 hd2 => hQ a2 w2 E2 (hd2.trans hd')
        intro j hj q hq hqa
        obtain ⟨b1, b2⟩ := hgh j (by rcases List.mem_append.1 hj with h1 | h1 <;> simp [h1]) q hq hqa
        have hix : n + allocIx ops q ≠ n + allocIx ops o := by
          have := hd.ix j q i o hq ho (hne j hj) hqa hoa
          omega
        exact ⟨by simp only [Env.addBox, hix, if_false]; exact b1, b2⟩
      | false =>
        rw [dOp_no hoa] at g1
        have hop := op_sim (Q := Q) (K := wpAny P .any ops Q fuel (listed.setIfInBounds i true)) hC hw hs hfl g1 (by
          intro a' w' E' hd' hw' hs' hseg
          refine ih _ (pre ++ post) E' w' a' s1 st1 st' (by simp [hls]) (hR.sublist (by simp)) hlist hlenR hancR hw' hs' (hseg.flo_le hfl) (hsg.trans hseg) ?_ (by rw [List.map_append]; exact g3) fun a2 w2 E2 hd2 => hQ a2 w2 E2 (hd2.trans hd')
          intro j hj q hq hqa
          obtain ⟨b1, t, cs, b2, b3, b4⟩ := hgh j (by rcases List.mem_append.1 hj with h1 | h1 <;> simp [h1]) q hq hqa
          have hjl : n + allocIx ops q < st.heap.length := (List.getElem?_eq_some_iff.1 b4).1
          refine ⟨by rw [hseg.boxE _ hjl]; exact b1, t, cs, b2, b3, ?_⟩
          rcases hd.easy i o ho hoa j q hq hqa with h1 | ⟨y, h1⟩
          · have : st1 = st := by
              rcases Nat.le_one_iff_eq_zero_or_eq_one.1 h1 with h0 | h0
              · exact (opRun_cls0 h0 g1).1
              · exact opRun_cls1 hp h0 g1
            rw [this]; exact b4
          · rcases store_far h1 g1 g2 with e1 | ⟨jj, off, e1, e2⟩
            · rw [e1]; exact b4
            · rw [e2 _ ?_]; exact b4
              -- the place that is written has a block
              intro hjj
              have hv := hs.get y
              rw [e1] at hv
              generalize a.tmps.getD y undef = cv at hv
              cases hv with
              | ptr _ _ b hi hb => rw [← hjj, b1] at hb; simp at hb)
        split
        · rename_i hwd; simp only [hwd, if_true] at hop; exact .inl hop
        · rename_i hwd; simp only [hwd] at hop; exact hop
theorem drawG_ok {far : Nat → Nat → Bool} (h : drawG C P ops far = true) : DrawG C P ops (fun i => (ancB ops).getD i []) far ∧
    (allocsOf ops = [] ∨ ((∀ o ∈ allocsOf ops, o.guard = none ∧ o.dst.isSome = true) ∧ ((allocsOf ops).map (·.dst)).Nodup)) ∧
    (∀ p1 q p2, ops.toList = p1 ++ q :: p2 → isAlloc q = false → ∀ a ∈ p2, isAlloc a = true → a.apart ops q = true) := by
  unfold drawG at h
  simp only [List.all_eq_true, List.mem_range, Bool.and_eq_true] at h
  obtain ⟨h0, h⟩ := h
  have hget : ∀ (i : Nat) (o : Oper), ops[i]? = some o → ops.getD i default = o := fun i o ho => by simp [Array.getD_eq_getD_getElem?, ho]
  have hlt : ∀ (i : Nat) (o : Oper), ops[i]? = some o → i < ops.size := fun i o ho => (Array.getElem?_eq_some_iff.1 ho).1
  have hmem : ∀ (i : Nat) (o : Oper), ops[i]? = some o → isAlloc o = true → o ∈ allocsOf ops := fun i o ho ha => by
    refine List.mem_filter.2 ⟨?_, ha⟩
    have : ops.toList[i]? = some o := by simpa using ho
    exact List.mem_of_getElem? this
  have h1 : allocsOf ops = [] ∨ ((∀ o ∈ allocsOf ops, o.guard = none ∧ o.dst.isSome = true) ∧ ((allocsOf ops).map (·.dst)).Nodup ∧ ∀ o ∈ ops.toList, easyB C P o = true) := by
    rw [Bool.or_eq_true] at h0
    rcases h0 with h0 | h0
    · exact .inl (by simpa using h0)
    · simp only [Bool.and_eq_true, List.all_eq_true, decide_eq_true_eq, Option.isNone_iff_eq_none] at h0
      exact .inr ⟨h0.1.1, h0.1.2, h0.2⟩
  refine ⟨⟨fun i o ho e he hb => ?_, fun i o ho j hj => ?_, fun i o j q ho hq hji => ?_, fun i o ho ha => ?_, fun i o j q ho hq hij ha hqa => ?_, fun i o ho hoa j q hq hqa => ?_⟩, ?_, ?_⟩
  · have := (h i (hlt i o ho)).1.1
    rw [hget i o ho] at this
    have := this e (by simpa using he)
    simpa [hb] using this
  · have := (h i (hlt i o ho)).1.2 j hj
    rw [hget i o ho, List.any_eq_true] at this
    obtain ⟨e, he, hh⟩ := this
    simp only [Bool.and_eq_true, Bool.or_eq_true, beq_iff_eq, List.contains_eq_mem, decide_eq_true_eq] at hh
    exact ⟨e, by simpa using he, hh.1, hh.2⟩
  · have := ((h i (hlt i o ho)).2 j hji).2
    rw [hget i o ho, hget j q hq] at this
    rw [Bool.or_eq_true] at this
    rcases this with h1 | h1
    · exact .inl (by simpa using h1)
    · rw [Bool.and_eq_true, Bool.or_eq_true] at h1
      obtain ⟨h0, h1 | h1⟩ := h1
      · exact .inr (.inl (by unfold swapG; rw [h0, h1]; rfl))
      · refine .inr (.inr ⟨h0, ?_⟩)
        split at h1
        · rename_i a x b y hq' ho'
          simp only [Bool.and_eq_true, bne_iff_ne, ne_eq] at h1
          obtain ⟨⟨⟨g1, g2⟩, g3⟩, g4⟩ := h1
          exact ⟨a, b, x, y, hq', ho', g1, g2, fun k r hr => ⟨fun e => owns_spec g3 hr e, fun e => owns_spec g4 hr e⟩⟩
        · simp at h1
  · rcases h1 with h1 | h1
    · have := hmem i o ho ha; rw [h1] at this; simp at this
    · exact (h1.1 o (hmem i o ho ha)).1
  · rcases Nat.lt_or_ge j i with hji | hji
    · have := ((h i (hlt i o ho)).2 j hji).1.2
      rw [hget i o ho, hget j q hq, ha, hqa] at this
      simpa using this
    · have hij' : i < j := by omega
      have := ((h j (hlt j q hq)).2 i hij').1.2
      rw [hget i o ho, hget j q hq, ha, hqa] at this
      have h2 : allocIx ops q ≠ allocIx ops o := by simpa using this
      exact fun e => h2 e.symm
  · rcases h1 with h1 | h1
    · have := hmem j q hq hqa; rw [h1] at this; simp at this
    · have he := h1.2.2 o (List.mem_of_getElem? (by simpa using ho : ops.toList[i]? = some o))
      unfold easyB at he
      rw [hoa] at he
      simp only [Bool.false_or, Bool.or_eq_true, decide_eq_true_eq] at he
      rcases he with he | he
      · exact .inl he
      · right
        split at he
        · rename_i y hy; exact ⟨y, hy⟩
        · simp at he
  · rcases h1 with h1 | h1
    · exact .inl h1
    · exact .inr ⟨h1.1, h1.2.1⟩
  · intro p1 q p2 e hq a ha haa
    obtain ⟨k, hk⟩ := List.getElem?_of_mem ha
    have hqi : ops[p1.length]? = some q := by
      have : ops.toList[p1.length]? = some q := by rw [e]; simp
      simpa using this
    have hai : ops[p1.length + 1 + k]? = some a := by
      have : ops.toList[p1.length + 1 + k]? = some a := by
        rw [e, List.getElem?_append_right (by omega), show p1.length + 1 + k - p1.length = k + 1 by omega]
        simpa using hk
      simpa using this
    have := ((h _ (hlt _ a hai)).2 p1.length (by omega)).1.1
    rw [hget _ a hai, hget _ q hqi, haa, hq] at this
    simpa using this
theorem drawG_mono {far far' : Nat → Nat → Bool} (hf : ∀ x y, far x y = true → far' x y = true) (h : drawG C P ops far = true) : drawG C P ops far' = true := by
  unfold drawG at h ⊢
  simp only [List.all_eq_true, List.mem_range, Bool.and_eq_true] at h ⊢
  refine ⟨h.1, fun i hi => ⟨(h.2 i hi).1, fun j hj => ⟨((h.2 i hi).2 j hj).1, ?_⟩⟩⟩
  have := ((h.2 i hi).2 j hj).2
  rw [Bool.or_eq_true] at this ⊢
  rcases this with h1 | h1
  · exact .inl h1
  · rw [Bool.and_eq_true, Bool.or_eq_true] at h1
    refine .inr ?_
    rw [Bool.and_eq_true, Bool.or_eq_true]
    refine ⟨h1.1, ?_⟩
    rcases h1.2 with h2 | h2
    · exact .inl h2
    · refine .inr ?_
      split at h2
      · simp only [Bool.and_eq_true] at h2 ⊢
        exact ⟨⟨⟨h2.1.1.1, hf _ _ h2.1.1.2⟩, h2.1.2⟩, h2.2⟩
      · simp at h2
/-- such a region, whatever its order -/
theorem region_simG {Q : Exit → Act → World → Prop} {E : Env} {w : World} {a : Act} (hC : CallOK P call) (hp : PureOK C call) (hd : drawG C P ops (farB s') = true) (hw : WR E st w) (hs : SR E st w a.tmps s) (hfl : st.flo ≤ st.fams.length)
    (h : opsRun P call true ops (hoist ops) s st = some (s', st'))
    (hQ : ∀ a' w' E', a'.defers = a.defers → WR E' st' w' → SR E' st' w' a'.tmps s' → Seg E st w E' st' w' → Q .normal a' w') :
    wpAny P .any ops Q ops.size (Array.replicate ops.size false) a w := by
  obtain ⟨hD, hal, hap⟩ := drawG_ok hd
  have hgd : (∀ o ∈ allocsOf ops, o.guard = none ∧ o.dst.isSome = true) ∧ ((allocsOf ops).map (·.dst)).Nodup := by
    rcases hal with hal | hal
    · rw [hal]; simp
    · exact hal
  obtain ⟨bs, e1, e2, e3⟩ := hoist_al (n := st.heap.length) (B := ops.toList.filter fun o => !isAlloc o) (fun o ho => by simpa using (List.mem_filter.1 ho).2) hgd.1 hgd.2 (allocsOf ops) [] s st rfl (by simp) h
  have e4 := unhoist hp ops.toList s _ hap e3
  obtain ⟨g1, g2, g3⟩ := ghost_WR hw hfl bs
  refine draw_simG (n := st.heap.length) (E0 := E) (st0 := st) (w0 := w) (Nat.le_refl _) hC hp hD ops.size _ (List.range ops.size) (E.ghost st.heap.length) w a s { st with heap := st.heap ++ bs } st' (by simp) List.pairwise_lt_range (fun j => ?_) (by simp) (fun i hi hl => ?_) g1 (hs.step0 g3) hfl g2 ?_ ?_ hQ
  · simp only [List.mem_range]
    constructor
    · intro hj; exact ⟨hj, by simp [Array.getD_eq_getD_getElem?, hj]⟩
    · exact fun hh => hh.1
  · simp [Array.getD_eq_getD_getElem?, hi] at hl
  · intro j _ o ho hoa
    have hmem : o ∈ allocsOf ops := by
      refine List.mem_filter.2 ⟨?_, hoa⟩
      have : ops.toList[j]? = some o := by simpa using ho
      exact List.mem_of_getElem? this
    have hix : allocIx ops o < (allocsOf ops).length := List.findIdx_lt_length_of_exists ⟨o, hmem, by simp⟩
    refine ⟨by show (if _ < _ then _ else none) = none; rw [if_neg (by omega)], ?_⟩
    have hr : ∀ (A : List Oper) (bs : List Box), readyB P A = some bs → ∀ (k : Nat) (q : Oper), A[k]? = some q → ∃ t cs, q.op = .alloc t ∧ (zeroB P t).bind V.flat = some cs ∧ bs[k]? = some (Box.cells t cs) := by
      intro A
      induction A with
      | nil => intro bs _ k q hq; simp at hq
      | cons p A ih =>
        intro bs hb k q hq
        unfold readyB at hb
        split at hb
        · rename_i t ht
          cases hz : (zeroB P t).bind V.flat with
          | none => rw [hz] at hb; simp at hb
          | some cs =>
            cases hr : readyB P A with
            | none => rw [hz, hr] at hb; simp at hb
            | some r =>
              rw [hz, hr] at hb
              simp only [Option.some.injEq] at hb
              subst hb
              cases k with
              | zero =>
                simp at hq
                subst hq
                exact ⟨t, cs, ht, hz, rfl⟩
              | succ k =>
                obtain ⟨t', cs', a1, a2, a3⟩ := ih r hr k q (by simpa using hq)
                exact ⟨t', cs', a1, a2, by simpa using a3⟩
        · simp at hb
    obtain ⟨q, hq⟩ : ∃ q, (allocsOf ops)[allocIx ops o]? = some q := ⟨(allocsOf ops)[allocIx ops o], by simp [hix]⟩
    obtain ⟨t, cs, a1, a2, a3⟩ := hr _ _ e1 _ q hq
    -- the one of that number is o itself
    have hqo : q = o := by
      have hqd : q.dst = o.dst := by
        have hlt : allocIx ops o < (allocsOf ops).length := hix
        have := List.findIdx_getElem (p := fun q : Oper => q.dst == o.dst) (xs := allocsOf ops) (w := hlt)
        have hg : (allocsOf ops)[allocIx ops o] = q := by
          have := List.getElem?_eq_getElem hlt
          rw [hq] at this
          simpa using this.symm
        have h2 : ((allocsOf ops)[allocIx ops o].dst == o.dst) = true := this
        rw [hg] at h2
        simpa using h2
      obtain ⟨k, hk⟩ := List.getElem?_of_mem hmem
      have h3 : ((allocsOf ops).map (·.dst))[k]? = some o.dst := by simp [hk]
      have h4 : ((allocsOf ops).map (·.dst))[allocIx ops o]? = some o.dst := by simp [hq, hqd]
      have h5 : k = allocIx ops o := by
        have hkl : k < ((allocsOf ops).map (·.dst)).length := (List.getElem?_eq_some_iff.1 h3).1
        exact (List.getElem?_inj hkl hgd.2).1 (by rw [h3, h4])
      rw [h5, hq] at hk
      simpa using hk
    subst hqo
    exact ⟨t, cs, a1, a2, by
      rw [List.getElem?_append_right (by omega), show st.heap.length + allocIx ops q - st.heap.length = allocIx ops q by omega]
      exact a3⟩
  · have : (List.range ops.size).map (fun i => ops.getD i default) = ops.toList := by
      apply List.ext_getElem (by simp)
      intro i h1 h2
      have : i < ops.size := by simpa using h1
      simp [Array.getD_eq_getD_getElem?, this]
    rw [this]
    exact e4
end
end Go.Abs

namespace Go.Abs
open Go
section
variable {P : Program} {C : Cfg}
theorem loadRes_VR {E : Env} {st : St} {w : World} {t : TypeId} {p d : V} {v : Value} (hw : WR E st w) (hp : VR E st w v p) (h : loadB P st t p = some d) :
    ∃ r, (do loadVar t (← asAddr v)).run P w = .ok r w ∧ VR E st w r d := by
  obtain ⟨r, h1, h2⟩ := load_VR hw hp h
  refine ⟨r, ?_, h2⟩
  rw [← h1]
  cases hp with
  | ptr => rfl
  | eptr => rfl
  | _ => simp [loadB] at h
theorem resvars_VR {E : Env} {st : St} {w : World} {ts : Array Value} {s : List V} (hw : WR E st w) (hs : SR E st w ts s) : ∀ (l : List ResultVar) (ds : List V),
    (l.mapM fun | .tmp t => some (s.getD t .any) | .cell a t => loadB P st t (s.getD a .any)) = some ds →
    ∃ vs : List Value, (l.mapM (m := Sem) fun | .tmp t => pure (ts.getD t undef) | .cell a t => do loadVar t (← asAddr (ts.getD a undef))).run P w = .ok vs w ∧ vs.length = ds.length ∧
      ∀ k, k < ds.length → VR E st w (vs.getD k undef) (ds.getD k .dead)
  | [], ds, h => by
    simp only [List.mapM_nil, Option.pure_def, Option.some.injEq] at h
    subst h
    exact ⟨[], by simp, rfl, fun k hk => by simp at hk⟩
  | r :: l, ds, h => by
    rw [List.mapM_cons] at h
    simp only [Option.bind_eq_bind, Option.bind_eq_some_iff, Option.pure_def, Option.some.injEq] at h
    obtain ⟨d, h1, ds', h2, rfl⟩ := h
    obtain ⟨vs, g1, g2, g3⟩ := resvars_VR hw hs l ds' h2
    have hone : ∃ v, ((match r with | .tmp t => pure (ts.getD t undef) | .cell a t => do loadVar t (← asAddr (ts.getD a undef)) : Sem Value)).run P w = .ok v w ∧ VR E st w v d := by
      cases r with
      | tmp t =>
        simp only [Option.some.injEq] at h1
        subst h1
        exact ⟨_, by simp only [Sem.run_pure], hs.get t⟩
      | cell a t => exact loadRes_VR hw (hs.get a) h1
    obtain ⟨v, k1, k2⟩ := hone
    refine ⟨v :: vs, ?_, by simp [g2], fun k hk => ?_⟩
    · rw [List.mapM_cons, Sem.run_bind]
      erw [k1]
      rw [Result.andThen_ok, Sem.run_bind]
      erw [g1]
      rw [Result.andThen_ok, Sem.run_pure]
    · cases k with
      | zero => simpa using k2
      | succ k => simpa using g3 k (by simpa using hk)
theorem results_VR {E : Env} {st : St} {w : World} {ts : Array Value} {s : List V} {fn : Func} {v : V} (hw : WR E st w) (hs : SR E st w ts s) (h : resB P st s fn.results = some v) :
    ∃ cv, (results fn ts).run P w = .ok cv w ∧ VR E st w cv v := by
  unfold resB at h
  split at h
  · rename_i d heq
    simp only [Option.some.injEq] at h
    subst h
    obtain ⟨vs, g1, g2, g3⟩ := resvars_VR hw hs _ _ heq
    have e : (results fn ts).run P w = .ok (if h : vs.toArray.size = 1 then vs.toArray[0] else .tuple vs.toArray) w := by
      unfold results
      rw [Sem.run_bind, Array.mapM_eq_mapM_toList, Sem.run_map]
      erw [g1]
      simp only [Result.andThen_ok, Sem.run_pure]
    have hl : vs.length = 1 := by simpa using g2
    obtain ⟨x, rfl⟩ := List.length_eq_one_iff.1 hl
    refine ⟨x, by rw [e]; simp, ?_⟩
    simpa using g3 0 (by simp)
  · rename_i ds hne heq
    simp only [Option.some.injEq] at h
    subst h
    obtain ⟨vs, g1, g2, g3⟩ := resvars_VR hw hs _ _ heq
    have e : (results fn ts).run P w = .ok (if h : vs.toArray.size = 1 then vs.toArray[0] else .tuple vs.toArray) w := by
      unfold results
      rw [Sem.run_bind, Array.mapM_eq_mapM_toList, Sem.run_map]
      erw [g1]
      simp only [Result.andThen_ok, Sem.run_pure]
    have hl : ¬ vs.toArray.size = 1 := by
      intro hh
      have : ds.length = 1 := by rw [← g2]; simpa using hh
      obtain ⟨x, hx⟩ := List.length_eq_one_iff.1 this
      exact hne x hx
    refine ⟨.tuple vs.toArray, by rw [e]; simp only [hl, dite_false], .tup _ _ (by simp [g2]) fun k hk => ?_⟩
    have := g3 k hk
    simpa [Array.getD_eq_getD_getElem?, List.getD_eq_getElem?_getD] using this
  · simp at h
def AExit.to : AExit → Exit
  | .normal => .normal
  | .exit id => .exit id
  | .ret => .ret
def SimCode (P : Program) (c : Code) (s : List V) (st : St) (e : AExit) (s' : List V) (st' : St) : Prop :=
  ∀ (E : Env) (w : World) (a : Act) (Q : Exit → Act → World → Prop), WR E st w → SR E st w a.tmps s → st.flo ≤ st.fams.length →
    (∀ a' w' E', a'.defers = a.defers → WR E' st' w' → SR E' st' w' a'.tmps s' → Seg E st w E' st' w' → Q e.to a' w') → c.wp P Q a w
def SimRounds (P : Program) (k : Nat) (c : Code) (s : List V) (st : St) (e : AExit) (s' : List V) (st' : St) : Prop :=
  ∀ (E : Env) (w : World) (a : Act) (Q : Exit → Act → World → Prop), WR E st w → SR E st w a.tmps s → st.flo ≤ st.fams.length →
    (∀ a' w' E', a'.defers = a.defers → WR E' st' w' → SR E' st' w' a'.tmps s' → Seg E st w E' st' w' → Q e.to a' w') → Code.rounds P c Q k a w
structure ExtOK (P : Program) (C : Cfg) : Prop where
  mixed : P.follows .mixedOrders = true
  ext : ∀ f A args st v st', C.ext f = some A → A args st = some (v, st') → SimCall P f args st v st'
  /-- of no note: it leaves the state as it is -/
  still : ∀ f A args st v st', C.ext f = some A → C.keep f = false → A args st = some (v, st') → st' = st
/-- the state as a call of no note begins -/
def St.below (st : St) : St := { st with lo := st.heap.length, flo := st.fams.length, kills := [] }
/-- what a call of no note comes to -/
theorem pure_call {E : Env} {st st1 : St} {w : World} {v : V} (hw : WR E st w) (hfl : st.flo ≤ st.fams.length) (hu : v.under st.heap.length = true) {E' : Env} {w' : World} {cv : Value}
    (hv : VR E' st1 w' cv v) (hseg : Seg E st.below w E' st1 w') : VR E st w' cv (v.freeze st.fams.length) ∧ WR E st w' ∧ Seg E st w E st w' := by
  have hB : Blw w w' := ⟨hseg.size, fun b hb => hseg.keep b hb (by
    rintro (⟨i, h1, h2, _⟩ | ⟨F, h1, h2, _⟩)
    · simp only [St.below] at h1 h2; omega
    · simp only [St.below] at h1 h2; omega), hseg.quiet⟩
  exact ⟨(hv.freeze hseg.hlen (fun i hi => hseg.boxE i hi) (fun F hF => hseg.fams F hF) hu).same rfl rfl, hw.blw hB, seg_blw hB hfl⟩
/-- the slots as a function begins -/
theorem enter_SR {E : Env} {st : St} {w : World} {vs : Array Value} {args : List V} (n : Nat) (hl : vs.size = args.length) (hv : ∀ k, k < args.length → VR E st w (vs.getD k undef) (args.getD k .dead)) :
    SR E st w (vs ++ Array.replicate (n - vs.size) undef) (args ++ List.replicate (n - args.length) (.tup [])) := by
  refine ⟨by simp [hl], fun i hi => ?_⟩
  rw [getD_append, lgetD_append, hl]
  split
  · rename_i hlt
    have e : args.getD i .any = args.getD i .dead := by simp [List.getD_eq_getElem?_getD, hlt]
    rw [e]
    exact hv i hlt
  · have hlt : i - args.length < n - args.length := by simp at hi; omega
    have e1 : (Array.replicate (n - args.length) undef).getD (i - args.length) undef = undef := by
      simp [Array.getD_eq_getD_getElem?, hlt]
    have e2 : (List.replicate (n - args.length) (V.tup [])).getD (i - args.length) .any = .tup [] := by
      simp [List.getD_eq_getElem?_getD, hlt]
    rw [e1, e2]
    exact undef_VR E st w
theorem run_ret_pure {k : Nat} {f : FuncId} {args : List V} {st st' : St} {v : V} (hX : ExtOK P C) (hk : C.keep f = false) (h : run C P k (.call f args st) = some (.ret v st')) : st' = st := by
  cases k with
  | zero => simp [run] at h
  | succ k =>
    unfold run at h
    cases hx : C.ext f with
    | some A =>
      rw [hx] at h
      simp only at h
      cases hA : A args st with
      | none => rw [hA] at h; simp at h
      | some r1 =>
        obtain ⟨v1, st1⟩ := r1
        rw [hA] at h
        simp only [Option.map_some, Option.some.injEq, Res.ret.injEq] at h
        obtain ⟨rfl, rfl⟩ := h
        exact hX.still f A args st _ _ hx hk hA
    | none =>
      rw [hx] at h
      simp only at h
      cases hf : P.funcs[f]? with
      | none => rw [hf] at h; simp at h
      | some fn =>
        rw [hf] at h
        simp only at h
        cases hb : fn.body with
        | none => rw [hb] at h; simp at h
        | some c =>
          rw [hb] at h
          simp only [hk, Bool.false_eq_true, if_false] at h
          split at h
          rotate_left
          · simp at h
          split at h
          · simp at h
          · split at h
            · split at h
              · simp only [Option.some.injEq, Res.ret.injEq] at h; exact h.2.symm
              · simp at h
            · simp at h
          · simp at h
theorem sim (hX : ExtOK P C) : ∀ k,
    (∀ f args st v st', run C P k (.call f args st) = some (.ret v st') → SimCall P f args st v st') ∧
    (∀ c s st e s' st', run C P k (.code c s st) = some (.out e s' st') → SimCode P c s st e s' st') ∧
    (∀ c s st e s' st', run C P k (.code (.loop c) s st) = some (.out e s' st') → SimRounds P k c s st e s' st') := by
  intro k
  induction k with
  | zero => exact ⟨fun _ _ _ _ _ h => by simp [run] at h, fun _ _ _ _ _ _ h => by simp [run] at h, fun _ _ _ _ _ _ h => by simp [run] at h⟩
  | succ k ih =>
    obtain ⟨ihc, ihd, ihl⟩ := ih
    have hrounds : ∀ c s st e s' st', run C P (k + 1) (.code (.loop c) s st) = some (.out e s' st') → SimRounds P (k + 1) c s st e s' st' := by
      intro c s st e s' st' h E w a Q hw hs hfl hQ
      unfold run at h
      simp only at h
      rw [rounds_succ]
      cases hr : run C P k (.code c s st) with
      | none => rw [hr] at h; simp at h
      | some r =>
        rw [hr] at h
        cases r with
        | ret v st1 => simp at h
        | out e1 s1 st1 =>
          refine ihd _ _ _ _ _ _ hr E w a _ hw hs hfl fun a' w' E' hd hw' hs' hseg => ?_
          cases e1 with
          | normal =>
            simp only at h
            simp only [AExit.to, Exit.then]
            exact ihl _ _ _ _ _ _ h E' w' a' Q hw' hs' (hseg.flo_le hfl) fun a2 w2 E2 hd2 hw2 hs2 hseg2 => hQ a2 w2 E2 (hd2.trans hd) hw2 hs2 (hseg.trans hseg2)
          | exit id =>
            simp only [Option.some.injEq, Res.out.injEq] at h
            obtain ⟨rfl, rfl, rfl⟩ := h
            exact hQ a' w' E' hd hw' hs' hseg
          | ret =>
            simp only [Option.some.injEq, Res.out.injEq] at h
            obtain ⟨rfl, rfl, rfl⟩ := h
            exact hQ a' w' E' hd hw' hs' hseg
    refine ⟨?_, ?_, hrounds⟩
    · -- a call
      intro f args st v st' h E w vs hw hfl hl hv
      unfold run at h
      cases hx : C.ext f with
      | some A =>
        rw [hx] at h
        simp only at h
        cases hA : A args st with
        | none => rw [hA] at h; simp at h
        | some r =>
          obtain ⟨v1, st1⟩ := r
          rw [hA] at h
          simp only [Option.map_some, Option.some.injEq, Res.ret.injEq] at h
          obtain ⟨rfl, rfl⟩ := h
          exact hX.ext f A args st _ _ hx hA E w vs hw hfl hl hv
      | none =>
        rw [hx] at h
        simp only at h
        cases hf : P.funcs[f]? with
        | none => rw [hf] at h; simp at h
        | some fn =>
          rw [hf] at h
          simp only at h
          cases hb : fn.body with
          | none => rw [hb] at h; simp at h
          | some c =>
            rw [hb] at h
            simp only at h
            split at h
            rotate_left
            · simp at h
            have hsr := enter_SR fn.ntmps hl hv
            refine calls_of_wp hf hb ?_
            cases hk : C.keep f with
            | true =>
              simp only [hk, if_true] at h
              cases hr : run C P k (.code c (args ++ List.replicate (fn.ntmps - args.length) (.tup [])) st) with
              | none => rw [hr] at h; simp at h
              | some r =>
                rw [hr] at h
                cases r with
                | ret v1 st1 => simp at h
                | out e s1 st1 =>
                  have key : ∃ v1, resB P st1 s1 fn.results = some v1 ∧ v1 = v ∧ st1 = st' ∧ (e = .normal ∨ e = .ret) := by
                    cases e with
                    | exit id => simp at h
                    | normal =>
                      simp only at h
                      cases hrs : resB P st1 s1 fn.results with
                      | none => rw [hrs] at h; simp at h
                      | some v1 =>
                        rw [hrs] at h
                        simp only [Option.map_some, Option.some.injEq, Res.ret.injEq] at h
                        exact ⟨v1, rfl, h.1, h.2, .inl rfl⟩
                    | ret =>
                      simp only at h
                      cases hrs : resB P st1 s1 fn.results with
                      | none => rw [hrs] at h; simp at h
                      | some v1 =>
                        rw [hrs] at h
                        simp only [Option.map_some, Option.some.injEq, Res.ret.injEq] at h
                        exact ⟨v1, rfl, h.1, h.2, .inr rfl⟩
                  obtain ⟨v1, hrs, rfl, rfl, he⟩ := key
                  refine ihd _ _ _ _ _ _ hr E w _ _ hw hsr hfl fun a' w' E' hd hw' hs' hseg => ?_
                  obtain ⟨cv, r1, r2⟩ := results_VR hw' hs' hrs
                  have post : a'.defers = [] ∧ ∃ v, (results fn a'.tmps).run P w' = .ok v w' ∧ ∃ cv E', Ending.returned v = .returned cv ∧ VR E' st1 w' cv v1 ∧ WR E' st1 w' ∧ Seg E st w E' st1 w' :=
                    ⟨hd, cv, r1, cv, E', rfl, r2, hw', hseg⟩
                  rcases he with rfl | rfl <;> exact post
            | false =>
              simp only [hk, Bool.false_eq_true, if_false] at h
              cases hr : run C P k (.code c (args ++ List.replicate (fn.ntmps - args.length) (.tup [])) { st with lo := st.heap.length, flo := st.fams.length, kills := [] }) with
              | none => rw [hr] at h; simp at h
              | some r =>
                rw [hr] at h
                cases r with
                | ret v1 st1 => simp at h
                | out e s1 st1 =>
                  have key : ∃ v1, resB P st1 s1 fn.results = some v1 ∧ v1.under st.heap.length = true ∧ v1.freeze st.fams.length = v ∧ st = st' ∧ (e = .normal ∨ e = .ret) := by
                    have go : (match resB P st1 s1 fn.results with
                        | some v => if v.under st.heap.length then some (Res.ret (v.freeze st.fams.length) st) else none
                        | none => none) = some (Res.ret v st') → ∃ v1, resB P st1 s1 fn.results = some v1 ∧ v1.under st.heap.length = true ∧ v1.freeze st.fams.length = v ∧ st = st' := by
                      intro h
                      cases hrs : resB P st1 s1 fn.results with
                      | none => rw [hrs] at h; simp at h
                      | some v1 =>
                        rw [hrs] at h
                        simp only at h
                        split at h
                        · rename_i hu
                          simp only [Option.some.injEq, Res.ret.injEq] at h
                          exact ⟨v1, rfl, hu, h.1, h.2⟩
                        · simp at h
                    cases e with
                    | exit id => simp at h
                    | normal => obtain ⟨v1, g1, g2, g3, g4⟩ := go h; exact ⟨v1, g1, g2, g3, g4, .inl rfl⟩
                    | ret => obtain ⟨v1, g1, g2, g3, g4⟩ := go h; exact ⟨v1, g1, g2, g3, g4, .inr rfl⟩
                  obtain ⟨v1, hrs, hu, rfl, rfl, he⟩ := key
                  refine ihd _ _ _ _ _ _ hr E w _ _ (hw.same rfl rfl) (hsr.same rfl rfl) (Nat.le_refl _) fun a' w' E' hd hw' hs' hseg => ?_
                  obtain ⟨cv, r1, r2⟩ := results_VR hw' hs' hrs
                  obtain ⟨p1, p2, p3⟩ := pure_call hw hfl hu r2 hseg
                  have post : a'.defers = [] ∧ ∃ v, (results fn a'.tmps).run P w' = .ok v w' ∧ ∃ cv E', Ending.returned v = .returned cv ∧ VR E' st w' cv (v1.freeze st.fams.length) ∧ WR E' st w' ∧ Seg E st w E' st w' :=
                    ⟨hd, cv, r1, cv, E, rfl, p1, p2, p3⟩
                  rcases he with rfl | rfl <;> exact post
    · -- code
      intro c s st e s' st' h E w a Q hw hs hfl hQ
      cases c with
      | skip =>
        unfold run at h
        simp only [Option.some.injEq, Res.out.injEq] at h
        obtain ⟨rfl, rfl, rfl⟩ := h
        exact wp_skip (hQ a w E rfl hw hs (.refl _ _ _))
      | label l =>
        unfold run at h
        simp only [Option.some.injEq, Res.out.injEq] at h
        obtain ⟨rfl, rfl, rfl⟩ := h
        exact wp_label (hQ a w E rfl hw hs (.refl _ _ _))
      | ret =>
        unfold run at h
        simp only [Option.some.injEq, Res.out.injEq] at h
        obtain ⟨rfl, rfl, rfl⟩ := h
        exact wp_ret (hQ a w E rfl hw hs (.refl _ _ _))
      | exit id =>
        unfold run at h
        simp only [Option.some.injEq, Res.out.injEq] at h
        obtain ⟨rfl, rfl, rfl⟩ := h
        exact wp_exit (hQ a w E rfl hw hs (.refl _ _ _))
      | seq x y =>
        unfold run at h
        simp only at h
        refine wp_seq ?_
        cases hr : run C P k (.code x s st) with
        | none => rw [hr] at h; simp at h
        | some r =>
          rw [hr] at h
          cases r with
          | ret v st1 => simp at h
          | out e1 s1 st1 =>
            refine ihd _ _ _ _ _ _ hr E w a _ hw hs hfl fun a' w' E' hd hw' hs' hseg => ?_
            cases e1 with
            | normal =>
              simp only at h
              simp only [AExit.to, Exit.then]
              exact ihd _ _ _ _ _ _ h E' w' a' Q hw' hs' (hseg.flo_le hfl) fun a2 w2 E2 hd2 hw2 hs2 hseg2 => hQ a2 w2 E2 (hd2.trans hd) hw2 hs2 (hseg.trans hseg2)
            | exit id =>
              simp only [Option.some.injEq, Res.out.injEq] at h
              obtain ⟨rfl, rfl, rfl⟩ := h
              exact hQ a' w' E' hd hw' hs' hseg
            | ret =>
              simp only [Option.some.injEq, Res.out.injEq] at h
              obtain ⟨rfl, rfl, rfl⟩ := h
              exact hQ a' w' E' hd hw' hs' hseg
      | cond c x y =>
        unfold run at h
        simp only at h
        have hc := ev_VR hs c
        generalize hcv : ev s c = cv at h hc
        generalize hcc : a.eval c = cc at hc
        cases hc with
        | bool b =>
          simp only at h
          exact wp_cond hcc (ihd _ _ _ _ _ _ h E w a Q hw hs hfl hQ)
        | _ => simp at h
      | scope c =>
        unfold run at h
        simp only at h
        refine wp_scope_straight (ihd _ _ _ _ _ _ h E w a _ hw hs hfl fun a' w' E' hd hw' hs' hseg => ?_)
        have := hQ a' w' E' hd hw' hs' hseg
        cases e with
        | normal => exact this
        | exit id => exact this
        | ret => exact this
      | block id c =>
        unfold run at h
        simp only at h
        refine wp_block ?_
        cases hr : run C P k (.code c s st) with
        | none => rw [hr] at h; simp at h
        | some r =>
          rw [hr] at h
          cases r with
          | ret v st1 => simp at h
          | out e1 s1 st1 =>
            refine ihd _ _ _ _ _ _ hr E w a _ hw hs hfl fun a' w' E' hd hw' hs' hseg => ?_
            cases e1 with
            | exit id' =>
              simp only [Option.some.injEq, Res.out.injEq] at h
              obtain ⟨he, rfl, rfl⟩ := h
              have := hQ a' w' E' hd hw' hs' hseg
              simp only [AExit.to, Exit.inBlock]
              split
              · rename_i hid; simp only [hid, if_true] at he; subst he; exact this
              · rename_i hid; simp only [hid, if_false] at he; subst he; exact this
            | normal =>
              simp only [Option.some.injEq, Res.out.injEq] at h
              obtain ⟨rfl, rfl, rfl⟩ := h
              exact hQ a' w' E' hd hw' hs' hseg
            | ret =>
              simp only [Option.some.injEq, Res.out.injEq] at h
              obtain ⟨rfl, rfl, rfl⟩ := h
              exact hQ a' w' E' hd hw' hs' hseg
      | loop c => exact wp_loop_rounds (k + 1) (hrounds c s st e s' st' h E w a Q hw hs hfl hQ)
      | region id ops d =>
        unfold run at h
        simp only at h
        have hC : CallOK P (fun f args st => retOf (run C P k (.call f args st))) := by
          intro f args st v st' hh
          simp only [retOf] at hh
          split at hh
          · rename_i v1 st1 hrun
            simp only [Option.some.injEq, Prod.mk.injEq] at hh
            obtain ⟨rfl, rfl⟩ := hh
            exact ihc _ _ _ _ _ hrun
          · simp at hh
        have hP : PureOK C (fun f args st => retOf (run C P k (.call f args st))) := by
          intro f args st v st' hk hh
          simp only [retOf] at hh
          split at hh
          · rename_i v1 st1 hrun
            simp only [Option.some.injEq, Prod.mk.injEq] at hh
            obtain ⟨rfl, rfl⟩ := hh
            exact run_ret_pure hX hk hrun
          · simp at hh
        have key : ∃ s1 st1 L, opsRun P (fun f args st => retOf (run C P k (.call f args st))) d ops L s st = some (s1, st1) ∧ ((L = ops.toList ∧ (d = true → drawB C P ops = true)) ∨ (L = hoist ops ∧ d = true ∧ drawG C P ops (farB s1) = true)) ∧ Res.out .normal s1 st1 = Res.out e s' st' := by
          split at h
          · rename_i hdb
            have hd1 : d = true := by
              cases d with
              | true => rfl
              | false => simp at hdb
            split at h
            · rename_i s1 st1 hops
              split at h
              · rename_i hdf
                exact ⟨s1, st1, _, hops, .inr ⟨rfl, hd1, hdf⟩, by simpa using h⟩
              · simp at h
            · simp at h
          · rename_i hdb
            split at h
            · rename_i s1 st1 hops
              refine ⟨s1, st1, _, hops, .inl ⟨rfl, fun hd => ?_⟩, by simpa using h⟩
              rw [hd] at hdb
              simpa using hdb
            · simp at h
        clear h
        obtain ⟨s1, st1, L, hops, hdr, h⟩ := key
        simp only [Res.out.injEq] at h
        obtain ⟨rfl, rfl, rfl⟩ := h
        cases d with
        | false =>
          obtain ⟨rfl, -⟩ : L = ops.toList ∧ (false = true → drawB C P ops = true) := by
            rcases hdr with h1 | h1
            · exact h1
            · simp at h1
          exact wp_region_list (ops_sim hC false _ E w a s s1 st st1 hw hs hfl hops hQ)
        | true =>
          refine wp_region_any hX.mixed ?_
          have hB : Blw w { w with drawn := w.drawn + 1 } := Blw.of_heap rfl ⟨rfl, rfl⟩
          have hw1 := hw.blw hB
          have hseg1 : Seg E st w E st { w with drawn := w.drawn + 1 } := seg_blw hB hfl
          have hs1 : SR E st { w with drawn := w.drawn + 1 } a.tmps s := hs.step0 (step_grow hB (fun i hi => ⟨hi, rfl⟩) (fun i b h1 h2 => by omega) (fun F f hf => ⟨hf, rfl, rfl⟩) (fun F h1 h2 => by omega))
          rcases hdr with ⟨rfl, hdr⟩ | ⟨rfl, -, hdg⟩
          rotate_left
          · exact region_simG hC hP hdg hw1 hs1 hfl hops fun a' w' E' hd hw' hs' hseg => hQ a' w' E' hd hw' hs' (hseg1.trans hseg)
          · refine draw_sim hC hP (drawF_ok (drawB_F (far := farB s1) (hdr rfl))) ops.size _ (List.range ops.size) E _ a s st st1 (by simp) List.pairwise_lt_range (fun j => ?_) (by simp) (fun i hi hl => ?_) hw1 hs1 hfl ?_
              fun a' w' E' hd hw' hs' hseg => hQ a' w' E' hd hw' hs' (hseg1.trans hseg)
            · simp only [List.mem_range]
              constructor
              · intro hj; exact ⟨hj, by simp [Array.getD_eq_getD_getElem?, hj]⟩
              · exact fun hh => hh.1
            · simp [Array.getD_eq_getD_getElem?, hi] at hl
            · have : (List.range ops.size).map (fun i => ops.getD i default) = ops.toList := by
                apply List.ext_getElem (by simp)
                intro i h1 h2
                have : i < ops.size := by simpa using h1
                simp [Array.getD_eq_getD_getElem?, this]
              rw [this]
              exact hops
      | _ => unfold run at h; simp at h
end
end Go.Abs

namespace Go.Abs
open Go
section
variable {P : Program} {C : Cfg}
theorem opRun_mono {c c' : FuncId → List V → St → Option (V × St)} (h : ∀ f a s r, c f a s = some r → c' f a s = some r) {all : Array Oper} {o : Oper} {s : List V} {st : St} {r : List V × St}
    (hr : opRun P c all o s st = some r) : opRun P c' all o s st = some r := by
  unfold opRun at hr ⊢
  split at hr
  · rename_i heq; exact hr
  · split at hr
    · exact hr
    · rename_i f args heq
      cases hc : c f args { st with kills := [] } with
      | none => rw [hc] at hr; simp at hr
      | some r' => rw [hc] at hr; rw [h _ _ _ _ hc]; exact hr
    · simp at hr
  · simp at hr
theorem opsRun_mono {c c' : FuncId → List V → St → Option (V × St)} (h : ∀ f a s r, c f a s = some r → c' f a s = some r) {d : Bool} {all : Array Oper} : ∀ {l : List Oper} {s : List V} {st : St} {r : List V × St},
    opsRun P c d all l s st = some r → opsRun P c' d all l s st = some r
  | [], _, _, _, hr => by simpa [opsRun] using hr
  | o :: l, s, st, r, hr => by
    unfold opsRun at hr ⊢
    cases ho : opRun P c all o s st with
    | none => rw [ho] at hr; simp at hr
    | some r1 =>
      obtain ⟨s1, st1⟩ := r1
      rw [ho] at hr
      rw [opRun_mono h ho]
      simp only at hr ⊢
      split at hr
      · simp at hr
      · rename_i hh
        simp only [hh, Bool.false_eq_true, if_false]
        exact opsRun_mono h hr
theorem run_succ : ∀ (k : Nat) (t : Task) (r : Res), run C P k t = some r → run C P (k + 1) t = some r := by
  intro k
  induction k with
  | zero => intro t r h; simp [run] at h
  | succ k ih =>
    intro t r h
    cases t with
    | code c s st =>
      unfold run at h ⊢
      cases c with
      | seq a b =>
        simp only at h ⊢
        cases hr : run C P k (.code a s st) with
        | none => rw [hr] at h; simp at h
        | some r1 =>
          rw [hr] at h
          rw [ih _ _ hr]
          cases r1 with
          | ret v st1 => exact h
          | out e s1 st1 =>
            cases e with
            | normal => simp only at h ⊢; exact ih _ _ h
            | _ => exact h
      | cond c x y =>
        simp only at h ⊢
        split at h
        · exact ih _ _ h
        · simp at h
      | scope c =>
        simp only at h ⊢
        exact ih _ _ h
      | block id c =>
        simp only at h ⊢
        cases hr : run C P k (.code c s st) with
        | none => rw [hr] at h; simp at h
        | some r1 => rw [hr] at h; rw [ih _ _ hr]; exact h
      | loop c =>
        simp only at h ⊢
        cases hr : run C P k (.code c s st) with
        | none => rw [hr] at h; simp at h
        | some r1 =>
          rw [hr] at h
          rw [ih _ _ hr]
          cases r1 with
          | ret v st1 => exact h
          | out e s1 st1 =>
            cases e with
            | normal => simp only at h ⊢; exact ih _ _ h
            | _ => exact h
      | region id ops d =>
        simp only at h ⊢
        split at h
        · rename_i hd
          rw [if_pos hd]
          split at h
          · rename_i s1 st1 ho
            rw [opsRun_mono (c' := fun f args st => retOf (run C P (k + 1) (.call f args st))) (fun f a s r hr => by
              cases hc : run C P k (.call f a s) with
              | none => rw [hc] at hr; simp [retOf] at hr
              | some r1 => rw [hc] at hr; rw [ih _ _ hc]; exact hr) ho]
            exact h
          · simp at h
        rename_i hd
        rw [if_neg hd]
        split at h
        · rename_i s1 st1 ho
          rw [opsRun_mono (c' := fun f args st => retOf (run C P (k + 1) (.call f args st))) (fun f a s r hr => by
            cases hc : run C P k (.call f a s) with
            | none => rw [hc] at hr; simp [retOf] at hr
            | some r1 => rw [hc] at hr; rw [ih _ _ hc]; exact hr) ho]
          exact h
        · simp at h
      | _ => exact h
    | call f args st =>
      unfold run at h ⊢
      cases hx : C.ext f with
      | some A => rw [hx] at h; exact h
      | none =>
        rw [hx] at h
        simp only at h ⊢
        cases hf : P.funcs[f]? with
        | none => rw [hf] at h; simp at h
        | some fn =>
          rw [hf] at h
          simp only at h ⊢
          cases hb : fn.body with
          | none => rw [hb] at h; simp at h
          | some c =>
            rw [hb] at h
            simp only at h ⊢
            split at h
            · rename_i hle
              rw [if_pos hle]
              cases hk : C.keep f with
              | true =>
                simp only [hk, if_true] at h ⊢
                cases hr : run C P k (.code c (args ++ List.replicate (fn.ntmps - args.length) (.tup [])) st) with
                | none => rw [hr] at h; simp at h
                | some r1 => rw [hr] at h; rw [ih _ _ hr]; exact h
              | false =>
                simp only [hk, Bool.false_eq_true, if_false] at h ⊢
                cases hr : run C P k (.code c (args ++ List.replicate (fn.ntmps - args.length) (.tup [])) { st with lo := st.heap.length, flo := st.fams.length, kills := [] }) with
                | none => rw [hr] at h; simp at h
                | some r1 => rw [hr] at h; rw [ih _ _ hr]; exact h
            · simp at h
theorem run_mono {k k' : Nat} {t : Task} {r : Res} (hk : k ≤ k') (h : run C P k t = some r) : run C P k' t = some r := by
  induction hk with
  | refl => exact h
  | step _ ih => exact run_succ _ _ _ ih
def Runs (C : Cfg) (P : Program) (t : Task) (r : Res) : Prop := ∃ k, run C P k t = some r
def OpsRuns (C : Cfg) (P : Program) (d : Bool) (all : Array Oper) (l : List Oper) (s : List V) (st : St) (s' : List V) (st' : St) : Prop :=
  ∃ k, opsRun P (fun f args st => retOf (run C P k (.call f args st))) d all l s st = some (s', st')
theorem callk_mono {k k' : Nat} (hk : k ≤ k') : ∀ f a s r, retOf (run C P k (.call f a s)) = some r → retOf (run C P k' (.call f a s)) = some r := by
  intro f a s r hr
  cases hc : run C P k (.call f a s) with
  | none => rw [hc] at hr; simp [retOf] at hr
  | some r1 => rw [hc] at hr; rw [run_mono hk hc]; exact hr
variable {s s1 s' : List V} {st st1 st' : St} {r : Res} {a b c x y : Code} {e : AExit}
theorem Runs.seq (h1 : Runs C P (.code a s st) (.out .normal s1 st1)) (h2 : Runs C P (.code b s1 st1) r) : Runs C P (.code (.seq a b) s st) r := by
  obtain ⟨k1, h1⟩ := h1
  obtain ⟨k2, h2⟩ := h2
  refine ⟨max k1 k2 + 1, ?_⟩
  unfold run
  simp only
  rw [run_mono (Nat.le_max_left k1 k2) h1]
  exact run_mono (Nat.le_max_right k1 k2) h2
theorem Runs.seq_out (h1 : Runs C P (.code a s st) (.out e s1 st1)) (he : e ≠ .normal) : Runs C P (.code (.seq a b) s st) (.out e s1 st1) := by
  obtain ⟨k1, h1⟩ := h1
  refine ⟨k1 + 1, ?_⟩
  unfold run
  simp only
  rw [h1]
  cases e <;> first | exact absurd rfl he | rfl
theorem Runs.skip : Runs C P (.code .skip s st) (.out .normal s st) := ⟨1, rfl⟩
theorem Runs.label {l : Nat} : Runs C P (.code (.label l) s st) (.out .normal s st) := ⟨1, rfl⟩
theorem Runs.rett : Runs C P (.code .ret s st) (.out .ret s st) := ⟨1, rfl⟩
theorem Runs.exit {id : Nat} : Runs C P (.code (.exit id) s st) (.out (.exit id) s st) := ⟨1, rfl⟩
theorem Runs.cond {t : Operand} {q : Bool} (hc : ev s t = .bool q) (h : Runs C P (.code (if q then x else y) s st) r) : Runs C P (.code (.cond t x y) s st) r := by
  obtain ⟨k, h⟩ := h
  refine ⟨k + 1, ?_⟩
  unfold run
  simp only [hc]
  exact h
theorem Runs.scope (h : Runs C P (.code c s st) r) : Runs C P (.code (.scope c) s st) r := by
  obtain ⟨k, h⟩ := h
  exact ⟨k + 1, by unfold run; exact h⟩
theorem Runs.block {id : Nat} (h : Runs C P (.code c s st) (.out e s1 st1)) : Runs C P (.code (.block id c) s st) (.out (match e with | .exit i => if i = id then .normal else .exit i | e => e) s1 st1) := by
  obtain ⟨k, h⟩ := h
  refine ⟨k + 1, ?_⟩
  unfold run
  simp only
  rw [h]
  cases e <;> rfl
theorem Runs.loop_next (h1 : Runs C P (.code c s st) (.out .normal s1 st1)) (h2 : Runs C P (.code (.loop c) s1 st1) r) : Runs C P (.code (.loop c) s st) r := by
  obtain ⟨k1, h1⟩ := h1
  obtain ⟨k2, h2⟩ := h2
  refine ⟨max k1 k2 + 1, ?_⟩
  unfold run
  simp only
  rw [run_mono (Nat.le_max_left k1 k2) h1]
  exact run_mono (Nat.le_max_right k1 k2) h2
theorem Runs.loop_out (h1 : Runs C P (.code c s st) (.out e s1 st1)) (he : e ≠ .normal) : Runs C P (.code (.loop c) s st) (.out e s1 st1) := by
  obtain ⟨k1, h1⟩ := h1
  refine ⟨k1 + 1, ?_⟩
  unfold run
  simp only
  rw [h1]
  cases e <;> first | exact absurd rfl he | rfl
theorem Runs.region {id : Nat} {ops : Array Oper} {d : Bool} (hd : d = false ∨ drawB C P ops = true) (h : OpsRuns C P d ops ops.toList s st s' st') :
    Runs C P (.code (.region id ops d) s st) (.out .normal s' st') := by
  obtain ⟨k, h⟩ := h
  refine ⟨k + 1, ?_⟩
  unfold run
  simp only
  rw [if_neg (by rcases hd with rfl | hd <;> simp [*]), h]
theorem Runs.regionF {id : Nat} {ops : Array Oper} {d : Bool} (hb : (d && !drawB C P ops) = true) (hd : drawG C P ops (farB s') = true) (h : OpsRuns C P d ops (hoist ops) s st s' st') :
    Runs C P (.code (.region id ops d) s st) (.out .normal s' st') := by
  obtain ⟨k, h⟩ := h
  refine ⟨k + 1, ?_⟩
  unfold run
  simp only
  rw [if_pos hb, h]
  simp only [hd, if_true]
theorem OpsRuns.nil {d : Bool} {all : Array Oper} : OpsRuns C P d all [] s st s st := ⟨0, rfl⟩
/-- operations that call nobody -/
theorem OpsRuns.of {d : Bool} {all : Array Oper} {l : List Oper} (h : opsRun P (fun _ _ _ => none) d all l s st = some (s', st')) : OpsRuns C P d all l s st s' st' :=
  ⟨0, opsRun_mono (fun _ _ _ _ h => by simp at h) h⟩
theorem opsRun_append {c : FuncId → List V → St → Option (V × St)} {d : Bool} {all : Array Oper} : ∀ {l1 l2 : List Oper} {s s1 : List V} {st st1 : St}, opsRun P c d all l1 s st = some (s1, st1) →
    opsRun P c d all (l1 ++ l2) s st = opsRun P c d all l2 s1 st1
  | [], l2, s, s1, st, st1, h => by
    simp only [opsRun, Option.some.injEq, Prod.mk.injEq] at h
    obtain ⟨rfl, rfl⟩ := h
    rfl
  | o :: l1, l2, s, s1, st, st1, h => by
    simp only [List.cons_append]
    unfold opsRun at h
    conv => lhs; unfold opsRun
    cases ho : opRun P c all o s st with
    | none => rw [ho] at h; simp at h
    | some r1 =>
      obtain ⟨s2, st2⟩ := r1
      rw [ho] at h
      simp only at h ⊢
      split at h
      · simp at h
      · rename_i hh
        simp only [hh, Bool.false_eq_true, if_false]
        exact opsRun_append h
theorem OpsRuns.append {d : Bool} {all : Array Oper} {l1 l2 : List Oper} (h1 : OpsRuns C P d all l1 s st s1 st1) (h2 : OpsRuns C P d all l2 s1 st1 s' st') : OpsRuns C P d all (l1 ++ l2) s st s' st' := by
  obtain ⟨k1, h1⟩ := h1
  obtain ⟨k2, h2⟩ := h2
  refine ⟨max k1 k2, ?_⟩
  rw [opsRun_append (opsRun_mono (callk_mono (Nat.le_max_left k1 k2)) h1)]
  exact opsRun_mono (callk_mono (Nat.le_max_right k1 k2)) h2
/-- an operation that calls -/
theorem OpsRuns.call {d : Bool} {all : Array Oper} {o : Oper} {l : List Oper} {f : FuncId} {args : List V} {v : V} (hw : wantedB all s o = some true) (ho : aop P s o st = some (.call f args))
    (hc : Runs C P (.call f args { st with kills := [] }) (.ret v st1)) (hk : st1.kills = [])
    (h : OpsRuns C P d all l (putS s o.dst v) { st1 with kills := st.kills } s' st') : OpsRuns C P d all (o :: l) s st s' st' := by
  obtain ⟨k1, hc⟩ := hc
  obtain ⟨k2, h⟩ := h
  refine ⟨max k1 k2, ?_⟩
  unfold opsRun opRun
  simp only [hw, ho, run_mono (Nat.le_max_left k1 k2) hc, retOf, hk, killAll, List.nil_append, bne_self_eq_false, Bool.and_false, Bool.false_eq_true, if_false]
  exact opsRun_mono (callk_mono (Nat.le_max_right k1 k2)) h
/-- an operation of a value -/
theorem OpsRuns.val {d : Bool} {all : Array Oper} {o : Oper} {l : List Oper} {v : V} (hw : wantedB all s o = some true) (ho : aop P s o st = some (.val v s1 st1)) (hk : d = false ∨ st1.kills.length = st.kills.length)
    (h : OpsRuns C P d all l (putS s1 o.dst v) st1 s' st') : OpsRuns C P d all (o :: l) s st s' st' := by
  obtain ⟨k, h⟩ := h
  refine ⟨k, ?_⟩
  unfold opsRun opRun
  simp only [hw, ho]
  rw [if_neg (by rcases hk with rfl | hk <;> simp [*])]
  exact h
theorem OpsRuns.skip {d : Bool} {all : Array Oper} {o : Oper} {l : List Oper} (hw : wantedB all s o = some false)
    (h : OpsRuns C P d all l (putS s o.dst (.tup [])) st s' st') : OpsRuns C P d all (o :: l) s st s' st' := by
  obtain ⟨k, h⟩ := h
  refine ⟨k, ?_⟩
  unfold opsRun opRun
  simp only [hw]
  rw [if_neg (by simp)]
  exact h
/-- a call of no note -/
theorem Runs.call_pure {f : FuncId} {fn : Func} {args : List V} {v v' : V} (hx : C.ext f = none) (hf : P.funcs[f]? = some fn) (hb : fn.body = some c) (hl : args.length ≤ fn.ntmps) (hk : C.keep f = false)
    (h : Runs C P (.code c (args ++ List.replicate (fn.ntmps - args.length) (.tup [])) { st with lo := st.heap.length, flo := st.fams.length, kills := [] }) (.out e s1 st1))
    (he : e = .normal ∨ e = .ret) (hr : resB P st1 s1 fn.results = some v) (hu : v.under st.heap.length = true)
    (hz : v.freeze st.fams.length = v') : Runs C P (.call f args st) (.ret v' st) := by
  subst hz
  obtain ⟨k, h⟩ := h
  refine ⟨k + 1, ?_⟩
  unfold run
  simp only [hx, hf, hb, hl, hk, if_true, Bool.false_eq_true, if_false, h]
  rcases he with rfl | rfl <;> simp [hr, hu]
/-- a call that is followed in its caller's memory -/
theorem Runs.call_keep {f : FuncId} {fn : Func} {args : List V} {v : V} (hx : C.ext f = none) (hf : P.funcs[f]? = some fn) (hb : fn.body = some c) (hl : args.length ≤ fn.ntmps) (hk : C.keep f = true)
    (h : Runs C P (.code c (args ++ List.replicate (fn.ntmps - args.length) (.tup [])) st) (.out e s1 st1))
    (he : e = .normal ∨ e = .ret) (hr : resB P st1 s1 fn.results = some v) : Runs C P (.call f args st) (.ret v st1) := by
  obtain ⟨k, h⟩ := h
  refine ⟨k + 1, ?_⟩
  unfold run
  simp only [hx, hf, hb, hl, hk, if_true, h]
  rcases he with rfl | rfl <;> simp [hr]
/-- what runs on the interpreter runs in the program -/
theorem Runs.calls (hX : ExtOK P C) {f : FuncId} {args : List V} {st st' : St} {v : V} (h : Runs C P (.call f args st) (.ret v st')) : SimCall P f args st v st' := by
  obtain ⟨k, h⟩ := h
  exact (sim hX k).1 _ _ _ _ _ h
/-- what a function comes to, told -/
def Sound (P : Program) (f : FuncId) (A : List V → St → Option (V × St)) : Prop := ∀ args st v st', A args st = some (v, st') → SimCall P f args st v st'
def Cfg.of (keep : List FuncId) (l : List (FuncId × (List V → St → Option (V × St)))) : Cfg := ⟨keep.contains, fun f => (l.find? fun p => p.1 == f).map (·.2)⟩
/-- what answers without changing a thing -/
def ans (v : List V → Option V) : List V → St → Option (V × St) := fun args st => (v args).map fun v => (v, st)
theorem ext_of {keep : List FuncId} {l : List (FuncId × (List V → St → Option (V × St)))} (hm : P.follows .mixedOrders = true) (h : ∀ p ∈ l, Sound P p.1 p.2)
    (hs : ∀ p ∈ l, keep.contains p.1 = false → ∀ args st v st', p.2 args st = some (v, st') → st' = st) : ExtOK P (.of keep l) := by
  have key : ∀ f A, (Cfg.of keep l).ext f = some A → (f, A) ∈ l := by
    intro f A hA
    simp only [Cfg.of, Option.map_eq_some_iff] at hA
    obtain ⟨p, hp, rfl⟩ := hA
    have h1 := List.find?_some hp
    simp only [beq_iff_eq] at h1
    subst h1
    exact List.mem_of_find?_eq_some hp
  exact ⟨hm, fun f A args st v st' hx hA => h _ (key f A hx) args st v st' hA, fun f A args st v st' hx hk hA => hs _ (key f A hx) hk args st v st' hA⟩
theorem ans_still {v : List V → Option V} {args : List V} {st st' : St} {r : V} (h : ans v args st = some (r, st')) : st' = st := by
  simp only [ans, Option.map_eq_some_iff, Prod.mk.injEq] at h
  obtain ⟨_, _, _, h⟩ := h
  exact h.symm
theorem sound_ans {f : FuncId} {F : List V → Option V} (hX : ExtOK P C) (h : ∀ args st v, F args = some v → Runs C P (.call f args st) (.ret v st)) : Sound P f (ans F) := by
  intro args st v st' ha
  obtain rfl := ans_still ha
  simp only [ans, Option.map_eq_some_iff, Prod.mk.injEq] at ha
  obtain ⟨v', hv, rfl, _⟩ := ha
  exact (h args _ v' hv).calls hX
theorem told {k : Nat} {f : FuncId} {args : List V} {A : List V → St → Option (V × St)} (h : C.ext f = some A) : retOf (run C P (k + 1) (.call f args st)) = A args st := by
  unfold run
  simp only [h]
  cases A args st with
  | none => rfl
  | some r => rfl
section
variable {k : Nat}
end
theorem Runs.of (k : Nat) {t : Task} (h : run C P k t = some r) : Runs C P t r := ⟨k, h⟩
/-- a call from nothing: the memory that was there stays as it was -/
theorem Runs.law (hX : ExtOK P C) {f : FuncId} {args : List V} {v : V} (h : Runs C P (.call f args ⟨[], [], 0, 0, []⟩) (.ret v st')) {E : Env} {w : World} {vs : Array Value}
    (hl : vs.size = args.length) (hv : ∀ k, k < args.length → VR E ⟨[], [], 0, 0, []⟩ w (vs.getD k undef) (args.getD k .dead)) :
    Calls P f vs w fun e w' => ∃ cv E', e = .returned cv ∧ VR E' st' w' cv v ∧ Blw w w' := by
  have hw : WR E ⟨[], [], 0, 0, []⟩ w := ⟨fun i bx b h => by simp at h, fun i j b hi => by simp at hi, fun F f h => by simp at h, fun F i hF => by simp at hF, fun F G hF => by simp at hF⟩
  refine (h.calls hX E w vs hw (Nat.le_refl _) hl hv).mono ?_
  rintro e w' ⟨cv, E', he, hcv, _, hseg⟩
  refine ⟨cv, E', he, hcv, hseg.size, fun b hb => hseg.keep b hb ?_, hseg.quiet⟩
  rintro (⟨i, _, h2, _⟩ | ⟨F, _, h2, _⟩)
  · simp at h2
  · simp at h2
end
end Go.Abs

namespace Go.Abs
open Go Go.RowKit Go.WideShapes Go.ChangeShapes
theorem Blw.cell {w w' : World} (h : Blw w w') {b : Nat} (hb : b < w.heap.size) (o : Nat) (s : Option Nat) : True := trivial
theorem Blw.frame {w w' : World} (h : Blw w w') (may : MemPlace → Prop) : w.keptBut w' may := by
  refine ⟨h.quiet.os, h.quiet.output, fun i hi => ?_⟩
  rw [h.same i hi]
  cases w.heap[i]? with
  | none => trivial
  | some o => cases o <;> simp
theorem Blw.frozen {w w' : World} (h : Blw w w') {a : Addr} (ha : a.block < w.heap.size) : w'.frozen? a = w.frozen? a := by
  unfold World.frozen?
  rw [h.same a.block ha]
section
variable {H : Type} {enc : TypeId × Value → H} {P : Program}
theorem post_of_blw {f : Func} {s : ChangeSpec} {apart fresh handsOn again : Bool} {W W' : World} {args : Array Value} {v : Value} {ds gs : List (DataW H)} {before pa pv : List MemPlace}
    (hW : DataW.Whole enc P f.params.toList s.vars apart W args.toList ds gs before)
    (hres : ∀ (b : Nat) (sp : Nat → Bool) (hd : Bool), DataW.TrodAll enc P W' b sp hd f.resultTypes.toList (v.resultList f.resultTypes.size) (s.fn H (ds ++ gs)).results [])
    (hargs : ∀ sp : Nat → Bool, (∀ p ∈ before, sp p.block = true) → DataW.TrodAll enc P W' 0 sp true f.params.toList args.toList (s.fn H (ds ++ gs)).args pa)
    (hvars : ∀ sp : Nat → Bool, (∀ p ∈ before, sp p.block = true) → DataW.TrodVars enc P W' sp s.vars (s.fn H (ds ++ gs)).vars pv)
    (hps : before = pa ++ pv) (hb : Blw W W')
    (hok : ∀ (j : Nat) (t : TypeId) (r : Value), f.resultTypes[j]? = some t → (v.resultList f.resultTypes.size)[j]? = some r → Value.okWide P W' .any 0 t r) :
    s.post enc P f apart fresh handsOn again W args v W' := by
  have hlt : ∀ p ∈ before, p.block < W.heap.size := fun p hp => hW.lt p hp
  have hold : ∀ p ∈ before, (fun b => decide (b < W.heap.size)) p.block = true := fun p hp => by simpa using hlt p hp
  refine ⟨ds, gs, before, [], pa, pv, hW, hres _ _ _, hargs _ hold, hvars _ hold, World.keptBut_mono (fun p hp => ⟨hp, ?_⟩) (hb.frame (· ∈ before)), fun _ => ?_⟩
  · rw [hps, List.mem_append] at hp
    exact Or.inr hp
  · obtain ⟨_, _, _, _, _, hz, hn⟩ := hW
    refine ⟨hok, _, _, ([] ++ pa) ++ pv, ⟨[] ++ pa, pv, trodAll_append (hargs _ (fun _ _ => rfl)) (hres _ _ _), hvars _ (fun _ _ => rfl), rfl, ?_, ?_⟩, ?_⟩
    · intro b off hp
      have hin : MemPlace.cell b off ∈ before := by rw [hps]; simpa using hp
      rw [hb.frozen (hlt _ hin)]
      exact hz b off hin
    · intro ha
      have := hn ha
      rw [hps] at this
      simpa using this
    · intro p hp _
      rw [hps]
      simpa using hp
end
/-- a law that is told to answer true, called from nothing -/
theorem Sound.law {P : Program} {f : FuncId} {A : List V → Option V} (h : Sound P f (ans A)) {args : List V} (ha : A args = some (.bool true)) {E : Env} {w : World} {vs : Array Value}
    (hl : vs.size = args.length) (hv : ∀ k, k < args.length → VR E ⟨[], [], 0, 0, []⟩ w (vs.getD k undef) (args.getD k .dead)) :
    Calls P f vs w fun e w' => e = .returned (.bool true) ∧ Blw w w' := by
  have hw : WR E ⟨[], [], 0, 0, []⟩ w := ⟨fun i bx b h => by simp at h, fun i j b hi => by simp at hi, fun F f h => by simp at h, fun F i hF => by simp at hF, fun F G hF => by simp at hF⟩
  refine (h args ⟨[], [], 0, 0, []⟩ (.bool true) ⟨[], [], 0, 0, []⟩ (by simp [ans, ha]) E w vs hw (Nat.le_refl _) hl hv).mono ?_
  rintro e w' ⟨cv, E', he, hcv, _, hseg⟩
  cases hcv
  exact ⟨he, hseg.size, fun b hb => hseg.keep b hb (by
    rintro (⟨i, _, h2, _⟩ | ⟨F, _, h2, _⟩)
    · simp at h2
    · simp at h2), hseg.quiet⟩
end Go.Abs

namespace Go.Abs
open Go
def Reach (C : Cfg) (P : Program) (c : Code) (s : List V) (st : St) (Q : AExit → List V → St → Prop) : Prop :=
  ∃ e s' st', Runs C P (.code c s st) (.out e s' st') ∧ Q e s' st'
def ROps (C : Cfg) (P : Program) (d : Bool) (all : Array Oper) (l : List Oper) (s : List V) (st : St) (Q : List V → St → Prop) : Prop :=
  ∃ s' st', OpsRuns C P d all l s st s' st' ∧ Q s' st'
def Thn (C : Cfg) (P : Program) (b : Code) (Q : AExit → List V → St → Prop) : AExit → List V → St → Prop := fun e s st =>
  match e with
  | .normal => Reach C P b s st Q
  | e => Q e s st
def Blk (id : Nat) (Q : AExit → List V → St → Prop) : AExit → List V → St → Prop := fun e s st =>
  Q (match e with | .exit i => if i = id then .normal else .exit i | e => e) s st
section
variable {P : Program} {C : Cfg} {a b c x y : Code} {s s1 : List V} {st st1 : St} {Q Q' : AExit → List V → St → Prop} {id i : Nat}
theorem Reach.mono (h : Reach C P c s st Q) (hq : ∀ e s st, Q e s st → Q' e s st) : Reach C P c s st Q' := by
  obtain ⟨e, s', st', h1, h2⟩ := h
  exact ⟨e, s', st', h1, hq _ _ _ h2⟩
theorem Reach.seq (h : Reach C P a s st (Thn C P b Q)) : Reach C P (.seq a b) s st Q := by
  obtain ⟨e, s1, st1, h1, h2⟩ := h
  cases e with
  | normal =>
    obtain ⟨e2, s2, st2, h3, h4⟩ := h2
    exact ⟨e2, s2, st2, h1.seq h3, h4⟩
  | exit i => exact ⟨_, s1, st1, h1.seq_out (by simp), h2⟩
  | ret => exact ⟨_, s1, st1, h1.seq_out (by simp), h2⟩
theorem Thn.normal (h : Reach C P b s st Q) : Thn C P b Q .normal s st := h
theorem Thn.ret (h : Q .ret s st) : Thn C P b Q .ret s st := h
theorem Thn.exit (h : Q (.exit i) s st) : Thn C P b Q (.exit i) s st := h
theorem Reach.block (h : Reach C P c s st (Blk id Q)) : Reach C P (.block id c) s st Q := by
  obtain ⟨e, s1, st1, h1, h2⟩ := h
  cases e with
  | normal => exact ⟨_, s1, st1, h1.block, h2⟩
  | exit i => exact ⟨_, s1, st1, h1.block, h2⟩
  | ret => exact ⟨_, s1, st1, h1.block, h2⟩
theorem Reach.scope (h : Reach C P c s st Q) : Reach C P (.scope c) s st Q := by
  obtain ⟨e, s1, st1, h1, h2⟩ := h
  exact ⟨e, s1, st1, h1.scope, h2⟩
theorem Blk.normal (h : Q .normal s st) : Blk id Q .normal s st := h
theorem Blk.ret (h : Q .ret s st) : Blk id Q .ret s st := h
theorem Blk.exit (h : Q .normal s st) : Blk id Q (.exit id) s st := by simpa [Blk] using h
theorem Reach.skip (h : Q .normal s st) : Reach C P .skip s st Q := ⟨_, _, _, Runs.skip, h⟩
theorem Reach.label {l : Nat} (h : Q .normal s st) : Reach C P (.label l) s st Q := ⟨_, _, _, Runs.label, h⟩
theorem Reach.ret (h : Q .ret s st) : Reach C P .ret s st Q := ⟨_, _, _, Runs.rett, h⟩
theorem Reach.exit (h : Q (.exit i) s st) : Reach C P (.exit i) s st Q := ⟨_, _, _, Runs.exit, h⟩
theorem Reach.cond_t {t : Operand} (hc : ev s t = .bool true) (h : Reach C P x s st Q) : Reach C P (.cond t x y) s st Q := by
  obtain ⟨e, s1, st1, h1, h2⟩ := h
  exact ⟨e, s1, st1, Runs.cond (q := true) hc h1, h2⟩
theorem Reach.cond_f {t : Operand} (hc : ev s t = .bool false) (h : Reach C P y s st Q) : Reach C P (.cond t x y) s st Q := by
  obtain ⟨e, s1, st1, h1, h2⟩ := h
  exact ⟨e, s1, st1, Runs.cond (q := false) hc h1, h2⟩
theorem Reach.region {ops : Array Oper} (h : ROps C P false ops ops.toList s st (Q .normal)) : Reach C P (.region id ops false) s st Q := by
  obtain ⟨s1, st1, h1, h2⟩ := h
  exact ⟨_, s1, st1, Runs.region (.inl rfl) h1, h2⟩
theorem Reach.regionD {ops : Array Oper} (hd : drawB C P ops = true) (h : ROps C P true ops ops.toList s st (Q .normal)) : Reach C P (.region id ops true) s st Q := by
  obtain ⟨s1, st1, h1, h2⟩ := h
  exact ⟨_, s1, st1, Runs.region (.inr hd) h1, h2⟩
theorem Reach.regionF {ops : Array Oper} (hb : drawB C P ops = false) (h : ROps C P true ops (hoist ops) s st fun s1 st1 => drawG C P ops (farB s1) = true ∧ Q .normal s1 st1) : Reach C P (.region id ops true) s st Q := by
  obtain ⟨s1, st1, h1, hd, h2⟩ := h
  exact ⟨_, s1, st1, Runs.regionF (by simp [hb]) hd h1, h2⟩
section
variable {d : Bool} {all : Array Oper} {l : List Oper} {o : Oper} {R : List V → St → Prop} {f : FuncId} {args : List V} {v : V}
theorem ROps.nil (h : R s st) : ROps C P d all [] s st R := ⟨s, st, OpsRuns.nil, h⟩
theorem ROps.run (j : Nat) (h : opsRun P (fun _ _ _ => none) d all (l.take j) s st = some (s1, st1)) (hR : ROps C P d all (l.drop j) s1 st1 R) : ROps C P d all l s st R := by
  obtain ⟨s2, st2, h1, h2⟩ := hR
  refine ⟨s2, st2, ?_, h2⟩
  have := (OpsRuns.of (C := C) h).append h1
  rwa [List.take_append_drop] at this
/-- a call that leaves all as it was -/
theorem ROps.call (hw : wantedB all s o = some true) (ho : aop P s o st = some (.call f args)) (hc : ∀ st, Runs C P (.call f args st) (.ret v st)) (hR : ROps C P d all l (putS s o.dst v) st R) :
    ROps C P d all (o :: l) s st R := by
  obtain ⟨s2, st2, h1, h2⟩ := hR
  exact ⟨s2, st2, OpsRuns.call hw ho (hc _) rfl h1, h2⟩
/-- a call in the caller's memory -/
theorem ROps.keep (hw : wantedB all s o = some true) (ho : aop P s o st = some (.call f args)) (hc : Runs C P (.call f args { st with kills := [] }) (.ret v st1)) (hd : d = false ∨ st1.kills = [])
    (hR : ROps C P d all l (putS (killAll st1.kills s) o.dst v) { st1 with kills := st1.kills ++ st.kills } R) :
    ROps C P d all (o :: l) s st R := by
  obtain ⟨s2, st2, ⟨k2, h1⟩, h2⟩ := hR
  obtain ⟨k1, hc⟩ := hc
  refine ⟨s2, st2, ⟨max k1 k2, ?_⟩, h2⟩
  unfold opsRun opRun
  simp only [hw, ho, run_mono (Nat.le_max_left k1 k2) hc, retOf]
  rw [if_neg (by rcases hd with rfl | hd <;> simp [*])]
  exact opsRun_mono (callk_mono (Nat.le_max_right k1 k2)) h1
/-- one operation -/
theorem ROps.skip1 (hw : wantedB all s o = some false) (hR : ROps C P d all l (putS s o.dst (.tup [])) st R) : ROps C P d all (o :: l) s st R := by
  obtain ⟨s2, st2, h1, h2⟩ := hR
  exact ⟨s2, st2, OpsRuns.skip hw h1, h2⟩
end
/-- how a function ends -/
def Fin (P : Program) (h f : Nat) (rs : Array ResultVar) (R : V → Prop) : AExit → List V → St → Prop := fun e s st =>
  (e = .normal ∨ e = .ret) ∧ ∃ v, resB P st s rs = some v ∧ v.under h = true ∧ R (v.freeze f)
theorem Fin.ret {h f : Nat} {rs : Array ResultVar} {R : V → Prop} {v : V} (h1 : resB P st s rs = some v) (h2 : v.under h = true) (h3 : R (v.freeze f)) : Fin P h f rs R .ret s st := ⟨.inr rfl, v, h1, h2, h3⟩
theorem Fin.normal {h f : Nat} {rs : Array ResultVar} {R : V → Prop} {v : V} (h1 : resB P st s rs = some v) (h2 : v.under h = true) (h3 : R (v.freeze f)) : Fin P h f rs R .normal s st := ⟨.inl rfl, v, h1, h2, h3⟩
def St.enter (st : St) : St := { st with lo := st.heap.length, flo := st.fams.length, kills := [] }
/-- what a round comes to -/
inductive Turn (σ ρ : Type) where
  | next (x : σ)
  | out (e : AExit) (x : ρ)
section
variable {σ ρ : Type} {step : σ → Option (Turn σ ρ)}
def iterN (step : σ → Option (Turn σ ρ)) : Nat → σ → Option (AExit × ρ)
  | 0, _ => none
  | n + 1, x => match step x with
    | some (.next y) => iterN step n y
    | some (.out e y) => some (e, y)
    | none => none
/-- rounds till one ends -/
noncomputable def loopW (step : σ → Option (Turn σ ρ)) (x : σ) : Option (AExit × ρ) :=
  open Classical in if h : ∃ r, ∃ n, iterN step n x = some r then some (Classical.choose h) else none
theorem loopW_iter {x : σ} {r : AExit × ρ} (h : loopW step x = some r) : ∃ n, iterN step n x = some r := by
  unfold loopW at h
  split at h
  · rename_i hx
    simp only [Option.some.injEq] at h
    rw [← h]
    exact Classical.choose_spec hx
  · simp at h
end
/-- what a round leaves -/
def Left1 {σ ρ : Type} (I : σ → List V → St → Prop) (O : AExit → ρ → List V → St → Prop) (t : Turn σ ρ) : AExit → List V → St → Prop := fun e s st =>
  match t with
  | .next y => e = .normal ∧ I y s st
  | .out e' y => e = e' ∧ e' ≠ .normal ∧ O e' y s st
section
variable {σ ρ : Type} {I : σ → List V → St → Prop} {O : AExit → ρ → List V → St → Prop}
theorem Left1.next {y : σ} (h : I y s st) : Left1 I O (.next y) .normal s st := ⟨rfl, h⟩
theorem Left1.ret {y : ρ} (h : O .ret y s st) : Left1 I O (.out .ret y) .ret s st := ⟨rfl, by simp, h⟩
theorem Left1.exit {y : ρ} (h : O (.exit i) y s st) : Left1 I O (.out (.exit i) y) (.exit i) s st := ⟨rfl, by simp, h⟩
/-- rounds that keep an invariant -/
theorem Reach.loop {step : σ → Option (Turn σ ρ)} (hr : ∀ x s st t, I x s st → step x = some t → Reach C P c s st (Left1 I O t)) {z : σ} {r : AExit × ρ}
    (hI : I z s st) (hl : loopW step z = some r) (hQ : ∀ s' st', O r.1 r.2 s' st' → Q r.1 s' st') : Reach C P (.loop c) s st Q := by
  obtain ⟨n, hn⟩ := loopW_iter hl
  clear hl
  induction n generalizing z s st with
  | zero => simp [iterN] at hn
  | succ n ih =>
    unfold iterN at hn
    cases hs : step z with
    | none => rw [hs] at hn; simp at hn
    | some t =>
      rw [hs] at hn
      obtain ⟨e, s1, st1, h1, h2⟩ := hr _ _ _ _ hI hs
      cases t with
      | next y =>
        obtain ⟨rfl, hI1⟩ := h2
        obtain ⟨e2, s2, st2, h3, h4⟩ := ih hI1 hn
        exact ⟨e2, s2, st2, Runs.loop_next h1 h3, h4⟩
      | out e' y =>
        obtain ⟨rfl, hne, hI1⟩ := h2
        simp only [Option.some.injEq] at hn
        subst hn
        exact ⟨_, s1, st1, Runs.loop_out h1 hne, hQ _ _ hI1⟩
end
end
end Go.Abs

namespace Go.Abs
open Go
def bnd {α β : Type} (o : Option α) (k : α → Option β) : Option β := match o with | some x => k x | none => none
def grd {β : Type} (c : Prop) [Decidable c] (b : Option β) : Option β := if c then b else none
def natOf {β : Type} (x : Int) (k : Nat → Option β) : Option β := if 0 ≤ x then k x.toNat else none
section
variable {α β : Type} {r : β}
theorem natOf_elim {x : Int} {k : Nat → Option β} (h : natOf x k = some r) : ∃ m : Nat, x = m ∧ k m = some r := by
  unfold natOf at h
  split at h
  · exact ⟨x.toNat, by omega, h⟩
  · simp at h
theorem natOf_nat {m : Nat} {k : Nat → Option β} : natOf (m : Int) k = k m := by simp [natOf]
theorem bnd_elim {o : Option α} {k : α → Option β} (h : bnd o k = some r) : ∃ x, o = some x ∧ k x = some r := by
  cases o with
  | none => simp [bnd] at h
  | some x => exact ⟨x, rfl, h⟩
theorem bnd_some {x : α} {k : α → Option β} : bnd (some x) k = k x := rfl
theorem grd_elim {c : Prop} [Decidable c] {b : Option β} (h : grd c b = some r) : c ∧ b = some r := by
  unfold grd at h
  split at h
  · rename_i hc; exact ⟨hc, h⟩
  · simp at h
theorem grd_pos {c : Prop} [Decidable c] {b : Option β} (h : c) : grd c b = b := by simp [grd, h]
end
section
variable {P : Program} {C : Cfg} {s : List V} {st : St} {d : Bool} {all : Array Oper} {l : List Oper} {o : Oper} {f : FuncId} {args : List V}
end
/-- what is known of the rights of a list -/
def LOk {α : Type} (t : Tok) (sz' sz : Nat) (xs : List α) : Prop := (t = .nil ∧ xs = []) ∨ (t ≠ .nil ∧ sz' = sz)
theorem wrap64 {x : Int} (h1 : -9223372036854775808 ≤ x) (h2 : x ≤ 9223372036854775807) : IntKind.wrap .i64 x = x := by
  simp [IntKind.wrap, IntKind.bits, IntKind.signed]
  omega
end Go.Abs

namespace Go.Abs
open Go
/-- a list that may be appended to: nil, or of a family of its own -/
def HOk {α : Type} (t : Tok) (q sz ty : Nat) (wr : Bool) (fs : List Fam) (fl : Nat) (xs : List α) : Prop :=
  (t = .nil ∧ q = 0 ∧ xs = [] ∧ wr = false) ∨ ∃ F ep, t = .own F ep ∧ q = sz ∧ fs[F]? = some ⟨ep, xs.length, sz, ty, wr⟩ ∧ fl ≤ F ∧ (wr = false → xs ≠ [])
section
variable {α β : Type} {t : Tok} {q sz ty fl : Nat} {wr : Bool} {fs : List Fam} {xs : List α}
theorem HOk.nil : HOk .nil 0 sz ty false fs fl ([] : List α) := .inl ⟨rfl, rfl, rfl, rfl⟩
theorem HOk.own {F ep : Nat} (h : fs[F]? = some ⟨ep, xs.length, sz, ty, wr⟩) (hl : fl ≤ F) (hn : wr = false → xs ≠ []) : HOk (.own F ep) sz sz ty wr fs fl xs := .inr ⟨F, ep, rfl, rfl, h, hl, hn⟩
theorem HOk.app (h : HOk t q sz ty wr fs fl xs) (gs : List Fam) : HOk t q sz ty wr (fs ++ gs) fl xs := by
  rcases h with h | ⟨F, ep, h1, h2, h3, h4⟩
  · exact .inl h
  · exact .inr ⟨F, ep, h1, h2, by rw [List.getElem?_append_left (List.getElem?_eq_some_iff.1 h3).1]; exact h3, h4⟩
theorem LOk.size (h : LOk t q sz xs) : t = .nil ∨ q = sz := by
  rcases h with ⟨h1, _⟩ | ⟨_, h2⟩
  · exact .inl h1
  · exact .inr h2
theorem LOk.cut {ys : List α} (h : LOk t q sz xs) (hy : xs = [] → ys = []) (b c : Nat) : LOk (cutTok t b c) q sz ys := by
  rcases h with ⟨rfl, h2⟩ | ⟨h1, h2⟩
  · exact .inl ⟨rfl, hy h2⟩
  · refine .inr ⟨?_, h2⟩
    cases t <;> simp [cutTok] at h1 ⊢
    split <;> simp
theorem LOk.nil : LOk .nil 0 sz ([] : List α) := .inl ⟨rfl, rfl⟩
theorem LOk.of (ht : t ≠ .nil) : LOk t sz sz xs := .inr ⟨ht, rfl⟩
theorem HOk.freeze {enc : α → V} (he : ∀ f l, V.freezes f (List.map enc l) = List.map enc l) (h : HOk t q sz ty wr fs fl xs) :
    ∃ t' q', V.freeze fl (.list t 0 q (List.map enc xs)) = .list t' 0 q' (List.map enc xs) ∧ LOk t' q' sz xs := by
  rcases h with ⟨rfl, rfl, rfl, _⟩ | ⟨F, ep, rfl, rfl, _, h4, _⟩
  · exact ⟨.nil, 0, by simp [V.freeze, V.freezes], .inl ⟨rfl, rfl⟩⟩
  · exact ⟨.ro, q, by simp [V.freeze, Nat.not_lt.2 h4, he], .inr ⟨by simp, rfl⟩⟩
theorem LOk.freeze {enc : α → V} (he : ∀ f l, V.freezes f (List.map enc l) = List.map enc l) (f o : Nat) (h : LOk t q sz xs) :
    ∃ t' o', V.freeze f (.list t o q (List.map enc xs)) = .list t' o' q (List.map enc xs) ∧ LOk t' q sz xs := by
  rcases h with ⟨rfl, rfl⟩ | ⟨h1, rfl⟩
  · exact ⟨.nil, o, by simp [V.freeze, V.freezes], .inl ⟨rfl, rfl⟩⟩
  · cases t with
    | nil => exact absurd rfl h1
    | clip => exact ⟨.clip, o, by simp [V.freeze, he], .inr ⟨h1, rfl⟩⟩
    | ro => exact ⟨.ro, o, by simp [V.freeze, he], .inr ⟨h1, rfl⟩⟩
    | own F ep =>
      by_cases hF : F < f
      · exact ⟨.own F ep, o, by simp [V.freeze, he, hF], .inr ⟨h1, rfl⟩⟩
      · exact ⟨.ro, 0, by simp [V.freeze, he, hF], .inr ⟨by simp, rfl⟩⟩
end
/-- values without lists, pointers or functions -/
structure Flat {α : Type} (enc : α → V) : Prop where
  upd : ∀ F ep i e x, V.upd F ep i e (enc x) = enc x
  freeze : ∀ f x, V.freeze f (enc x) = enc x
  free : ∀ F x, V.free F (enc x) = true
  kill : ∀ ks x, V.kill ks (enc x) = enc x
  under : ∀ h x, V.under h (enc x) = true
section
variable {α : Type} {enc : α → V}
theorem Flat.upds (H : Flat enc) (F ep i : Nat) (e : V) : ∀ l : List α, V.upds F ep i e (List.map enc l) = List.map enc l
  | [] => by simp [V.upds]
  | x :: l => by simp [V.upds, H.upd, Flat.upds H F ep i e l]
theorem Flat.freezes (H : Flat enc) (f : Nat) : ∀ l : List α, V.freezes f (List.map enc l) = List.map enc l
  | [] => by simp [V.freezes]
  | x :: l => by simp [V.freezes, H.freeze, Flat.freezes H f l]
theorem Flat.frees (H : Flat enc) (F : Nat) : ∀ l : List α, V.frees F (List.map enc l) = true
  | [] => by simp [V.frees]
  | x :: l => by simp [V.frees, H.free, Flat.frees H F l]
theorem Flat.kills (H : Flat enc) (ks : List Nat) : ∀ l : List α, V.kills ks (List.map enc l) = List.map enc l
  | [] => by simp [V.kills]
  | x :: l => by simp [V.kills, H.kill, Flat.kills H ks l]
theorem Flat.unders (H : Flat enc) (h : Nat) : ∀ l : List α, V.unders h (List.map enc l) = true
  | [] => by simp [V.unders]
  | x :: l => by simp [V.unders, H.under, Flat.unders H h l]
end
end Go.Abs
namespace Go.Abs
open Go
section
variable {α : Type} {t : Tok} {q sz ty fl : Nat} {wr : Bool} {fs : List Fam} {xs : List α} {enc : α → V}
/-- such a list, whichever -/
def HeldV {α : Type} (enc : α → V) (sz ty : Nat) (wr : Bool) (fs : List Fam) (fl : Nat) (xs : List α) (v : V) : Prop := ∃ t q, v = .list t 0 q (List.map enc xs) ∧ HOk t q sz ty wr fs fl xs
theorem HeldV.mk {l : List V} (h : HOk t q sz ty wr fs fl xs) (hl : l = List.map enc xs) : HeldV enc sz ty wr fs fl xs (.list t 0 q l) := ⟨t, q, by rw [hl], h⟩
/-- a list to read -/
def ReadV {α : Type} (enc : α → V) (sz : Nat) (xs : List α) (v : V) : Prop := ∃ t o q, v = .list t o q (List.map enc xs) ∧ LOk t q sz xs
theorem ReadV.mk {o : Nat} {l : List V} (h : LOk t q sz xs) (hl : l = List.map enc xs) : ReadV enc sz xs (.list t o q l) := ⟨t, o, q, by rw [hl], h⟩
theorem LOk.or (h : LOk t q sz xs) : q = sz ∨ xs = [] := by
  rcases h with ⟨_, h⟩ | ⟨_, h⟩
  · exact .inr h
  · exact .inl h
theorem HOk.conv (h : HOk t q sz ty wr fs fl xs) {ys : List α} (e : xs = ys) : HOk t q sz ty wr fs fl ys := e ▸ h
theorem LOk.conv (h : LOk t q sz xs) {ys : List α} (e : xs = ys) : LOk t q sz ys := e ▸ h
theorem HOk.set (h : HOk t q sz ty wr fs fl xs) (i : Nat) (x : α) : HOk t q sz ty wr fs fl (xs.set i x) := by
  rcases h with ⟨h1, h2, rfl, h5⟩ | ⟨F, ep, h1, h2, h3, h4, h6⟩
  · exact .inl ⟨h1, h2, by simp, h5⟩
  · exact .inr ⟨F, ep, h1, h2, by simpa using h3, h4, fun hw => by simpa using h6 hw⟩
theorem HOk.new (gs : List Fam) (ep : Nat) (h : fl ≤ gs.length) : HOk (.own gs.length ep) sz sz ty true (gs ++ [⟨ep, xs.length, sz, ty, true⟩]) fl xs := .inr ⟨_, _, rfl, rfl, by simp, h, by simp⟩
end
end Go.Abs
