/- Part of a proof. -/
import Derived.Test.YthlcfhkcbmikcaaGreatChecked
import Derived.Test.YthlcfhkcbmikcaaGreatSxB
import Derived.Ground.NamesProg
import Derived.Shelf.Strings.OnBuilder
import Derived.WalkKit
import Derived.WalkSpells
import Derived.Lib.Builder
import Derived.Lib.UnsafeStr
import Derived.Laws.Externs
import Derived.Shelf.RegionOpenPlain
import Derived.Lib.Strings
import Derived.Lib.Walk
set_option linter.unusedSimpArgs false
set_option linter.unusedVariables false
set_option linter.unusedSectionVars false
namespace Go.Abs
open Go Go.Proofs
theorem mixed:Tryz.prog.follows .mixedOrders=true:=by kernel_rfl
end Go.Abs

namespace Go.Proofs
open Go.Shelf Go.RowKit
def Tryz.laysJoin_ren:Go.Shelf.Ren :=
  {
  f:=fun x =>
    match x with
    | 156=>173
    | 165=>178
    | 166=>87
    | 169=>90
    | 240=>118
    | 241=>179
    | 276=>149
    | 277=>180
    | n=>n,
  t:=fun x =>
    match x with
    | 31=>30
    | 9=>9
    | 3=>3
    | 4=>4
    | 0=>0
    | 20=>20
    | 72=>154
    | 76=>158
    | 70=>152
    | 37=>145
    | 75=>157
    | 127=>190
    | 164=>210
    | 5=>5
    | 80=>161
    | n=>n,
  g:=fun x =>
    have n:=x;
    n }
theorem Tryz.laysJoin:Lays.n156 Tryz.prog Tryz.laysJoin_ren :=
{ mixed:=by kernel_rfl,
  f156:=Eq.trans Tryz.func173 (congrArg some (by kernel_rfl)),
  f165:=Eq.trans Tryz.func178 (congrArg some (by kernel_rfl)),
  f166:=Eq.trans Tryz.func87 (congrArg some (by kernel_rfl)),
  f169:=Eq.trans Tryz.func90 (congrArg some (by kernel_rfl)),
  f240:=Eq.trans Tryz.func118 (congrArg some (by kernel_rfl)),
  f241:=Eq.trans Tryz.func179 (congrArg some (by kernel_rfl)),
  f276:=Eq.trans Tryz.func149 (congrArg some (by kernel_rfl)),
  f277:=Eq.trans Tryz.func180 (congrArg some (by kernel_rfl)),
  t0:=Tryz.underlying0,
  a0:=Tryz.isAgg0,
  z0:=Tryz.sizeOf0,
  v0:=Tryz.zeroValue0,
  t3:=Tryz.underlying3,
  a3:=Tryz.isAgg3,
  z3:=Tryz.sizeOf3,
  v3:=Tryz.zeroValue3,
  t4:=Tryz.underlying4,
  a4:=Tryz.isAgg4,
  z4:=Tryz.sizeOf4,
  v4:=Tryz.zeroValue4,
  t9:=Tryz.underlying9,
  a9:=Tryz.isAgg9,
  z9:=Tryz.sizeOf9,
  v9:=Tryz.zeroValue9,
  t20:=Tryz.underlying20,
  a20:=Tryz.isAgg20,
  z20:=Tryz.sizeOf20,
  v20:=Tryz.zeroValue20,
  t31:=Tryz.underlying30,
  a31:=Tryz.isAgg30,
  z31:=Tryz.sizeOf30,
  v31:=Tryz.zeroValue30,
  t37:=Tryz.underlying145,
  a37:=Tryz.isAgg145,
  z37:=Tryz.sizeOf145,
  v37:=Tryz.zeroValue145,
  t70:=Tryz.underlying152,
  a70:=Tryz.isAgg152,
  z70:=Tryz.sizeOf152,
  v70:=Tryz.zeroValue152,
  t72:=Tryz.underlying154,
  a72:=Tryz.isAgg154,
  z72:=Tryz.sizeOf154,
  v72:=Tryz.zeroValue154,
  t75:=Tryz.underlying157,
  a75:=Tryz.isAgg157,
  z75:=Tryz.sizeOf157,
  v75:=Tryz.zeroValue157,
  t76:=Tryz.underlying158,
  a76:=Tryz.isAgg158,
  z76:=Tryz.sizeOf158,
  v76:=Tryz.zeroValue158,
  t127:=Tryz.underlying190,
  a127:=Tryz.isAgg190,
  z127:=Tryz.sizeOf190,
  v127:=Tryz.zeroValue190,
  t164:=Tryz.underlying210,
  a164:=Tryz.isAgg210,
  z164:=Tryz.sizeOf210,
  v164:=Tryz.zeroValue210 }
theorem Tryz.extraJoin:Builder.Extra Tryz.prog Tryz.laysJoin_ren where
  sizeBuilder:=by kernel_rfl
  liesBuilder:=by kernel_rfl
  t5:=Tryz.underlying5
  a5:=Tryz.isAgg5
  z5:=Tryz.sizeOf5
  v5:=Tryz.zeroValue5
  infoByte:=by kernel_rfl
  cellsByte:=by kernel_rfl
  sizeByte:=by kernel_rfl
  neB5:=by decide
end Go.Proofs
namespace Go.Abs
open Go Go.Proofs
def strB:V→Option (List UInt8)
  | .str s=>some s
  | _=>none
theorem strB_map (ss:List (List UInt8)):(List.map V.str ss).filterMap strB=ss:=by
  induction ss with
  | nil=>rfl
  | cons s ss ih=>simp[strB,ih]
open Classical in
noncomputable def joinV (args:List V):Option V :=
  match args with
  | [.list t off sz xs,.str sep] =>
    if xs=List.map V.str (xs.filterMap strB)∧xs.length≤140737488355328∧(Lib.join (xs.filterMap strB) sep).length≤140737488355328 then some (.str (Lib.join (xs.filterMap strB) sep)) else none
  | _=>none
theorem join_sim:Sound Tryz.prog 173 (ans joinV):=by
  intro args st v st' h E w vs hw _ hfl hsz hv
  unfold ans joinV at h
  split at h
  rotate_left
  · simp at h
  rename_i t off sz xs sep
  split at h
  rotate_left
  · simp at h
  rename_i hc
  obtain⟨hx,hN,hlen⟩:=hc
  simp only[Option.map_some,Option.some.injEq,Prod.mk.injEq] at h
  obtain⟨rfl,rfl⟩:=h
  generalize hss:xs.filterMap strB=ss at hx hlen
  subst hx
  have h0:=hv 0 (by simp)
  have h1:=hv 1 (by simp)
  have hvs:vs=#[vs.getD 0 undef,vs.getD 1 undef]:=by
    have:vs.size=2:=by simpa using hsz
    apply Array.ext
    · simpa using this
    · intro k hk _
      have hk0:k=0∨k=1:=by omega
      rcases hk0 with rfl | rfl<;>simp[Array.getD_eq_getD_getElem?,this]
  rw[hvs]
  generalize vs.getD 0 undef=pv at h0
  generalize vs.getD 1 undef=qv at h1
  simp only[List.getD_cons_zero,List.getD_cons_succ] at h0 h1
  cases h1 with
  | str sb =>
  have fin0:∀(a:Option Addr) (c:Nat),ss=[]→Calls Tryz.prog 173 #[.slice a 0 c,.string sb] w fun e w'=>∃cv E',e=.returned cv∧VR E' st w' cv (.str (Lib.join ss sb.data.toList))∧WR E' st w'∧Seg E st w E' st w':=by
    intro a c hs
    subst hs
    refine (Any.strings_Join_none Tryz.laysJoin Tryz.extraJoin a c sb w).mono ?_
    rintro e w' ⟨rfl,rfl⟩
    exact⟨_,E,rfl,.str ⟨#[]⟩,hw,.refl _ _ _⟩
  generalize hl:List.map V.str ss=l at h0
  cases h0 with
  | nil=>exact fin0 none 0 (by cases ss<;>simp at hl ⊢)
  | list _ _ _ _ a cap f ht hcap hsp hz hel hcell hrd htok hone hvv =>
    subst hl
    by_cases hn:ss=[]
    · subst hn
      exact fin0 (some a) cap rfl
    · have hpos:0<(List.map V.str ss).length:=by simpa using List.length_pos_iff.2 hn
      have hsz1:sz=1:=by
        have:=hel 0 hpos
        have e:(List.map V.str ss).getD 0 .dead=V.str (ss.getD 0 []):=by
          cases ss with
          | nil=>exact absurd rfl hn
          | cons s r=>rfl
        rw[e] at this
        simpa[V.cells] using this.symm
      subst hsz1
      have hcells:∀(j:Nat) x,(ss.map fun s=>(⟨s.toArray⟩:ByteArray))[j]? = some x→w.cell? ⟨a.block,a.off+j,none⟩=some (.string x):=by
        intro j x hj
        rw[List.getElem?_map,Option.map_eq_some_iff] at hj
        obtain⟨s,hj,rfl⟩:=hj
        have hjl:j<ss.length:=(List.getElem?_eq_some_iff.1 hj).1
        have c1:=hcell j (by simpa using hjl)
        have c2:=hvv j 0 (by simpa using hjl) (by omega)
        have e:(List.map V.str ss).getD j .dead=V.str s:=by simp[List.getD_eq_getElem?_getD,hj]
        rw[e] at c2
        simp only[V.cells,List.getD_cons_zero,Nat.mul_one,Nat.add_zero] at c2
        have c3:f j=.string ⟨s.toArray⟩:=by
          generalize f j=fj at c2
          generalize hq:V.str s=q at c2
          cases c2<;>simp at hq
          subst hq
          rfl
        rw[←c3]
        exact c1
      have hbk:a.block<w.heap.size:=by
        have c1:=hcell 0 (by simpa using hpos)
        rcases Nat.lt_or_ge a.block w.heap.size with h | h
        · exact h
        · simp[World.cell?,adr,Array.getElem?_eq_none h] at c1
      have hmm:(ss.map fun s=>(⟨s.toArray⟩:ByteArray)).map (·.data.toList)=ss:=by
        rw[List.map_map]
        conv=>rhs;rw[←List.map_id ss]
        apply List.map_congr_left
        intro s _
        rfl
      have ea:a=⟨a.block,a.off,none⟩:=by
        have:=hsp hpos
        cases a
        simp only at this
        subst this
        rfl
      have hJ:=Any.strings_Join Tryz.laysJoin Tryz.extraJoin a.block a.off cap (ss.map fun s=>(⟨s.toArray⟩:ByteArray)) sb w hcells hbk (by simpa using hN) (by simpa using hcap) (by rw[hmm];exact hlen)
      rw[hmm,List.length_map] at hJ
      have e99:Tryz.laysJoin_ren.f 156=173:=by kernel_rfl
      rw[e99] at hJ
      rw[ea,List.length_map]
      refine hJ.mono ?_
      rintro e w' ⟨rfl,hB⟩
      have hB':Blw w w':=⟨hB.size,fun b hb=>hB.block b hb,⟨hB.os,hB.output⟩⟩
      exact⟨_,E,rfl,.str ⟨(Lib.join ss sb.data.toList).toArray⟩,hw.blw hB',seg_blw hB' hfl⟩
end Go.Abs

namespace Go.Abs
open Go Go.Proofs Go.RowKit
set_option maxHeartbeats 4000000 in
set_option maxRecDepth 100000 in
theorem copy_used (b o:Nat) (w:World) (h0:w.cell? ⟨b,o,none⟩=some (.pointer (some ⟨b,o,none⟩))) :
    Calls Tryz.prog 118 #[.pointer (some ⟨b,o,none⟩)] w fun e w'=>e=.returned (.tuple #[])∧w'=w:=by
  obtain⟨j,hj⟩:∃j,Tryz.prog.info? 154=some j:=by
    have:(Tryz.prog.info? 154).isSome=true:=by kernel_rfl
    exact Option.isSome_iff_exists.1 this
  go_enter Tryz.func118,Tryz.ntmps118
  go_wp2
  rw[Lib.run_neq_ptr_same w _ Tryz.underlying152 hj]
  go_wp2
  go_end0
  exact⟨rfl,rfl⟩
set_option maxHeartbeats 4000000 in
set_option maxRecDepth 100000 in
theorem copy_fresh (b o T n:Nat) (w:World) (h0:w.cell? ⟨b,o,none⟩=some (.pointer none)) (hsh:w.shape? b=some (T,n)) (ho:o<n)
    (hl:liesAt Tryz.prog Tryz.prog.depth T (n / Tryz.prog.cellsOf T) o 154 1=true) (hfz:w.frozen? ⟨b,o,none⟩=false) :
    Calls Tryz.prog 118 #[.pointer (some ⟨b,o,none⟩)] w fun e w'=>e=.returned (.tuple #[])∧w'=w.setCell ⟨b,o,none⟩ (.pointer (some ⟨b,o,none⟩)):=by
  obtain⟨j,hj⟩:∃j,Tryz.prog.info? 154=some j:=by
    have:(Tryz.prog.info? 154).isSome=true:=by kernel_rfl
    exact Option.isSome_iff_exists.1 this
  have hjs:j.size≠0:=by
    have e:(Tryz.prog.info? 154).map (·.size)=some 2:=by kernel_rfl
    rw[hj] at e
    simp at e
    omega
  go_enter Tryz.func118,Tryz.ntmps118
  go_wp2
  rw[Lib.run_to_unsafe w ⟨b,o,none⟩ Tryz.underlying152 Tryz.underlying210 hj hjs hsh ho]
  simp only[Result.andThen]
  rw[Oper.upon_value]
  go_wp2
  rw[run_callFunc_extern Tryz.func149 (by kernel_rfl) (by kernel_rfl) (by kernel_rfl) (e:=Extern.AbiNoEscape.same) (by kernel_rfl)]
  rw[Lib.run_noEscape]
  simp only[Result.andThen]
  rw[Oper.upon_value]
  go_wp2
  rw[Lib.run_from_unsafe w ⟨b,o,none⟩ Tryz.underlying210 Tryz.underlying152 hj hsh hl]
  simp only[Result.andThen]
  rw[Oper.upon_value]
  go_wp2
  go_end0
  exact⟨rfl,rfl⟩
end Go.Abs

namespace Go.Abs
open Go Go.Proofs
def lies (T n o:Nat):Prop:=liesAt Tryz.prog Tryz.prog.depth T (n / Tryz.prog.cellsOf T) o 154 1=true
noncomputable instance (T n o:Nat):Decidable (lies T n o):=by unfold lies;infer_instance
noncomputable def copyA (args:List V) (st:St):Option (V×St) :=
  match args with
  | [.ptr i o]=>match st.heap[i]? with
    | some (.cells T cs) =>
      if st.lo≤i∧o<cs.length∧lies T cs.length o then
        match cs[o]? with
        | some .nilp=>some (.tup [],{ st with heap:=st.heap.set i (.cells T (cs.set o (.ptr i o))) })
        | some (.ptr i' o')=>if i'=i∧o'=o then some (.tup [],st) else none
        | _=>none
      else none
    | _=>none
  | _=>none
theorem copy_sim:Sound Tryz.prog 118 copyA:=by
  intro args st v st' h E w vs hw _ hfl hsz hv
  unfold copyA at h
  split at h
  rotate_left
  · simp at h
  rename_i i o
  split at h
  rotate_left
  · simp at h
  rename_i T cs hcs
  split at h
  rotate_left
  · simp at h
  rename_i hc
  obtain⟨hlo,ho,hl⟩:=hc
  have h0:=hv 0 (by simp)
  have hvs:vs=#[vs.getD 0 undef]:=by
    have:vs.size=1:=by simpa using hsz
    apply Array.ext
    · simpa using this
    · intro k hk _
      have hk0:k=0:=by omega
      subst hk0
      simp[Array.getD_eq_getD_getElem?,this]
  rw[hvs]
  generalize vs.getD 0 undef=pv at h0
  simp only[List.getD_cons_zero] at h0
  cases h0 with
  | ptr _ _ b hi hb =>
  obtain⟨c,g1,g2,g3,g4⟩:=hw.box i _ b hcs hb
  have hoc:o<c.size:=by omega
  have hcell:w.cell? ⟨b,o,none⟩=some (c.getD o undef):=by
    simp[World.cell?,g1,Array.getD_eq_getD_getElem?,hoc]
  have hv0:=g4 o ho
  have hsh:w.shape? b=some (T,c.size):=by simp[World.shape?,g1]
  have hl':liesAt Tryz.prog Tryz.prog.depth T (c.size / Tryz.prog.cellsOf T) o 154 1=true:=by rw[g2];exact hl
  split at h
  · rename_i hn
    have e1:cs.getD o .dead=.nilp:=by simp[List.getD_eq_getElem?_getD,hn]
    rw[e1] at hv0
    generalize hce:c.getD o undef=cv0 at hv0 hcell
    cases hv0
    simp only[Option.some.injEq,Prod.mk.injEq] at h
    obtain⟨rfl,rfl⟩:=h
    refine (copy_fresh b o T c.size w hcell hsh hoc hl' (by simp[World.frozen?,g1])).mono ?_
    rintro e w' ⟨rfl,rfl⟩
    have hs:=setCells_heap b [.pointer (some ⟨b,o,none⟩)] o w c T (0,0) g1
    obtain⟨s1,s2,s3⟩:=hs
    have hO:Only b w (w.setCell ⟨b,o,none⟩ (.pointer (some ⟨b,o,none⟩))):=⟨s2,s3,⟨rfl,rfl⟩⟩
    obtain⟨k1,k2⟩:=write_box hw hlo hi hb hO (.cells T (cs.set o (.ptr i o))) (fun S=>by
      refine⟨_,s1,by rw[wrAt_size];simpa using g2,fun k hk=>?_,fun k hk=>?_⟩
      · rw[wrAt_get _ _ _ _ (by simp;omega)]
        split
        · rename_i hk2
          have:k-o=0:=by simp at hk2;omega
          rw[this];rfl
        · exact g3 k (by simpa using hk)
      · rw[wrAt_get _ _ _ _ (by simp;omega)]
        by_cases hko:k=o
        · subst hko
          simp[ho]
          exact .ptr i k b (by simpa using hi) hb
        · rw[if_neg (by simp;omega)]
          have e2:(cs.set o (.ptr i o)).getD k .dead=cs.getD k .dead:=by
            simp[List.getD_eq_getElem?_getD,List.getElem?_set_ne (fun e=>hko e.symm)]
          rw[e2]
          exact (g4 k (by simpa using hk)).step0 S)
    exact⟨_,E,rfl,.tup _ _ rfl (fun k hk=>by simp at hk),k1,k2⟩
  · rename_i i' o' hn
    split at h
    rotate_left
    · simp at h
    rename_i he
    obtain⟨rfl,rfl⟩:=he
    have e1:cs.getD o' .dead=.ptr i' o':=by simp[List.getD_eq_getElem?_getD,hn]
    rw[e1] at hv0
    generalize hce:c.getD o' undef=cv0 at hv0 hcell
    cases hv0 with
    | ptr _ _ b2 _ hb2 =>
    rw[hb] at hb2
    injection hb2 with hb2
    subst hb2
    simp only[Option.some.injEq,Prod.mk.injEq] at h
    obtain⟨rfl,rfl⟩:=h
    refine (copy_used b o' w hcell).mono ?_
    rintro e w' ⟨rfl,rfl⟩
    exact⟨_,E,rfl,.tup _ _ rfl (fun k hk=>by simp at hk),hw,.refl _ _ _⟩
  · simp at h
end Go.Abs

namespace Go.Abs
open Go Go.Proofs Go.RowKit
theorem cellsByte:Tryz.prog.cellsOf 5=1:=by kernel_rfl
set_option maxHeartbeats 4000000 in
set_option maxRecDepth 100000 in
theorem str_some (b o g cap:Nat) (cur:Array Value) (z:Nat×Nat) (l:List UInt8) (w:World) (hc:w.cell? ⟨b,o+1,none⟩=some (.slice (some ⟨g,0,none⟩) l.length cap)) (hg:w.heap[g]? = some (.cells cur 5 z))
    (h0:l≠[]) (hcap:l.length≤cap) (hcur:l.length≤cur.size) (h63:l.length≤9223372036854775807) (hcells:∀j x,l[j]? = some x→w.cell? ⟨g,j,none⟩=some (.int .u8 x.toNat)) :
    Calls Tryz.prog 90 #[.pointer (some ⟨b,o,none⟩)] w fun e w'=>e=.returned (.string ⟨l.toArray⟩)∧w'=w.drew.freeze ⟨g,0,none⟩ l.length:=by
  have hl0:l.length≠0:=by simpa using h0
  have c1:w.drew.cell? ⟨b,o+1,none⟩=some (.slice (some ⟨g,0,none⟩) l.length cap):=hc
  have hSD:(Builtin.unsafeSliceData_ #[145] 190 #[.slice (some ⟨g,0,none⟩) l.length cap]).run Tryz.prog w.drew=.ok (.pointer (some ⟨g,0,none⟩)) w.drew :=
    Lib.run_unsafeSliceData_row _ _ _ _ _ _ (by omega)
  have hUS:(Builtin.unsafeString_ #[190,3] 9 #[.pointer (some ⟨g,0,none⟩),.int .i64 l.length]).run Tryz.prog w.drew=.ok (.string ⟨l.toArray⟩) (w.drew.freeze ⟨g,0,none⟩ l.length):=by
    refine Lib.run_unsafeString_row w.drew 190 3 9 5 Tryz.underlying190 cellsByte g cur.size (by have hg':w.drew.heap[g]? = some (.cells cur 5 z):=hg;simp[World.shape?,hg']) l h0 hcur h63 ?_
    intro j x hx
    have:=hcells j x hx
    by_cases hj:j=0
    · subst hj;simpa[Addr.add] using this
    · simpa[Addr.add,hj] using this
  have mixed:=mixed
  go_enter Tryz.func90,Tryz.ntmps90
  go_wp2
  go_region_o
  all_goals (go_wp2;go_ret;exact⟨rfl,rfl⟩)
set_option maxHeartbeats 4000000 in
set_option maxRecDepth 100000 in
theorem str_none (b o:Nat) (w:World) (hc:w.cell? ⟨b,o+1,none⟩=some (.slice none 0 0)) :
    Calls Tryz.prog 90 #[.pointer (some ⟨b,o,none⟩)] w fun e w'=>e=.returned (.string ⟨#[]⟩)∧w'=w.drew:=by
  have hUS:∀W:World,(Builtin.unsafeString_ #[190,3] 9 #[.pointer none,.int .i64 0]).run Tryz.prog W=.ok (.string .empty) W:=fun W=>Lib.run_unsafeString_none W _ _ _ none
  have c1:w.drew.cell? ⟨b,o+1,none⟩=some (.slice none 0 0):=hc
  have hSD:(Builtin.unsafeSliceData_ #[145] 190 #[.slice none 0 0]).run Tryz.prog w.drew=.ok (.pointer none) w.drew:=rfl
  have mixed:=mixed
  go_enter Tryz.func90,Tryz.ntmps90
  go_wp2
  go_region_o
  all_goals (go_wp2;go_ret;exact⟨rfl,rfl⟩)
end Go.Abs

namespace Go.Abs
open Go Go.Proofs
def bytesV (s:List UInt8):List V:=s.map fun b=>V.int .u8 (b.toNat:Int)
open Classical in
noncomputable def stringA (args:List V) (st:St):Option (V×St) :=
  match args with
  | [.ptr i o]=>match st.heap[i]? with
    | some (.cells T cs) =>
      match cs[o+1]? with
      | some (.list t off sz xs) =>
        if t=.nil∧xs=[] then some (.str [],st)
        else if h:∃(s:List UInt8) (F ep:Nat),t=.own F ep∧xs=bytesV s∧s≠[]∧st.flo≤F∧off=0∧sz=1∧s.length≤9223372036854775807∧st.fams[F]? = some ⟨ep,s.length,1,5,false⟩ then
          some (.str (xs.filterMap byteB),st)
        else none
      | _=>none
    | _=>none
  | _=>none
theorem unB (s:List UInt8):(bytesV s).filterMap byteB=s:=by
  induction s with
  | nil=>rfl
  | cons b s ih =>
    have e:byteB (V.int .u8 (b.toNat:Int))=some b:=by simp[byteB]
    simp only[bytesV,List.map_cons,List.filterMap_cons,e]
    rw[←bytesV,ih]
theorem soft_seg {E:Env} {st:St} {w w':World} {F:Nat} {f:Fam} (hw:WR E st w) (hfl:st.flo≤st.fams.length) (hF:st.fams[F]? = some f) (hsz:w'.heap.size=w.heap.size) (hq:Quiet w w') (hsame:∀b,b≠E.fam F→w'.heap[b]? = w.heap[b]?)
    (hr:∃c t z z',w.heap[E.fam F]? = some (.cells c t z)∧w'.heap[E.fam F]? = some (.cells c t z') ∧
      (0<f.sz→t=f.ty∧(f.wr=false→z'.1=0)∧∀o,o<c.size→(f.wr=false→f.tip*f.sz≤o+E.sh F)→¬(z'.1≤o∧o<z'.2))) (hge:st.flo≤F) :
    WR E st w'∧Seg E st w E st w':=by
  obtain⟨c,t,z,z',h1,h2,h3⟩:=hr
  have hcell:∀b o,w'.cell? (adr b o)=w.cell? (adr b o):=by
    intro b o
    by_cases hb:b=E.fam F
    · subst hb;simp[World.cell?,adr,h1,h2]
    · simp[World.cell?,adr,hsame b hb]
  have hrow:∀b,rowSize w' b=rowSize w b:=by
    intro b
    by_cases hb:b=E.fam F
    · subst hb;simp[rowSize,h1,h2]
    · simp[rowSize,hsame b hb]
  have S:Step [] E st w E st w' :=
    { box:=fun i b hi hb=>⟨hi,hb⟩
      cell:=fun t b o v _ _ h=>(hcell b o).trans h
      rd:=fun t b hi _ _ h=>h
      tok:=fun t off sz a n cap _ _ h=>h.of_rows (fun G g hG=>⟨hG,rfl,rfl⟩) (Nat.le_of_eq (hrow _).symm)
      lp:=fun _ _ h1 h2=>⟨h1,h2⟩ }
  refine⟨⟨fun i bx b hi hb=>?_,hw.inj,fun G g hG=>?_,hw.famBox,hw.famInj⟩,⟨S.more (fun G hG=>by simp at hG),Nat.le_of_eq hsz.symm,fun b hb hn=>hsame b (fun e=>hn (.inr ⟨F,hge,(List.getElem?_eq_some_iff.1 hF).1,e.symm⟩)),fun _ _ h=>h,rfl,rfl,Nat.le_refl _,Nat.le_refl _,fun _ _=>⟨rfl,rfl,rfl⟩,fun _ h=>h,fun _ _=>rfl,hq,rfl⟩⟩
  · have hne:b≠E.fam F:=fun e=>hw.famBox F i (List.getElem?_eq_some_iff.1 hF).1 (List.getElem?_eq_some_iff.1 hi).1 (e▸hb)
    exact (hw.box i bx b hi hb).step0 S (hsame b hne)
  · by_cases hG2:G=F
    · subst hG2
      rw[hF] at hG
      injection hG with hG
      subst hG
      obtain⟨c0,t0,z0,k1,k2,k3⟩:=hw.fam G f hF
      rw[h1] at k1
      injection k1 with k1
      injection k1 with k1a k1b k1c
      subst k1a
      exact⟨c,t,z',h2,k2,h3⟩
    · obtain⟨c0,t0,z0,k1,k2,k3⟩:=hw.fam G g hG
      have hne:E.fam G≠E.fam F:=fun e=>hG2 (hw.famInj G F (List.getElem?_eq_some_iff.1 hG).1 (List.getElem?_eq_some_iff.1 hF).1 e)
      exact⟨c0,t0,z0,(hsame _ hne).trans k1,k2,k3⟩
theorem string_sim:Sound Tryz.prog 90 stringA:=by
  intro args st v st' h E w vs hw _ hfl hsz hv
  unfold stringA at h
  split at h
  rotate_left
  · simp at h
  rename_i i o
  split at h
  rotate_left
  · simp at h
  rename_i T cs hcs
  split at h
  rotate_left
  · simp at h
  rename_i t off sz xs hl
  have h0:=hv 0 (by simp)
  have hvs:vs=#[vs.getD 0 undef]:=by
    have:vs.size=1:=by simpa using hsz
    apply Array.ext
    · simpa using this
    · intro k hk _
      have hk0:k=0:=by omega
      subst hk0
      simp[Array.getD_eq_getD_getElem?,this]
  rw[hvs]
  generalize vs.getD 0 undef=pv at h0
  simp only[List.getD_cons_zero] at h0
  cases h0 with
  | ptr _ _ b hi hb =>
  obtain⟨c,g1,g2,g3,g4⟩:=hw.box i _ b hcs hb
  have hlt:o+1<cs.length:=(List.getElem?_eq_some_iff.1 hl).1
  have hcell:w.cell? ⟨b,o+1,none⟩=some (c.getD (o+1) undef):=by
    simp[World.cell?,g1,Array.getD_eq_getD_getElem?,(by omega:o+1<c.size)]
  have hv0:=g4 (o+1) hlt
  have e1:cs.getD (o+1) .dead=.list t off sz xs:=by simp[List.getD_eq_getElem?_getD,hl]
  rw[e1] at hv0
  generalize c.getD (o+1) undef=cv0 at hv0 hcell
  have hB:Blw w w.drew:=⟨Nat.le_refl _,fun _ _=>rfl,⟨rfl,rfl⟩⟩
  split at h
  · rename_i hn
    obtain⟨rfl,rfl⟩:=hn
    simp only[Option.some.injEq,Prod.mk.injEq] at h
    obtain⟨rfl,rfl⟩:=h
    have e2:cv0=.slice none 0 0:=by
      cases hv0 with
      | nil=>rfl
      | list _ _ _ _ a cap f ht=>exact absurd rfl ht
    subst e2
    refine (str_none b o w hcell).mono ?_
    rintro e w' ⟨rfl,rfl⟩
    exact⟨_,E,rfl,.str ⟨#[]⟩,hw.blw hB,seg_blw hB hfl⟩
  · split at h
    rotate_left
    · simp at h
    rename_i hex
    obtain⟨s,F,ep,rfl,rfl,hne,hF,rfl,rfl,h63,hfam⟩:=hex
    rw[unB] at h
    simp only[Option.some.injEq,Prod.mk.injEq] at h
    obtain⟨rfl,rfl⟩:=h
    have hlen:(bytesV s).length=s.length:=by simp[bytesV]
    have hpos:0<s.length:=List.length_pos_iff.2 hne
    cases hv0 with
    | list _ _ _ _ a cap f ht hcap hsp hz hel hc hrd htok hone hvv =>
      obtain⟨f0,k1,k2,k3⟩:=htok
      rw[hfam] at k1
      injection k1 with k1
      subst k1
      obtain⟨a1,a2,a3,a4,a5⟩:=k3 rfl
      obtain⟨a6,a7⟩:=a3 (by omega)
      simp only[Nat.zero_mul] at a6
      have a8:a.off=0:=by omega
      have a9:E.sh F=0:=by omega
      obtain⟨cr,t0,z,r1,r2,r3⟩:=hw.fam F _ hfam
      obtain⟨r4,r5⟩:=r3 (by simp)
      simp only at r4 r2
      subst r4
      have ea:a=⟨E.fam F,0,none⟩:=by
        cases a with
        | mk bl of sp=>simp only at a1 a7 a8;subst a1 a7 a8;rfl
      subst ea
      rw[hlen] at hcell hcap
      have hcs2:∀j x,s[j]? = some x→w.cell? ⟨E.fam F,j,none⟩=some (.int .u8 x.toNat):=by
        intro j x hx
        have hj:j<s.length:=(List.getElem?_eq_some_iff.1 hx).1
        have h1:=hc j (by rw[hlen];omega)
        have h2:=hvv j 0 (by rw[hlen];exact hj) (by omega)
        simp only[Nat.mul_one,Nat.add_zero,Nat.zero_add] at h1 h2
        have e3:(bytesV s).getD j .dead=.int .u8 x.toNat:=by simp[bytesV,List.getD_eq_getElem?_getD,hx]
        rw[e3] at h2
        simp only[V.cells,List.getD_cons_zero] at h2
        rw[h1]
        generalize f j=cv at h2 ⊢
        cases h2
        rfl
      refine (str_some b o (E.fam F) cap cr z s w hcell r1 hne hcap (by omega) h63 hcs2).mono ?_
      rintro e w' ⟨rfl,rfl⟩
      have hO:Only (E.fam F) w (w.drew.freeze ⟨E.fam F,0,none⟩ s.length):=by
        refine⟨?_,fun b' hb'=>?_,?_⟩
        · simp[World.freeze,hne,(by omega:¬s.length=0),World.drew,-World.drew_eq]
        · simp[World.freeze,hne,(by omega:¬s.length=0),World.drew,-World.drew_eq,Array.getElem?_modify,Ne.symm hb']
        · constructor<;>simp[World.freeze,hne,(by omega:¬s.length=0),World.drew,-World.drew_eq]
      obtain⟨k4,k5⟩:=soft_seg hw hfl hfam hO.size hO.quiet hO.same (by
        have r1':w.drew.heap[E.fam F]? = some (.cells cr 5 z):=r1
        cases z with
        | mk lo hi =>
        refine⟨cr,5,(lo,hi),(if lo==hi then (0,0+s.length) else (min lo 0,max hi (0+s.length))),r1,?_,fun _=>⟨rfl,fun _=>?_,fun o ho hot=>?_⟩⟩
        · unfold World.freeze
          rw[if_neg (by omega)]
          simp only[Array.getElem?_modify,if_true,r1',Option.map_some]
        · split<;>simp
        · have h1:=r5.2 o ho (fun _=>hot rfl)
          have h2:=hot rfl
          have h3:=r5.1 rfl
          simp only at h1 h3 h2
          split
          · simp only;omega
          · simp only;omega) hF
      refine⟨_,E,rfl,?_,k4,k5⟩
      have:=VR.str (E:=E) (st:=st) (w:=w.drew.freeze ⟨E.fam F,0,none⟩ s.length) ⟨s.toArray⟩
      simpa using this
end Go.Abs

namespace Go.Abs
open Go Go.Proofs
def keepL:List FuncId:=[47,60,61,87,97,104,114,120,128,130,135,144,150,154,156,159,164,165,166,167,168,175,118]
noncomputable def CC:Cfg:=.of keepL [(90,stringA),(118,copyA),(173,ans joinV)]
theorem XCC:ExtOK Tryz.prog CC:=ext_of mixed (by
  intro p hp
  simp only[List.mem_cons,List.not_mem_nil,or_false] at hp
  rcases hp with rfl | rfl | rfl
  · exact string_sim
  · exact copy_sim
  · exact join_sim) (by
  intro p hp
  simp only[List.mem_cons,List.not_mem_nil,or_false] at hp
  rcases hp with rfl | rfl | rfl
  · intro _ args st v st' h
    simp only[stringA] at h
    split at h
    rotate_left
    · simp at h
    split at h
    rotate_left
    · simp at h
    split at h
    rotate_left
    · simp at h
    split at h
    · simp only[Option.some.injEq,Prod.mk.injEq] at h;exact h.2.symm
    · split at h
      · simp only[Option.some.injEq,Prod.mk.injEq] at h;exact h.2.symm
      · simp at h
  · intro h;simp[keepL] at h
  · intro _ args st v st' h
    unfold ans at h
    rw[Option.map_eq_some_iff] at h
    obtain⟨_,_,h⟩:=h
    simp only[Prod.mk.injEq] at h
    exact h.2.symm)
theorem Runs.ext {P:Program} {C:Cfg} {f:FuncId} {args:List V} {st st':St} {v:V} {A:List V→St→Option (V×St)} (hlt:f<P.funcs.size) (h:C.ext f=some A) (ha:A args st=some (v,st')):Runs C P (.call f args st) (.ret v st') :=
  ⟨1,by unfold run;rw[if_neg (Nat.not_le.2 hlt)];simp[h,ha]⟩
theorem copy_at {i o T:Nat} {cs:List V} {st:St} (hlo:st.lo≤i) (hb:st.heap[i]? = some (.cells T cs)) (hA:cs[o]? = some .nilp∨cs[o]? = some (.ptr i o)) (hl:liesAt Tryz.prog Tryz.prog.depth T (cs.length / Tryz.prog.cellsOf T) o 154 1=true) :
    Runs CC Tryz.prog (.call 118 [.ptr i o] st) (.ret (.tup []) { st with heap:=st.heap.set i (.cells T (cs.set o (.ptr i o))) }):=by
  have hl':lies T cs.length o:=hl
  refine Runs.ext (A:=copyA) (Array.getElem?_eq_some_iff.1 Tryz.func118).1 rfl ?_
  rcases hA with hA | hA
  · have ho:o<cs.length:=(List.getElem?_eq_some_iff.1 hA).1
    have hg:=(List.getElem?_eq_some_iff.1 hA).2
    simp[copyA,hb,hlo,ho,hl',hA,hg]
  · have ho:o<cs.length:=(List.getElem?_eq_some_iff.1 hA).1
    have hg:=(List.getElem?_eq_some_iff.1 hA).2
    have e:cs.set o (.ptr i o)=cs:=set_self hA
    have e2:st.heap.set i (.cells T cs)=st.heap:=set_self hb
    simp[copyA,hb,hlo,ho,hl',hA,hg,e,e2]
theorem string_at {i o T:Nat} {cs:List V} {s:List UInt8} {tk:Tok} {q:Nat} {st:St} (hb:st.heap[i]? = some (.cells T cs)) (hB:cs[o+1]? = some (.list tk 0 q (s.map fun b=>V.int .u8 (b.toNat:Int))))
    (ok:tk=.nil∧s=[]∨∃F ep,tk=.own F ep∧q=1∧st.fams[F]? = some ⟨ep,s.length,1,5,false⟩∧st.flo≤F∧s≠[])
    (hs:s.length≤9223372036854775807):Runs CC Tryz.prog (.call 90 [.ptr i o] st) (.ret (.str s) st):=by
  refine Runs.ext (A:=stringA) (Array.getElem?_eq_some_iff.1 Tryz.func90).1 rfl ?_
  rcases ok with ⟨rfl,rfl⟩ | ⟨F,ep,rfl,rfl,h3,h4,hn⟩
  · simp[stringA,hb,hB]
  · have hx:∃(s':List UInt8) (F' ep':Nat),Tok.own F ep=.own F' ep'∧List.map (fun b:UInt8=>V.int .u8 (b.toNat:Int)) s=bytesV s'∧s'≠[]∧st.flo≤F'∧(0:Nat)=0∧(1:Nat)=1∧s'.length≤9223372036854775807∧st.fams[F']? = some ⟨ep',s'.length,1,5,false⟩ :=
      ⟨s,F,ep,rfl,rfl,hn,h4,rfl,rfl,hs,h3⟩
    unfold stringA
    simp only[hb,hB]
    rw[if_neg (by simp)]
    rw[dif_pos hx]
    have:=unB s
    unfold bytesV at this
    rw[this]
def FnOk:FuncId×SFn→Prop
  | (g,.pure ps rs F)=>Told CC Tryz.prog g ps rs F
  | (_,.none)=>True
  | (g,.inl)=>CC.keep g=true∧CC.ext g=none
  | (g,.bcopy tb)=>g=118∧tb=154
  | (g,.bstr t8)=>g=90∧t8=5
def AllOk:List (FuncId×SFn)→Prop
  | []=>True
  | p::r=>FnOk p∧AllOk r
theorem AllOk.app:∀{l m:List (FuncId×SFn)},AllOk l→AllOk m→AllOk (l++m)
  | [],m,_,h=>h
  | p::l,m,h,h2=>⟨h.1,AllOk.app h.2 h2⟩
theorem AllOk.find:∀{l:List (FuncId×SFn)} {g:FuncId} {f:SFn},AllOk l→findFn l g=f→f=.none∨FnOk (g,f)
  | [],g,f,_,h=>by simp only[findFn] at h;exact .inl h.symm
  | p::l,g,f,h,hf=>by
    simp only[findFn] at hf
    split at hf
    · rename_i e;subst e;subst hf;exact .inr h.1
    · exact AllOk.find h.2 hf
def inlL:List (FuncId×SFn):=[(47,.inl),(60,.inl),(61,.inl),(87,.inl),(97,.inl),(104,.inl),(114,.inl),(120,.inl),(128,.inl),(130,.inl),(135,.inl),(144,.inl),(150,.inl),(154,.inl),(156,.inl),(159,.inl),(164,.inl),(165,.inl),(166,.inl),(167,.inl),(168,.inl),(175,.inl),(118,.bcopy 154),(90,.bstr 5)]
theorem inlL_ok:AllOk inlL:=by
  refine⟨⟨rfl,rfl⟩,⟨rfl,rfl⟩,⟨rfl,rfl⟩,⟨rfl,rfl⟩,⟨rfl,rfl⟩,⟨rfl,rfl⟩,⟨rfl,rfl⟩,⟨rfl,rfl⟩,⟨rfl,rfl⟩,⟨rfl,rfl⟩,⟨rfl,rfl⟩,⟨rfl,rfl⟩,⟨rfl,rfl⟩,⟨rfl,rfl⟩,⟨rfl,rfl⟩,⟨rfl,rfl⟩,⟨rfl,rfl⟩,⟨rfl,rfl⟩,⟨rfl,rfl⟩,⟨rfl,rfl⟩,⟨rfl,rfl⟩,⟨rfl,rfl⟩,⟨rfl,rfl⟩,⟨rfl,rfl⟩,trivial⟩
theorem gok {fs:List (FuncId×SFn)} {an:List (List Nat×Ann)} (h:AllOk fs):GOk (SCfg.of (fs++inlL) an keepL) Tryz.prog CC where
  pure g ps rs F hg:=by
    rcases (h.app inlL_ok).find hg with h | h
    · simp at h
    · exact h
  inl g hg:=by
    rcases (h.app inlL_ok).find hg with h | h
    · simp at h
    · exact h
  keep:=rfl
  bcopy g tb hg i o T cs st h1 h2 h3 h4:=by
    rcases (h.app inlL_ok).find hg with h | h
    · simp at h
    · obtain⟨rfl,rfl⟩:=h
      exact copy_at h1 h2 h3 h4
  bstr g t8 hg i o T cs s tk q st h1 h2 h3 h4:=by
    rcases (h.app inlL_ok).find hg with h | h
    · simp at h
    · obtain⟨rfl,rfl⟩:=h
      exact string_at h1 h2 h3 h4
def F_strings_Join (ss:List (List UInt8)) (sep:List UInt8):Option (List UInt8):=if ss.length≤140737488355328∧(Lib.join ss sep).length≤140737488355328 then some (Lib.join ss sep) else none
theorem strB_of {N:Nat→Prop}:∀{l:List (List UInt8)} {xs:List V},All2 (ERe N .str) l xs→xs=l.map V.str
  | [],xs,h=>h.nil_left
  | s::l,[],h=>by simp[All2] at h
  | s::l,v::xs,h=>by
    obtain⟨cs,h1,h2⟩:=h.1
    simp only[ERc] at h1;subst h1
    simp[Ty.isAgg] at h2;subst h2
    simp[strB_of h.2]
theorem told_strings_Join:Told CC Tryz.prog 173 [.list .str,.str] [.str] fun x=>F_strings_Join x.1 x.2:=by
  intro N x y A st hF hA hN
  obtain⟨ss,sep⟩:=x
  obtain⟨v,vs,rfl,⟨cs,h1,h2⟩,w,rfl,⟨cs',h3,h4⟩⟩:=hA
  obtain⟨tk,off,q,xs,rfl,hlok,htok,hl⟩:=h1
  simp[Ty.isAgg] at h2;subst h2
  simp only[ERc] at h3;subst h3
  simp[Ty.isAgg] at h4;subst h4
  have hxs:=strB_of hl
  subst hxs
  simp only[F_strings_Join] at hF
  split at hF
  · rename_i hc
    simp only[Option.some.injEq] at hF
    subst hF
    refine⟨.str (Lib.join ss sep),Runs.ext (A:=ans joinV) (Array.getElem?_eq_some_iff.1 Tryz.func173).1 rfl ?_,⟨_,rfl,by simp[Ty.isAgg]⟩⟩
    simp only[ans,joinV,strB_map]
    rw[if_pos ⟨trivial,by simpa using hc.1,hc.2⟩]
    rfl
  · simp at hF
end Go.Abs
