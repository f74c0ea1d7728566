/- Part of a proof. -/
import Derived.Test.YthlcfhkcbmikcaaGreatAbsA
import Derived.Lib.ConvBytes
import Derived.Laws.BytesString
import Derived.Laws.MakeOwn
import Derived.MapKept
import Derived.Carry
import Derived.LoopN
import Derived.LoopNIn
import Derived.OrdersIn
import Derived.TacticsIn
import Derived.RangeFuncLeaves
import Derived.RangeFuncRecord
set_option linter.unusedSimpArgs false
set_option linter.unusedVariables false
set_option linter.unusedSectionVars false
namespace Go.Abs
open Go
inductive OpV (E:Env) (st:St) (w:World):Option Value→Option V→Prop where
 | none:OpV E st w none none
 | some (v:Value) (d:V) (h:VR E st w v d):OpV E st w (some v) (some d)
theorem bound_run {E:Env} {st:St} {w w1:World} {P:Program} {v:Value} {d:V} {y hi k:Nat} {dflt:Nat} {code:BoundsCode} (h:VR E st w v d) (hb:boundB (some d) dflt 0 hi=some k) (hy:hi≤y) :
 (Instr.sliceBound v y code).run P w1=.ok k w1∧k≤hi:=by
 unfold boundB at hb
 cases h<;>simp only[reduceCtorEq] at hb
 split at hb
 · rename_i hc
   simp only[Option.some.injEq] at hb
   subst hb
   refine⟨?_,by omega⟩
   simp only[Instr.sliceBound,asIntOf,Sem.run_bind,Sem.run_pure,Result.andThen_ok]
   rw[if_pos (by omega)]
   rfl
 · simp at hb
theorem bounds_run {E:Env} {st:St} {w w1:World} {P:Program} {lov hiv:Option Value} {lo hi:Option V} {len cap h l:Nat} {b:Bool} (hlo:OpV E st w lov lo) (hhi:OpV E st w hiv hi)
 (h1:boundB hi len 0 len=some h) (h2:boundB lo 0 0 h=some l) (hc:len≤cap) :
 (Instr.sliceBounds b len cap lov hiv none).run P w1=.ok (l,h,cap) w1∧l≤h∧h≤len:=by
 have hh:∀code,(match hiv with | some v=>Instr.sliceBound v cap code | none=>pure len:Sem Nat).run P w1=.ok h w1∧h≤len:=by
  intro code
  cases hhi with
  | none=>simp only[boundB,Option.some.injEq] at h1;subst h1;exact⟨rfl,Nat.le_refl _⟩
  | some v d hv=>exact bound_run hv h1 hc
 have hl:∀code,(match lov with | some v=>Instr.sliceBound v h code | none=>pure 0:Sem Nat).run P w1=.ok l w1∧l≤h:=by
  intro code
  cases hlo with
  | none=>simp only[boundB,Option.some.injEq] at h2;subst h2;exact⟨rfl,Nat.zero_le _⟩
  | some v d hv=>exact bound_run hv h2 (Nat.le_refl _)
 refine⟨?_,(hl .sliceB).2,(hh .sliceAcap).2⟩
 cases hhi with
 | none =>
  simp only[boundB,Option.some.injEq] at h1
  subst h1
  cases hlo with
  | none =>
   simp only[boundB,Option.some.injEq] at h2
   subst h2
   simp[Instr.sliceBounds]
  | some v d hv =>
   have:=(hl .sliceB).1
   simp only at this
   simp[Instr.sliceBounds,this]
 | some v d hv =>
  have h3:=fun code=>(hh code).1
  simp only at h3
  cases hlo with
  | none =>
   simp only[boundB,Option.some.injEq] at h2
   subst h2
   simp[Instr.sliceBounds,h3]
  | some v2 d2 hv2 =>
   have:=(hl .sliceB).1
   simp only at this
   simp[Instr.sliceBounds,this,h3]
theorem Rd.tok {E:Env} {st:St} {t t':Tok} {b hi:Nat} (h:Rd E st t b hi) (ht:t'=t∨∀F ep,t≠.own F ep):Rd E st t' b hi:=by
 rcases ht with rfl | ht
 · exact h
 · refine⟨h.1,fun F f hF he=>?_⟩
   obtain⟨⟨ep,h1⟩,_⟩:=h.2 F f hF he
   exact absurd h1 (ht F ep)
theorem slice_VR {E:Env} {st:St} {w w1:World} {P:Program} {t:TypeId} {xv:Value} {x r:V} {lov hiv:Option Value} {lo hi:Option V} (h:sliceB P t x lo hi=some r)
 (hx:VR E st w xv x) (hlo:OpV E st w lov lo) (hhi:OpV E st w hiv hi):∃rv,(Instr.sliceAt t xv lov hiv none).run P w1=.ok rv w1∧VR E st w rv r:=by
 unfold sliceB at h
 cases hu:P.underlying t with
 | none=>simp[hu] at h
 | some du =>
  rw[hu] at h
  cases du with
  | string =>
   cases hx with
   | str s =>
    simp only at h
    cases h1:boundB hi s.data.toList.length 0 s.data.toList.length with
    | none=>simp only[h1,reduceCtorEq] at h
    | some hh =>
     simp only[h1] at h
     cases h2:boundB lo 0 0 hh with
     | none=>simp only[h2,reduceCtorEq] at h
     | some ll =>
      simp only[h2,Option.some.injEq] at h
      subst h
      have hsz:s.data.toList.length=s.size:=Array.length_toList
      rw[hsz] at h1
      obtain⟨h3,h4,h5⟩:=bounds_run (P:=P) (w1:=w1) (b:=false) hlo hhi h1 h2 (Nat.le_refl _)
      refine⟨.string (s.extract ll hh),by simp[Instr.sliceAt,run_underlying hu,Instr.slice,h3],?_⟩
      have:(s.data.toList.take hh).drop ll=(s.extract ll hh).data.toList:=by
       simp[ByteArray.data_extract,List.drop_take]
      rw[this];exact .str _
   | _=>simp at h
  | slice elem =>
   cases hx with
   | nil off sz =>
    simp only at h
    split at h
    rotate_left
    · simp at h
    rename_i hsome
    obtain⟨hsome,_⟩:=hsome
    cases h1:boundB hi ([]:List V).length 0 ([]:List V).length with
    | none=>simp only[h1,reduceCtorEq] at h
    | some hh =>
     simp only[h1] at h
     cases h2:boundB lo 0 0 hh with
     | none=>simp only[h2,reduceCtorEq] at h
     | some ll =>
      simp only[h2,Option.some.injEq] at h
      subst h
      obtain⟨h3,h4,h5⟩:=bounds_run (P:=P) (w1:=w1) (b:=true) (cap:=0) hlo hhi h1 h2 (Nat.le_refl _)
      simp at h5
      subst h5
      have:ll=0:=by omega
      subst this
      simp only[List.length_nil] at h3
      cases hs:P.info? elem with
      | none=>simp[sizeB,hs] at hsome
      | some i =>
       refine⟨.slice none 0 0,by simp[Instr.sliceAt,run_underlying hu,Instr.slice,h3,sizeOf,typeInfo,hs],?_⟩
       simp[cutTok]
       exact .nil _ _
   | list tk off sz xs a cap vs ht hcap hsp hz hel hcell hrd htok hone hv =>
    simp only at h
    split at h
    · rename_i hsz
      have hsz':sizeB P elem=some sz:=by
       rcases hsz.2 with rfl | h0
       · exact absurd rfl ht
       · exact h0.symm
      cases h1:boundB hi xs.length 0 xs.length with
      | none=>simp[h1] at h
      | some hh =>
       simp only[h1] at h
       cases h2:boundB lo 0 0 hh with
       | none=>simp[h2] at h
       | some ll =>
        simp only[h2,Option.some.injEq] at h
        subst h
        obtain⟨h3,h4,h5⟩:=bounds_run (P:=P) (w1:=w1) (b:=true) (cap:=cap) hlo hhi h1 h2 hcap
        have hrun:(Instr.sliceAt t (.slice (some a) xs.length cap) lov hiv none).run P w1=.ok (.slice (if cap=ll then some a else some (a.add (ll*sz))) (hh-ll) (cap-ll)) w1:=by
         simp[Instr.sliceAt,run_underlying hu,Instr.slice,h3,run_sizeB hsz']
        have hlen:((xs.take hh).drop ll).length=hh-ll:=by simp;omega
        have hget:∀j,j<hh-ll→((xs.take hh).drop ll).getD j .dead=xs.getD (ll+j) .dead:=by
         intro j hj
         simp[List.getD_eq_getElem?_getD,List.getElem?_take,(by omega:ll+j<hh)]
        have hmul:ll*sz+(hh-ll)*sz=hh*sz:=by rw[←Nat.add_mul];congr 1;omega
        have hmul2:hh*sz≤xs.length*sz:=Nat.mul_le_mul_right _ h5
        obtain⟨a',ha',hb',ho',hs'⟩:∃a':Addr,(if cap=ll then some a else some (a.add (ll*sz)))=some a'∧a'.block=a.block∧(ll<cap→0<sz→a.spot=none→a'.off=a.off+ll*sz∧a'.spot=none)∧(ll<cap→a.spot=none→a'.spot=none):=by
         by_cases hc:cap=ll
         · exact⟨a,by rw[if_pos hc],rfl,fun h=>by omega,fun h=>by omega⟩
         · refine⟨a.add (ll*sz),by rw[if_neg hc],?_,fun _ _ hsp=>?_,fun _ hsp=>?_⟩
           · unfold Addr.add;split<;>rfl
           · unfold Addr.add
             split
             · rename_i h0;exact⟨by omega,hsp⟩
             · exact⟨rfl,rfl⟩
           · unfold Addr.add
             split
             · exact hsp
             · rfl
        rw[ha'] at hrun
        refine⟨_,hrun,?_⟩
        have hnot:cutTok tk hh xs.length=tk∨∀F ep,tk≠.own F ep:=by
         cases tk with
         | own F ep=>exact .inl rfl
         | _=>exact .inr (fun F ep h=>by simp at h)
        rw[show Value.slice (some a') (hh-ll) (cap-ll)=Value.slice (some a') ((xs.take hh).drop ll).length (cap-ll) from by rw[hlen]]
        refine .list _ (off+ll) sz _ a' (cap-ll) (fun j=>vs (ll*sz+j)) ?_ (by omega) ?_ ?_ ?_ ?_ ?_ ?_ ?_ ?_
        · cases tk with
          | nil=>exact absurd rfl ht
          | clip=>simp only[cutTok];split<;>simp
          | _=>simp[cutTok]
        · intro hp
          rw[hlen] at hp
          exact hs' (by omega) (hsp (by omega))
        · intro hp
          rw[hlen] at hp
          exact hz (by omega)
        · intro j hj
          rw[hlen] at hj
          rw[hget j hj]
          exact hel _ (by omega)
        · intro j hj
          rw[hlen] at hj
          have hsz0:0<sz:=by
           rcases Nat.eq_zero_or_pos sz with h0 | h0
           · rw[h0] at hj;omega
           · exact h0
          have hp:0<hh-ll:=by
           rcases Nat.eq_zero_or_pos (hh-ll) with h0 | h0
           · rw[h0] at hj;omega
           · exact h0
          obtain⟨o1,o2⟩:=ho' (by omega) hsz0 (hsp (by omega))
          rw[hb',o1,Nat.add_assoc]
          exact hcell _ (by omega)
        · intro hp
          rw[hlen] at hp ⊢
          obtain⟨o1,o2⟩:=ho' (by omega) (hz (by omega)) (hsp (by omega))
          rw[hb',o1]
          exact ((hrd (by omega)).mono (by omega)).tok hnot
        · rw[hlen]
          cases tk with
          | nil=>exact absurd rfl ht
          | ro=>trivial
          | clip =>
           simp only[cutTok]
           split
           · rename_i he
             have:cap=xs.length:=htok
             show cap-ll=hh-ll
             omega
           · trivial
          | own F ep =>
           obtain⟨f,f1,f2,f3⟩:=htok
           refine⟨f,f1,f2,fun he=>?_⟩
           obtain⟨a1,a2,a3,a4,a5⟩:=f3 he
           refine⟨hb'.trans a1,a2,fun hp=>?_,by omega,?_⟩
           · obtain⟨a6,a7⟩:=a3 (by omega)
             by_cases hsz0:0<sz
             · obtain⟨o1,o2⟩:=ho' (by omega) hsz0 a7
               refine⟨?_,o2⟩
               rw[o1,Nat.add_mul];omega
             · have hs0:sz=0:=by omega
               refine⟨?_,hs' (by omega) a7⟩
               have hcl:¬cap=ll:=by omega
               rw[if_neg hcl] at ha'
               injection ha' with ha'
               rw[←ha',hs0]
               rw[hs0] at a6
               simp[Addr.add]
               omega
           · rw[hb']
             have:off+ll+(cap-ll)=off+cap:=by omega
             rw[this];exact a5
        · intro j hj
          rw[hlen] at hj
          exact hone _ (by omega)
        · intro j k hj hk
          rw[hlen] at hj
          rw[hget j hj]
          have:=hv (ll+j) k (by omega) hk
          rw[Nat.add_mul] at this
          rw[←Nat.add_assoc]
          exact this
    · simp at h
   | _=>simp at h
  | _=>simp at h
end Go.Abs

namespace Go.Abs
open Go
theorem index_VR {E:Env} {st:St} {w w1:World} {P:Program} {t:TypeId} {xv:Value} {x r:V} {k:IntKind} {n:Int} (h:indexB P t x n=some r) (hx:VR E st w xv x) :
 ∃rv,(Instr.index t xv (.int k n)).run P w1=.ok rv w1∧VR E st w rv r:=by
 unfold indexB at h
 cases hu:P.underlying t with
 | none=>simp[hu] at h
 | some du =>
  rw[hu] at h
  cases du with
  | string =>
   cases hx with
   | str s =>
    simp only at h
    split at h
    · rename_i h0
      cases hb:s.data.toList[n.toNat]? with
      | none=>rw[hb] at h;simp at h
      | some b =>
       rw[hb] at h
       simp only[Option.map_some,Option.some.injEq] at h
       subst h
       have hs:s[n.toNat]? = some b:=by
        have hlt:n.toNat<s.data.toList.length:=(List.getElem?_eq_some_iff.1 hb).1
        have hlt':n.toNat<s.size:=by rw[Array.length_toList] at hlt;exact hlt
        have hb':=(List.getElem?_eq_some_iff.1 hb).2
        rw[getElem?_pos s n.toNat hlt']
        congr 1
       exact⟨_,by simp[Instr.index,asIntOf,run_underlying hu,h0,hs],.int _ _⟩
    · simp at h
   | _=>simp at h
  | array len elem =>
   cases hx with
   | agg cs ds hl hone hv =>
    simp only at h
    split at h
    · rename_i h0
      cases hs:sizeB P elem with
      | none=>simp[hs] at h
      | some sz =>
       simp only[hs] at h
       obtain⟨rv,h1,h2⟩:=part_VR hl hone hv h
       exact⟨rv,by simp[Instr.index,asIntOf,run_underlying hu,h0,run_sizeB hs,h1],h2⟩
    · simp at h
   | _=>simp at h
  | _=>simp at h
theorem indexAddr_VR {E:Env} {st:St} {w w1:World} {P:Program} {t:TypeId} {xv:Value} {x r:V} {k:IntKind} {n:Int} (h:indexAddrB P t x n=some r) (hx:VR E st w xv x) :
 ∃rv,(Instr.indexAt t xv (.int k n)).run P w1=.ok rv w1∧VR E st w rv r:=by
 unfold indexAddrB at h
 cases hu:P.underlying t with
 | none=>simp[hu] at h
 | some du =>
  rw[hu] at h
  cases du with
  | slice elem =>
   cases hx with
   | nil off sz =>
    simp only at h
    split at h<;>simp at h
   | list tk off sz xs a cap vs ht hcap hsp hz hel hcell hrd htok hone hv =>
    simp only at h
    split at h
    · rename_i h0
      obtain⟨h0,hs⟩:=h0
      cases he:xs[n.toNat]? with
      | none=>rw[he] at h;simp at h
      | some e =>
       rw[he] at h
       simp only[Option.map_some,Option.some.injEq] at h
       subst h
       have hlt:n.toNat<xs.length:=(List.getElem?_eq_some_iff.1 he).1
       have hg:xs.getD n.toNat .dead=e:=by simp[List.getD_eq_getElem?_getD,he]
       have hsp':=hsp (by omega)
       have ha:a=adr a.block a.off:=by cases a;simp at hsp';simp[hsp']
       have hlen:e.cells.length=sz:=by rw[←hg];exact hel _ hlt
       have hsz0:=hz (by omega)
       have hm:(n.toNat+1)*sz≤xs.length*sz:=Nat.mul_le_mul_right _ hlt
       rw[Nat.add_mul] at hm
       refine⟨.pointer (some (adr a.block (a.off+n.toNat*sz+0))),?_,?_⟩
       · have hin:0≤n∧n<(xs.length:Int):=by omega
         rw[ha]
         simp[Instr.indexAt,asIntOf,run_underlying hu,hin,run_sizeB hs.symm,adr_add]
       · refine .eptr tk (off+n.toNat) 0 e a.block (a.off+n.toNat*sz) (fun j=>vs (n.toNat*sz+j)) ht (by omega) ?_ ?_ ?_ ?_ ?_
         · intro j hj
           rw[Nat.add_assoc]
           exact hcell _ (by omega)
         · exact (hrd (by omega)).mono (by rw[hlen];omega)
         · rw[hlen]
           cases tk with
           | nil=>exact absurd rfl ht
           | ro=>trivial
           | clip=>exact rfl
           | own F ep =>
            obtain⟨f,f1,f2,f3⟩:=htok
            refine⟨f,f1,f2,fun he=>?_⟩
            obtain⟨a1,a2,a3,a4,a5⟩:=f3 he
            obtain⟨a6,_⟩:=a3 (by omega)
            refine⟨a1,a2,fun _=>⟨?_,rfl⟩,by omega,?_⟩
            · rw[Nat.add_mul]
              simp only
              omega
            · have:(off+n.toNat+1)*sz≤(off+cap)*sz:=Nat.mul_le_mul_right _ (by omega)
              simp only
              omega
         · intro j hj
           exact hone _ (by omega)
         · intro j hj
           rw[←hg]
           exact hv _ _ hlt (by omega)
    · simp at h
   | _=>simp at h
  | array len elem =>
   cases hx with
   | ptr i off b hi hb =>
    simp only at h
    split at h
    · rename_i h0
      cases hs:sizeB P elem with
      | none=>simp[hs] at h
      | some sz =>
       simp only[hs,Option.map_some,Option.some.injEq] at h
       subst h
       exact⟨_,by simp[Instr.indexAt,asIntOf,run_underlying hu,h0,Instr.sureAddr,run_sizeB hs,adr_add],.ptr _ _ _ hi hb⟩
    · simp at h
   | eptr tk idx off e b o vs ht hz hcell hrd htok hone hv =>
    simp only at h
    split at h
    · rename_i h0
      cases hs:sizeB P elem with
      | none=>simp[hs] at h
      | some sz =>
       simp only[hs,Option.map_some,Option.some.injEq] at h
       subst h
       refine⟨.pointer (some (adr b (o+(off+n.toNat*sz)))),?_,.eptr _ _ _ _ _ _ _ ht hz hcell hrd htok hone hv⟩
       simp[Instr.indexAt,asIntOf,run_underlying hu,h0,Instr.sureAddr,run_sizeB hs,adr_add,Nat.add_assoc]
    · simp at h
   | _=>simp at h
  | _=>simp at h
theorem fieldAddr_VR {E:Env} {st:St} {w w1:World} {P:Program} {t:TypeId} {xv:Value} {x r:V} {f:Nat} (h:fieldAddrB P t x f=some r) (hx:VR E st w xv x) :
 ∃rv,(Instr.fieldAt t xv f).run P w1=.ok rv w1∧VR E st w rv r:=by
 unfold fieldAddrB at h
 cases hu:P.underlying t with
 | none=>simp[hu] at h
 | some du =>
  cases du with
  | struct fields =>
   simp only[hu] at h
   cases hf:fields[f]? with
   | none=>simp[hf] at h
   | some fl =>
    simp only[hf] at h
    cases hs:sizeB P fl.type with
    | none=>simp[hs] at h
    | some n =>
     cases n with
     | zero=>simp[hs] at h
     | succ n =>
      simp only[hs] at h
      have hpl:∀b o,(fieldPlace (adr b o) fl).run P w1=.ok (adr b (o+fl.offset)) w1:=fun b o=>by
       simp[fieldPlace,run_sizeB hs,adr_add]
      cases hx with
      | ptr i off b hi hb =>
       simp only[Option.some.injEq] at h
       subst h
       exact⟨_,by simp[Instr.fieldAt,run_underlying hu,hf,Instr.sureAddr,hpl],.ptr _ _ _ hi hb⟩
      | eptr tk idx off e b o vs ht hz hcell hrd htok hone hv =>
       simp only[Option.some.injEq] at h
       subst h
       refine⟨.pointer (some (adr b (o+(off+fl.offset)))),?_,.eptr _ _ _ _ _ _ _ ht hz hcell hrd htok hone hv⟩
       simp[Instr.fieldAt,run_underlying hu,hf,Instr.sureAddr,hpl,Nat.add_assoc]
      | _=>simp at h
  | _=>simp[hu] at h
theorem field_VR {E:Env} {st:St} {w w1:World} {P:Program} {t:TypeId} {xv:Value} {x r:V} {f:Nat} (h:fieldB P t x f=some r) (hx:VR E st w xv x) :
 ∃rv,(Instr.field t xv f).run P w1=.ok rv w1∧VR E st w rv r:=by
 unfold fieldB at h
 cases hu:P.underlying t with
 | none=>simp[hu] at h
 | some du =>
  rw[hu] at h
  cases du with
  | struct fields =>
   cases hx with
   | agg cs ds hl hone hv =>
    simp only at h
    cases hf:fields[f]? with
    | none=>simp[hf] at h
    | some fl =>
     simp only[hf] at h
     obtain⟨rv,h1,h2⟩:=part_VR hl hone hv h
     exact⟨rv,by simp[Instr.field,run_underlying hu,hf,asAgg,h1],h2⟩
   | _=>simp at h
  | _=>simp at h
theorem foldl_wr (off:Nat):∀(l:List Value) (k:Nat) (cs:Array Value),(l.zipIdx k).foldl (fun cs (p:Value×Nat)=>cs.setIfInBounds (off+p.2) p.1) cs=wrAt cs (off+k) l
 | [],k,cs=>rfl
 | v::l,k,cs=>by
  simp only[List.zipIdx_cons,List.foldl_cons,wrAt]
  rw[foldl_wr off l (k+1)]
  rfl
theorem fill_VR {E:Env} {st:St} {w:World} (place:Nat→Option (Nat×Nat)):∀(parts:List (Nat×V)) (pv:List (Nat×Value)) (cs:Array Value) (ds r:List V),
 pv.length=parts.length→(∀k,k<parts.length→(pv.getD k (0,undef)).1=(parts.getD k (0,.any)).1∧VR E st w (pv.getD k (0,undef)).2 (parts.getD k (0,.any)).2) →
 cs.size=ds.length→(∀k,k<ds.length→(cs.getD k undef).oneCell'=true)→(∀k,k<ds.length→VR E st w (cs.getD k undef) (ds.getD k .dead)) →
 fillB place ds parts=some r→∃cr,Instr.fill place cs pv=some cr∧cr.size=r.length∧(∀k,k<r.length→(cr.getD k undef).oneCell'=true)∧∀k,k<r.length→VR E st w (cr.getD k undef) (r.getD k .dead)
 | [],pv,cs,ds,r,hl,hp,hc,h1,hv,h=>by
  have:pv=[]:=List.eq_nil_of_length_eq_zero hl
  subst this
  simp only[fillB,Option.some.injEq] at h
  subst h
  exact⟨cs,by simp[Instr.fill],hc,h1,hv⟩
 | (i,d)::parts,pv,cs,ds,r,hl,hp,hc,h1,hv,h=>by
  match pv,hl with
  | (j,v)::pv,hl =>
   have h0:=hp 0 (by simp)
   simp only[List.getD_cons_zero] at h0
   obtain⟨rfl,hvd⟩:=h0
   simp only[fillB] at h
   cases hpl:place j with
   | none=>simp[hpl] at h
   | some pr =>
    obtain⟨off,size⟩:=pr
    simp only[hpl] at h
    cases hfl:d.flat with
    | none=>simp[hfl] at h
    | some vc =>
     simp only[hfl] at h
     split at h
     · rename_i hcond
       obtain⟨hc1,hc2⟩:=hcond
       obtain⟨g1,g0,g2⟩:=hvd.flat' hfl
       have hle:off+vc.length≤ds.length:=by omega
       have hvl:v.cells.toList.length=vc.length:=by simpa using g1
       have hg:∀k,v.cells.toList.getD k undef=v.cells.getD k undef:=fun k=>by simp[List.getD_eq_getElem?_getD,Array.getD_eq_getD_getElem?]
       have IH:=fill_VR (E:=E) (st:=st) (w:=w) place parts pv (wrAt cs off v.cells.toList) (splice ds off vc) r (by simpa using hl) (fun k hk=>by
        have:=hp (k+1) (by simp;omega)
        simpa using this) (by rw[wrAt_size,splice_length hle];exact hc)
        (fun k hk=>by
         rw[splice_length hle] at hk
         rw[wrAt_get _ _ _ _ (by omega)]
         by_cases hkk:off≤k∧k<off+v.cells.toList.length
         · rw[if_pos hkk,hg];exact g0 _ (by omega)
         · rw[if_neg hkk];exact h1 k hk)
        (fun k hk=>by
         rw[splice_length hle] at hk
         exact wr_splice hc hle hvl hv (fun k hk=>by rw[hg];exact g2 k hk) k hk) h
       obtain⟨cr,i1,i2⟩:=IH
       refine⟨cr,?_,i2⟩
       simp only[Instr.fill,hpl]
       rw[if_neg (by simp;omega)]
       have e:Array.foldl (fun cs (x:Value×Nat)=>cs.setIfInBounds (off+x.2) x.1) cs v.cells.zipIdx=wrAt cs off v.cells.toList:=by
        rw[←Array.foldl_toList,Array.toList_zipIdx,foldl_wr]
        simp
       have e2:(v.cells.zipIdx.foldl (fun cs (c,j)=>cs.setIfInBounds (off+j) c) cs)=wrAt cs off v.cells.toList:=e
       rw[e2]
       exact i1
     · simp at h
end Go.Abs

namespace Go.Abs
open Go
theorem list_mapM_run {α β:Type} {P:Program} {w:World} (f:α→Sem β) (g:α→β):∀(l:List α),(∀a,a∈l→∀w,(f a).run P w=.ok (g a) w)→(l.mapM f).run P w=.ok (l.map g) w
 | [],_=>by simp
 | a::l,h=>by
  rw[List.mapM_cons,Sem.run_bind,h a (by simp),Result.andThen_ok,Sem.run_bind,list_mapM_run f g l (fun b hb=>h b (by simp[hb])),Result.andThen_ok]
  rfl
theorem arr_mapM_run {α β:Type} {P:Program} {w:World} (f:α→Sem β) (g:α→β) (l:Array α) (h:∀a,a∈l.toList→∀w,(f a).run P w=.ok (g a) w):(l.mapM f).run P w=.ok (l.map g) w:=by
 rw[Array.mapM_eq_mapM_toList,Sem.run_map,list_mapM_run f g l.toList h,Result.andThen_ok]
 congr 1
 apply Array.ext'
 simp
theorem build_VR {E:Env} {st:St} {w w1:World} {P:Program} {t:TypeId} {parts:List (Nat×V)} {pv:List (Nat×Value)} {r:V} (h:buildB P t parts=some r) (hl:pv.length=parts.length)
 (hp:∀k,k<parts.length→(pv.getD k (0,undef)).1=(parts.getD k (0,.any)).1∧VR E st w (pv.getD k (0,undef)).2 (parts.getD k (0,.any)).2) :
 ∃rv,(Instr.build t pv.toArray).run P w1=.ok rv w1∧VR E st w rv r:=by
 unfold buildB at h
 cases hz:zeroB P t with
 | none=>simp[hz] at h
 | some zV =>
  obtain⟨z,hz1,hz2⟩:=zeroB_some hz
  have hzVR:VR E st w z zV:=by rw[hz1];exact ofVal_VR E st w 3 z
  rw[hz] at h
  cases hzVR with
  | agg zc dz hlz hone hv =>
   cases hu:P.underlying t with
   | none=>simp[hu] at h
   | some du =>
    cases du with
    | struct fields =>
     simp only[hu] at h
     split at h
     · rename_i hall
       cases hf:fillB (fun i=>(fields[i]?).bind fun f=>(sizeB P f.type).map fun n=>(f.offset,n)) dz parts with
       | none=>rw[hf] at h;simp at h
       | some rr =>
        rw[hf] at h
        simp only[Option.map_some,Option.some.injEq] at h
        subst h
        obtain⟨cr,i1,i2,i3,i4⟩:=fill_VR _ parts pv zc dz rr hl hp hlz hone hv hf
        refine⟨.agg cr,?_,.agg _ _ i2 i3 i4⟩
        rw[List.all_eq_true] at hall
        have hm:=fun w=>arr_mapM_run (P:=P) (w:=w) (fun f:Field=>do pure (f.offset,←sizeOf f.type)) (fun f:Field=>(f.offset,(sizeB P f.type).getD 0)) fields (fun f hf w=>by
         have:=hall f hf
         obtain⟨n,hn⟩:=Option.isSome_iff_exists.1 this
         simp[run_sizeB hn,hn])
        have hpl:(fun i:Nat=>(fields[i]?).bind fun f:Field=>(sizeB P f.type).map fun n=>(f.offset,n))=fun i:Nat=>(fields.map fun f:Field=>(f.offset,(sizeB P f.type).getD 0))[i]? := by
         funext i
         rw[Array.getElem?_map]
         cases hi:fields[i]? with
         | none=>rfl
         | some f =>
          have hmem:f∈fields.toList:=by
           obtain⟨hlt,he⟩:=Array.getElem?_eq_some_iff.1 hi
           rw[←he];simp
          obtain⟨n,hn⟩:=Option.isSome_iff_exists.1 (hall f hmem)
          simp[hn]
        rw[hpl] at i1
        have i1':Instr.fill (fun x=>(fields.map fun f:Field=>(f.offset,(sizeB P f.type).getD 0))[x]?) zc pv=some cr:=i1
        simp only[Instr.build,Sem.run_bind,hz2,Result.andThen_ok,run_underlying hu,hm,Value.cells,i1',Sem.run_pure]
     · simp at h
    | array len elem =>
     simp only[hu] at h
     cases hs:sizeB P elem with
     | none=>simp[hs] at h
     | some n =>
      simp only[hs] at h
      cases hf:fillB (fun i=>some (i*n,n)) dz parts with
      | none=>rw[hf] at h;simp at h
      | some rr =>
       rw[hf] at h
       simp only[Option.map_some,Option.some.injEq] at h
       subst h
       obtain⟨cr,i1,i2,i3,i4⟩:=fill_VR _ parts pv zc dz rr hl hp hlz hone hv hf
       refine⟨.agg cr,?_,.agg _ _ i2 i3 i4⟩
       simp only[Instr.build,Sem.run_bind,hz2,Result.andThen_ok,run_underlying hu,run_sizeB hs,Value.cells,i1,Sem.run_pure]
    | _=>simp[hu] at h
  | _=>simp at h
theorem new_list {E:Env} {st:St} {w':World} {sz:Nat} {xs:List V} {c:Array Value} {ty:TypeId} {z:Nat×Nat} {t:Tok} {off cap b:Nat} (hsz:0<sz)
 (hrow:w'.heap[b]? = some (.cells c ty z)) (hc:xs.length*sz≤c.size) (hq:Cellsq E st w' sz xs (fun j=>c.getD j undef)) (ht:t≠.nil) (hcap:xs.length≤cap)
 (hrd:0<xs.length→Rd E st t b (xs.length*sz)) (htok:TokOK E st w' t off sz (adr b 0) xs.length cap):VR E st w' (.slice (some (adr b 0)) xs.length cap) (.list t off sz xs):=by
 refine .list t off sz xs (adr b 0) cap (fun j=>c.getD j undef) ht hcap (fun _=>rfl) (fun _=>hsz) hq.len ?_ ?_ htok hq.all1 hq.val
 · intro j hj
   simp only
   rw[heap_cell hrow,show 0+j=j from Nat.zero_add j,getD_of_getElem? (by omega)]
 · intro hp
   simp only
   rw[show 0+xs.length*sz=xs.length*sz from Nat.zero_add _]
   exact hrd hp
theorem Rd.new {E:Env} {st:St} {w:World} {t:Tok} {b hi:Nat} (h:WR E st w) (hb:w.heap.size≤b):Rd E st t b hi :=
 ⟨fun i hi' he=>by have:=h.boxLt hi' he;omega,fun F f hF he=>by have:=h.famLt hF;omega⟩
theorem fill_cells {n:Nat}:∀(parts:List (Nat×Value)) (cs:Array Value) (k:Nat),(∀p∈parts,p.2.cells.size=n)→parts.map (·.1)=(List.range' k parts.length)→(k+parts.length)*n≤cs.size →
 ∃cr,Instr.fill (fun i=>some (i*n,n)) cs parts=some cr∧cr.size=cs.size ∧
  ∀j,cr.getD j undef=if k*n≤j∧j<(k+parts.length)*n then ((parts.getD (j / n-k) (0,undef)).2.cells.getD (j % n) undef) else cs.getD j undef
 | [],cs,k,_,_,_=>⟨cs,by simp[Instr.fill],rfl,fun j=>by rw[if_neg (by simp only[List.length_nil,Nat.add_zero];omega)]⟩
 | (i,v)::parts,cs,k,hs,hi,hle=>by
  simp only[List.map_cons,List.length_cons,List.range'_succ,List.cons.injEq] at hi
  obtain⟨rfl,hi⟩:=hi
  have hv:v.cells.size=n:=hs (i,v) (by simp)
  have hle2:i*n+n≤cs.size:=by
   have:(i+1)*n≤(i+(parts.length+1))*n:=Nat.mul_le_mul_right _ (by omega)
   rw[Nat.add_mul] at this
   simp only[List.length_cons] at hle
   omega
  obtain⟨cr,h1,h2,h3⟩:=fill_cells parts (wrAt cs (i*n) v.cells.toList) (i+1) (fun p hp=>hs p (by simp[hp])) hi (by rw[wrAt_size];simp only[List.length_cons] at hle;rw[show i+1+parts.length=i+(parts.length+1) by omega];exact hle)
  refine⟨cr,?_,by rw[h2,wrAt_size],fun j=>?_⟩
  · simp only[Instr.fill]
    rw[if_neg (by simp;omega)]
    have e:Array.foldl (fun cs (x:Value×Nat)=>cs.setIfInBounds (i*n+x.2) x.1) cs v.cells.zipIdx=wrAt cs (i*n) v.cells.toList:=by
     rw[←Array.foldl_toList,Array.toList_zipIdx,foldl_wr]
     simp
    have e2:(v.cells.zipIdx.foldl (fun cs (c,j)=>cs.setIfInBounds (i*n+j) c) cs)=wrAt cs (i*n) v.cells.toList:=e
    rw[e2];exact h1
  · rw[h3 j,wrAt_get _ _ _ _ (by simp;omega)]
    simp only[List.length_cons,Array.length_toList,hv]
    have e1:(i+1)*n=i*n+n:=by rw[Nat.add_mul];omega
    have e2:(i+1+parts.length)*n=(i+(parts.length+1))*n:=by congr 1;omega
    rw[e2,e1]
    by_cases hj1:i*n≤j∧j<i*n+n
    · have hn0:0<n:=by omega
      have hmod:j / n=i∧j % n=j-i*n:=by
       have:=div_mul_add (j:=i) (k:=j-i*n) (sz:=n) (by omega)
       rw[show i*n+(j-i*n)=j by omega] at this
       exact this
      rw[if_neg (by omega),if_pos hj1]
      have hle3:i*n+n≤(i+(parts.length+1))*n:=by
       rw[←e1];exact Nat.mul_le_mul_right _ (by omega)
      rw[if_pos (by omega),hmod.1,hmod.2,Nat.sub_self]
      simp[List.getD_eq_getElem?_getD,Array.getD_eq_getD_getElem?]
    · by_cases hj2:i*n+n≤j∧j<(i+(parts.length+1))*n
      · have hn0:0<n:=by
         rcases Nat.eq_zero_or_pos n with h0 | h0
         · subst h0;simp at hj2
         · exact h0
        have hdiv:i+1≤j / n:=(Nat.le_div_iff_mul_le hn0).2 (by rw[e1];omega)
        rw[if_pos hj2,if_pos (by omega)]
        obtain⟨m,hm⟩:∃m,j / n-i=m+1:=⟨j / n-i-1,by omega⟩
        rw[hm,show j / n-(i+1)=m by omega]
        simp[List.getD_eq_getElem?_getD]
      · rw[if_neg hj2,if_neg (by omega),if_neg (by omega)]
end Go.Abs

namespace Go.Abs
open Go
structure OpR (E:Env) (st:St) (w:World) (ts:Array Value) (x:Sem Value) (P:Program) (d:V) (s':List V) (st':St):Prop where
 ex:∃cv w' E',x.run P w=.ok cv w'∧WR E' st' w'∧VR E' st' w' cv d∧SR E' st' w' ts s'∧Seg E st w E' st' w'
theorem OpR.pure {E:Env} {st:St} {w:World} {ts:Array Value} {x:Sem Value} {P:Program} {d:V} {s:List V} (hw:WR E st w) (hs:SR E st w ts s) {cv:Value} (h:x.run P w=.ok cv w)
 (hv:VR E st w cv d):OpR E st w ts x P d s st:=⟨cv,w,E,h,hw,hv,hs,.refl _ _ _⟩
theorem buildSlice_VR {E:Env} {st:St} {w:World} {P:Program} {ts:Array Value} {s:List V} {t:TypeId} {len:Nat} {parts:List (Nat×V)} {pv:List (Nat×Value)} {r:V} (hw:WR E st w)
 (hs:SR E st w ts s) (hfl:st.flo≤st.fams.length) (h:buildSliceB P t len parts=some r) (hl:pv.length=parts.length)
 (hp:∀k,k<parts.length→(pv.getD k (0,undef)).1=(parts.getD k (0,.any)).1∧VR E st w (pv.getD k (0,undef)).2 (parts.getD k (0,.any)).2) :
 OpR E st w ts (Instr.buildSlice t len pv.toArray) P r s st:=by
 unfold buildSliceB at h
 cases hu:P.underlying t with
 | none=>simp[hu] at h
 | some du =>
  cases du with
  | slice elem =>
   simp only[hu] at h
   cases hs1:sizeB P elem with
   | none=>simp[hs1] at h
   | some n =>
    simp only[hs1] at h
    split at h
    · rename_i hc
      obtain⟨hn,h24,hz,hidx,hall⟩:=hc
      simp only[Option.some.injEq] at h
      subst h
      obtain⟨zV,hzV⟩:=Option.isSome_iff_exists.1 hz
      obtain⟨z,hz1,hz2⟩:=zeroB_some hzV
      have hplen:parts.length=len:=by
       have:=congrArg List.length hidx
       simpa using this
      have hpv1:pv.map (·.1)=List.range' 0 pv.length:=by
       rw[hl,hplen,←List.range_eq_range',←hidx]
       apply List.ext_getElem (by simp[hl])
       intro k h1 h2
       have hk:k<parts.length:=by simpa using h2
       have:=(hp k hk).1
       simpa[List.getD_eq_getElem?_getD,hk,(by omega:k<pv.length)] using this
      have hflat:∀k,k<parts.length→∃vc,(parts.getD k (0,.any)).2.flat=some vc∧vc.length=n:=by
       intro k hk
       rw[List.all_eq_true] at hall
       have:=hall parts[k] (List.getElem_mem hk)
       have e:parts.getD k (0,.any)=parts[k]:=by simp[List.getD_eq_getElem?_getD,hk]
       rw[e]
       cases hf:parts[k].2.flat with
       | none=>rw[hf] at this;simp at this
       | some vc=>rw[hf] at this;exact⟨vc,rfl,by simpa using this⟩
      have hsz:∀p∈pv,p.2.cells.size=n:=by
       intro p hpm
       obtain⟨k,hk,rfl⟩:=List.getElem_of_mem hpm
       obtain⟨vc,f1,f2⟩:=hflat k (by omega)
       have h2:=(hp k (by omega)).2
       have e:pv.getD k (0,undef)=pv[k]:=by simp[List.getD_eq_getElem?_getD,hk]
       rw[e] at h2
       rw[(h2.flat f1).1,f2]
      have hzsz:∀w,((if len*n=0 then pure #[] else do pure (←zeroValue elem).cells:Sem (Array Value)).run P w)=.ok (if len*n=0 then #[] else z.cells) w:=by
       intro w
       split<;>simp[hz2]
      generalize hZ:(if len*n=0 then #[] else z.cells)=Z at hzsz
      obtain⟨cr,c1,c2,c3⟩:=fill_cells (n:=n) pv ((Array.range (len*n)).map (Z[· % Z.size]!)) 0 hsz hpv1 (by simp[hl,hplen])
      have hcrs:cr.size=len*n:=by rw[c2];simp
      have h24':¬(len*n > 2 ^ 24):=by omega
      have hrun:(Instr.buildSlice t len pv.toArray).run P w=.ok (.slice (some (adr w.heap.size 0)) len len) { w with heap:=w.heap.push (.cells cr elem) }:=by
       by_cases h0:len*n=0
       · have hl0:len=0:=by
          rcases Nat.mul_eq_zero.1 h0 with h | h
          · exact h
          · exact absurd h hn
         subst hl0
         have hpv0:pv=[]:=List.eq_nil_of_length_eq_zero (by omega)
         subst hpv0
         have hcr:cr=#[]:=by
          apply Array.eq_empty_of_size_eq_zero
          rw[hcrs];simp
         subst hcr
         simp[Instr.buildSlice,run_underlying hu,run_sizeB hs1,Instr.fill,newRow]
         congr 2
         exact Array.eq_empty_of_size_eq_zero (by simp)
       · rw[if_neg h0] at hZ
         subst hZ
         simp only[Instr.buildSlice,Sem.run_bind,run_underlying hu,Result.andThen_ok,run_sizeB hs1,Sem.run_ite,h24',if_false,Sem.run_pure,h0,hz2]
         have c1':Instr.fill (fun i=>some (i*n,n)) ((Array.range (len*n)).map fun x=>z.cells[x % z.cells.size]!) pv=some cr:=c1
         simp only[c1',newRow,Sem.run_bind,run_newObj,Sem.run_pure,Result.andThen_ok]
      have hB:Blw w { w with heap:=w.heap.push (.cells cr elem) }:=Blw.push w _
      have S:Step [] E st w E st { w with heap:=w.heap.push (.cells cr elem) }:=step_grow hB (fun i hi=>⟨hi,rfl⟩) (fun i b h1 h2=>by omega) (fun F f hf=>⟨hf,rfl,rfl⟩) (fun F h1 h2=>by omega)
      refine⟨_,_,E,hrun,hw.blw hB,?_,hs.step0 S,seg_blw hB hfl⟩
      have hlen2:(parts.map (·.2)).length=len:=by simp[hplen]
      rw[show Value.slice (some (adr w.heap.size 0)) len len=Value.slice (some (adr w.heap.size 0)) (parts.map (·.2)).length len from by rw[hlen2]]
      have hget:∀j,j<len→(parts.map (·.2)).getD j .dead=(parts.getD j (0,.any)).2:=by
       intro j hj
       simp[List.getD_eq_getElem?_getD,(by omega:j<parts.length)]
      have hcell:∀j k,j<len→k<n→cr.getD (j*n+k) undef=(pv.getD j (0,undef)).2.cells.getD k undef:=by
       intro j k hj hk
       rw[c3,Nat.zero_mul,Nat.zero_add]
       have:(j+1)*n≤pv.length*n:=Nat.mul_le_mul_right _ (by omega)
       rw[Nat.add_mul] at this
       rw[if_pos (by omega),(div_mul_add hk).1,(div_mul_add hk).2,Nat.sub_zero]
      refine new_list (c:=cr) (ty:=elem) (z:=(0,0)) (by omega) (by simp) (by rw[hlen2,hcrs];exact Nat.le_refl _) ⟨?_,?_,?_⟩ (by simp) (by omega) (fun _=>Rd.new hw (Nat.le_refl _)) (by rw[hlen2];rfl)
      · intro j hj
        rw[hlen2] at hj
        rw[hget j hj]
        obtain⟨vc,f1,f2⟩:=hflat j (by omega)
        rw[flat_cells f1,f2]
      · intro j k hj hk
        rw[hlen2] at hj
        obtain⟨vc,f1,f2⟩:=hflat j (by omega)
        rw[hcell j k hj hk]
        exact ((hp j (by omega)).2.flat' f1).2.1 k (by omega)
      · intro j k hj hk
        rw[hlen2] at hj
        obtain⟨vc,f1,f2⟩:=hflat j (by omega)
        rw[hcell j k hj hk,hget j hj,flat_cells f1]
        exact (((hp j (by omega)).2.flat f1).2 k (by omega)).step0 S
    · simp at h
  | _=>simp[hu] at h
theorem own_list {E:Env} {st:St} {w w':World} {ts:Array Value} {s:List V} {P:Program} {x:Sem Value} {sz cap:Nat} {xs:List V} {c:Array Value} {ty:TypeId} {z:Nat×Nat} (hw:WR E st w)
 (hs:SR E st w ts s) (hfl:st.flo≤st.fams.length) (hB:Blw w w') (hrun:x.run P w=.ok (.slice (some (adr w.heap.size 0)) xs.length cap) w') (hrow:w'.heap[w.heap.size]? = some (.cells c ty z))
 (hsz:0<sz) (hcap:xs.length≤cap) (hc:cap*sz≤c.size) (hz:∀o,o<c.size→¬(z.1≤o∧o<z.2)) (hel:∀j,j<xs.length→(xs.getD j .dead).cells.length=sz)
 (hone:∀j k,j<xs.length→k<sz→(c.getD (j*sz+k) undef).oneCell'=true)
 (hv:∀E' st' w',∀j k,j<xs.length→k<sz→VR E' st' w' (c.getD (j*sz+k) undef) ((xs.getD j .dead).cells.getD k .dead)) :
 OpR E st w ts x P (.list (.own st.fams.length 0) 0 sz xs) s { st with fams:=st.fams++[⟨0,xs.length,sz,ty,true⟩] }:=by
 have hxc:xs.length*sz≤c.size:=Nat.le_trans (Nat.mul_le_mul_right _ hcap) hc
 obtain⟨k1,k2⟩:=new_fam hw hB ⟨0,xs.length,sz,ty,true⟩ w.heap.size (Nat.le_refl _) hfl ⟨_,_,_,hrow,hxc,fun _=>⟨rfl,fun h=>by simp at h,fun o ho _=>hz o ho⟩⟩
 have S:Step [] E st w (E.setFam st.fams.length w.heap.size 0) { st with fams:=st.fams++[⟨0,xs.length,sz,ty,true⟩] } w':=by
  refine step_grow hB (fun i hi=>⟨hi,rfl⟩) (fun i b h1 h2=>by simp at h2;omega) (fun F g hF=>?_) (fun F h1 h2=>?_)
  · have hlt:F<st.fams.length:=(List.getElem?_eq_some_iff.1 hF).1
    exact⟨by simp only;rw[List.getElem?_append_left hlt];exact hF,by simp[Env.setFam,Nat.ne_of_lt hlt],by simp[Env.setFam,Nat.ne_of_lt hlt]⟩
  · have:F=st.fams.length:=by simp at h2;omega
    subst this
    simp[Env.setFam]
 have hfamE:(E.setFam st.fams.length w.heap.size 0).fam st.fams.length=w.heap.size:=by simp[Env.setFam]
 have hshE:(E.setFam st.fams.length w.heap.size 0).sh st.fams.length=0:=by simp[Env.setFam]
 have hF:(st.fams++[(⟨0,xs.length,sz,ty,true⟩:Fam)])[st.fams.length]? = some ⟨0,xs.length,sz,ty,true⟩:=by simp
 refine⟨_,w',_,hrun,k1,?_,hs.step0 S,k2⟩
 refine new_list hsz hrow hxc ⟨hel,hone,hv _ _ _⟩ (by simp) hcap (fun _=>?_) ?_
 · refine⟨fun i hi' he=>?_,fun F g hF' he=>?_⟩
   · have:=hw.boxLt hi' he
     simp at this
   · have hFl:=(List.getElem?_eq_some_iff.1 hF').1
     have:F=st.fams.length:=by
      rcases Nat.lt_or_ge F st.fams.length with h1 | h1
      · have h2:(E.setFam st.fams.length w.heap.size 0).fam F=E.fam F:=by simp[Env.setFam,Nat.ne_of_lt h1]
        rw[h2] at he
        have:=hw.famLt (List.getElem?_eq_getElem h1)
        omega
      · simp at hFl;omega
     subst this
     rw[hF] at hF'
     injection hF' with hF'
     subst hF'
     exact⟨⟨0,rfl⟩,by rw[hshE];simp⟩
 · refine⟨_,hF,Nat.le_refl _,fun _=>⟨hfamE.symm,rfl,fun _=>⟨by rw[hshE];simp,rfl⟩,by simp,?_⟩⟩
   rw[hshE]
   simp only[rowSize,hrow]
   simpa using hc
theorem mapM_bytes:∀(xs:List V) (s:List UInt8),xs.mapM byteB=some s→∃ns:List Int,xs=ns.map (V.int .u8)∧s=ns.map fun n=>UInt8.ofNat n.toNat
 | [],s,h=>by simp at h;subst h;exact⟨[],rfl,rfl⟩
 | x::xs,s,h=>by
  rw[List.mapM_cons] at h
  simp only[bind,Option.bind_eq_some_iff,pure,Option.some.injEq] at h
  obtain⟨b,h1,s',h2,rfl⟩:=h
  obtain⟨ns,rfl,rfl⟩:=mapM_bytes xs s' h2
  cases x with
  | int k n =>
   cases k<;>simp[byteB] at h1
   subst h1
   exact⟨n::ns,rfl,rfl⟩
  | _=>simp[byteB] at h1
theorem foldl_push (ns:List Int):∀acc:ByteArray,(ns.foldl (fun r n=>r.push (UInt8.ofNat n.toNat)) acc).data.toList=acc.data.toList++ns.map fun n=>UInt8.ofNat n.toNat:=by
 induction ns with
 | nil=>intro acc;simp
 | cons n ns ih=>intro acc;rw[List.foldl_cons,ih];simp[ByteArray.push]
theorem conv_VR {E:Env} {st st':St} {w:World} {P:Program} {ts:Array Value} {s:List V} {src dst:TypeId} {xv:Value} {x r:V} (hw:WR E st w) (hs:SR E st w ts s) (hfl:st.flo≤st.fams.length)
 (hx:VR E st w xv x) (h:convB P src dst x st=some (r,st')):OpR E st w ts (convert src dst xv) P r s st':=by
 unfold convB at h
 cases hu:P.underlying src with
 | none=>simp[hu] at h
 | some du =>
  cases hd:P.underlying dst with
  | none=>cases du<;>simp[hu,hd] at h
  | some dd =>
   rw[hu,hd] at h
   cases du with
   | int k0 =>
    cases dd with
    | int k =>
     cases hx<;>simp only[reduceCtorEq,Option.some.injEq,Prod.mk.injEq] at h
     obtain⟨rfl,rfl⟩:=h
     exact .pure hw hs (by simp[convert,run_underlying hu,run_underlying hd,Conv.intToInt]) (.int _ _)
    | _=>simp at h
   | string =>
    cases dd with
    | string =>
     cases hx<;>simp only[reduceCtorEq,Option.some.injEq,Prod.mk.injEq] at h
     obtain⟨rfl,rfl⟩:=h
     exact .pure hw hs (by simp[convert,run_underlying hu,run_underlying hd]) (.str _)
    | slice e =>
     cases hx with
     | str b =>
      simp only at h
      cases he:P.underlying e with
      | none=>simp[he] at h
      | some de =>
       cases de with
       | int k =>
        cases k<;>simp only[he,reduceCtorEq,Option.some.injEq,Prod.mk.injEq] at h
        obtain⟨rfl,rfl⟩:=h
        have hrun:=Lib.run_convert_string_bytes w src dst e b hu hd he
        have hB:Blw w (Lib.bytesWorld w e b):=⟨by rw[Lib.bytesWorld_size];omega,fun j hj=>Lib.bytesWorld_at_old w e b j hj,⟨rfl,rfl⟩⟩
        have hlen:(b.data.toList.map fun x=>V.int .u8 x.toNat).length=b.size:=by rw[List.length_map];exact Array.length_toList
        have hlen2:b.data.toList.length=b.size:=Array.length_toList
        have hcs:(Lib.bytesCells w e b).size=b.size+(grownCap w b.size 0 e-b.size):=by
         simp only[Lib.bytesCells,Array.size_append,Array.size_map,Array.size_replicate];rfl
        have hcap:b.size≤grownCap w b.size 0 e:=by simp only[grownCap,Question.cut];omega
        have hget:∀j,j<b.size→(Lib.bytesCells w e b).getD (j*1+0) undef=.int .u8 (b.data.toList.getD j 0).toNat:=by
         intro j hj
         have:=Lib.bytesWorld_cell w e b j hj
         have h2:(Lib.bytesWorld w e b).cell? (adr w.heap.size j)=(Lib.bytesCells w e b)[j]? := heap_cell (Lib.bytesWorld_at_new w e b)
         rw[show (⟨w.heap.size,j,none⟩:Addr)=adr w.heap.size j from rfl,h2] at this
         simp[Array.getD_eq_getD_getElem?,this]
        rw[show b.data.toList.length=(b.data.toList.map fun x=>V.int .u8 x.toNat).length by simp]
        refine own_list (c:=Lib.bytesCells w e b) (cap:=grownCap w b.size 0 e) hw hs hfl hB (by rw[hlen];exact hrun) (Lib.bytesWorld_at_new w e b) (by omega) (by omega) (by omega) (fun o ho=>by simp;omega) ?_ ?_ ?_
        · intro j hj
          rw[hlen] at hj
          have:(b.data.toList.map fun x=>V.int .u8 x.toNat).getD j .dead=.int .u8 (b.data.toList.getD j 0).toNat:=by
           simp[List.getD_eq_getElem?_getD,List.getElem?_eq_getElem (by omega:j<b.data.toList.length)]
          rw[this];rfl
        · intro j k hj hk
          have hk0:k=0:=by omega
          subst hk0
          rw[hget j (by omega)];rfl
        · intro E' st' w' j k hj hk
          have hk0:k=0:=by omega
          subst hk0
          rw[hlen] at hj
          rw[hget j hj]
          have:(b.data.toList.map fun x=>V.int .u8 x.toNat).getD j .dead=.int .u8 (b.data.toList.getD j 0).toNat:=by
           simp[List.getD_eq_getElem?_getD,List.getElem?_eq_getElem (by omega:j<b.data.toList.length)]
          rw[this]
          exact .int _ _
       | _=>simp[he] at h
     | _=>simp at h
    | _=>simp at h
   | slice e =>
    cases dd with
    | string =>
     cases he:P.underlying e with
     | none=>cases hx<;>simp[he] at h
     | some de =>
      cases de with
      | int k =>
       cases hx with
       | nil off sz =>
        cases k<;>simp[he,List.mapM_nil] at h
        obtain⟨rfl,rfl⟩:=h
        refine .pure hw hs (cv:=.string .empty) ?_ ?_
        · rw[run_convert_bytes_string w src dst e none 0 0 hu he hd]
          simp[Conv.bytesToString]
        · exact .str ByteArray.empty
       | list tk off sz xs a cap vs ht hcap hsp hz hel hcell hrd htok hone hv =>
        cases k<;>simp only[he,reduceCtorEq] at h
        split at h
        · rename_i hsz
          have hsz1:sz=1:=by
           rcases hsz with rfl | h0
           · exact absurd rfl ht
           · exact h0
          subst hsz1
          cases hm:xs.mapM byteB with
          | none=>simp[hm] at h
          | some bs =>
           simp only[hm,Option.map_some,Option.some.injEq,Prod.mk.injEq] at h
           obtain⟨rfl,rfl⟩:=h
           obtain⟨ns,rfl,rfl⟩:=mapM_bytes xs bs hm
           have hlen:(ns.map (V.int .u8)).length=ns.length:=by simp
           have hload:(loadCells a (ns.map (V.int .u8)).length).run P w=.ok (ns.map (Value.int .u8)).toArray w:=by
            rw[hlen]
            have h1:=run_loadCells (P:=P) w a ns.length vs (fun j hj=>by
             have ha:a=adr a.block a.off:=by
              have:=hsp (by rw[hlen];omega)
              cases a;simp at this;simp[this]
             rw[ha,adr_add]
             exact hcell j (by rw[hlen];omega))
            rw[h1]
            congr 2
            apply List.ext_getElem (by simp)
            intro j h2 h3
            have hj:j<ns.length:=by simpa using h2
            have h4:=hv j 0 (by rw[hlen];exact hj) (by omega)
            have e1:(ns.map (V.int .u8)).getD j .dead=.int .u8 ns[j]:=by simp[List.getD_eq_getElem?_getD,hj]
            rw[e1] at h4
            simp only[V.cells,List.getD_cons_zero] at h4
            have e2:j*1+0=j:=by omega
            rw[e2] at h4
            have h5:vs j=.int .u8 ns[j]:=by
             generalize vs j=q at h4
             cases h4;rfl
            simp[h5]
           refine .pure hw hs (cv:=.string (ns.foldl (fun r n=>r.push (UInt8.ofNat n.toNat)) ByteArray.empty)) ?_ ?_
           · rw[run_convert_bytes_string w src dst e (some a) _ cap hu he hd]
             exact run_bytesToString w a _ cap ns hload
           · have:=foldl_push ns ByteArray.empty
             have e:(ns.map fun n=>UInt8.ofNat n.toNat)=(ns.foldl (fun r n=>r.push (UInt8.ofNat n.toNat)) ByteArray.empty).data.toList:=by rw[this];simp
             rw[e];exact .str _
        · simp at h
       | _=>cases k<;>simp at h
      | _=>cases hx<;>simp[he] at h
    | _=>cases hx<;>simp at h
   | _=>cases dd<;>simp at h
end Go.Abs

namespace Go.Abs
open Go
structure StepR (P:Program) (o:Oper) (a:Act) (E:Env) (st:St) (w:World) (v:V) (s':List V) (st':St):Prop where
 ex:∃cv w' E',((execOp a.eval o).run P w=.ok (.value cv) w'∨((execOp a.eval o).run P w=.ok .skip w'∧cv=undef))∧WR E' st' w'∧VR E' st' w' cv v∧SR E' st' w' a.tmps s'∧Seg E st w E' st' w'
section
variable {P:Program} {o:Oper} {a:Act} {E:Env} {st:St} {w:World} {v:V} {s s':List V} {st':St}
theorem StepR.of_op {x:Sem Value} (hx:(execOp a.eval o).run P w=(x.run P w).andThen fun v w'=>.ok (.value v) w') (h:OpR E st w a.tmps x P v s' st'):StepR P o a E st w v s' st':=by
 obtain⟨cv,w',E',h1,h2⟩:=h.ex
 exact⟨cv,w',E',.inl (by rw[hx,h1];rfl),h2⟩
theorem StepR.of_val {cv:Value} {w':World} (hw:WR E st w) (hs:SR E st w a.tmps s) (hfl:st.flo≤st.fams.length) (hx:(execOp a.eval o).run P w=.ok (.value cv) w) (hv:VR E st w cv v):StepR P o a E st w v s st :=
 ⟨cv,w,E,.inl hx,hw,hv,hs,.refl _ _ _⟩
theorem evs_VR {E:Env} {st:St} {w:World} {a:Act} {s:List V} (h:SR E st w a.tmps s) (xs:Array Operand) :
 (xs.map a.eval).size=(xs.toList.map (ev s)).length∧∀k,k<(xs.toList.map (ev s)).length→VR E st w ((xs.map a.eval).getD k undef) ((xs.toList.map (ev s)).getD k .dead):=by
 refine⟨by simp,fun k hk=>?_⟩
 have hk':k<xs.size:=by simpa using hk
 have e1:(xs.map a.eval).getD k undef=a.eval xs[k]:=by simp[Array.getD_eq_getD_getElem?,Array.getElem?_eq_getElem hk']
 have e2:(xs.toList.map (ev s)).getD k .dead=ev s xs[k]:=by simp[List.getD_eq_getElem?_getD,Array.getElem?_eq_getElem hk']
 rw[e1,e2]
 exact ev_VR h _
theorem parts_VR {E:Env} {st:St} {w:World} {a:Act} {s:List V} (h:SR E st w a.tmps s) (ps:Array (Nat×Operand)) :
 ∃pv:List (Nat×Value),(ps.map fun (i,x)=>(i,a.eval x))=pv.toArray∧pv.length=(ps.toList.map fun p=>(p.1,ev s p.2)).length ∧
  ∀k,k<(ps.toList.map fun p=>(p.1,ev s p.2)).length→(pv.getD k (0,undef)).1=((ps.toList.map fun p=>(p.1,ev s p.2)).getD k (0,.any)).1 ∧
   VR E st w (pv.getD k (0,undef)).2 ((ps.toList.map fun p=>(p.1,ev s p.2)).getD k (0,.any)).2:=by
 refine⟨ps.toList.map fun p=>(p.1,a.eval p.2),?_,by simp,fun k hk=>?_⟩
 · apply Array.ext';simp
 · have hk':k<ps.toList.length:=by simpa using hk
   have e1:(ps.toList.map fun p=>(p.1,a.eval p.2)).getD k (0,undef)=(ps.toList[k].1,a.eval ps.toList[k].2):=by
    rw[List.getD_eq_getElem?_getD,List.getElem?_map,List.getElem?_eq_getElem hk'];rfl
   have e2:(ps.toList.map fun p=>(p.1,ev s p.2)).getD k (0,.any)=(ps.toList[k].1,ev s ps.toList[k].2):=by
    rw[List.getD_eq_getElem?_getD,List.getElem?_map,List.getElem?_eq_getElem hk'];rfl
   rw[e1,e2]
   exact⟨rfl,ev_VR h _⟩
theorem opv_VR {E:Env} {st:St} {w:World} {a:Act} {s:List V} (h:SR E st w a.tmps s) (x:Option Operand):OpV E st w (x.map a.eval) (x.map (ev s)):=by
 cases x with
 | none=>exact .none
 | some x=>exact .some _ _ (ev_VR h x)
theorem makeSlice_VR {ts:Array Value} {t elem:TypeId} {n m:Int} {by_ q:Nat} {z:V} (hw:WR E st w) (hs:SR E st w ts s) (hfl:st.flo≤st.fams.length) (hu:P.underlying t=some (.slice elem))
 (h1:bytesB P elem=some by_) (h2:sizeB P elem=some (q+1)) (h3:zeroB P elem=some z) (hn0:0≤n) (hnm:n≤m) (hm:m≤9223372036854775807) (hb:by_*m≤2 ^ 48)
 (hz:(z.flat.map List.length)=some (q+1)) :
 OpR E st w ts (Instr.makeSlice t (.int .i64 n) (.int .i64 m)) P (.list (.own st.fams.length 0) 0 (q+1) (List.replicate n.toNat z)) s { st with fams:=st.fams++[⟨0,n.toNat,q+1,elem,true⟩] }:=by
 cases hi:P.info? elem with
 | none=>simp[sizeB,hi] at h2
 | some i =>
  have e1:i.size=q+1:=by simpa[sizeB,hi] using h2
  have e2:i.bytes=by_:=by simpa[bytesB,hi] using h1
  obtain⟨zc,hzf,hzl⟩:∃zc,z.flat=some zc∧zc.length=q+1:=by
   cases hf:z.flat with
   | none=>rw[hf] at hz;simp at hz
   | some zc=>rw[hf] at hz;exact⟨zc,rfl,by simpa using hz⟩
  unfold zeroB at h3
  rw[hi] at h3
  simp only[Option.bind_some] at h3
  cases hiz:i.zero with
  | none=>rw[hiz] at h3;simp at h3
  | some zv =>
   rw[hiz] at h3
   simp only[Option.map_some,Option.some.injEq] at h3
   have hrun:=run_make (P:=P) w t elem i zv hu hi hiz .i64 .i64 n m hn0 hnm (by rw[e2];omega) hm
   have hzVR:∀E' st' w',VR E' st' w' zv z:=fun E' st' w'=>by rw[←h3];exact ofVal_VR E' st' w' 3 zv
   have hzs:zv.cells.size=q+1:=by rw[←hzl];exact ((hzVR E st w).flat hzf).1
   have hlen:(List.replicate n.toNat z).length=n.toNat:=by simp
   have hcell:∀j k,j<n.toNat→k<q+1→(madeCells zv.cells (m.toNat*i.size)).getD (j*(q+1)+k) undef=zv.cells.getD k undef:=by
    intro j k hj hk
    have hlt:j*(q+1)+k<m.toNat*i.size:=by
     rw[e1]
     have:(j+1)*(q+1)≤m.toNat*(q+1):=Nat.mul_le_mul_right _ (by omega)
     rw[Nat.add_mul] at this;omega
    have hmod:(j*(q+1)+k) % zv.cells.size=k:=by rw[hzs];exact (div_mul_add hk).2
    have hks:k<zv.cells.size:=by omega
    simp[madeCells,Array.getD_eq_getD_getElem?,hlt,hmod,hks]
   rw[show (⟨0,n.toNat,q+1,elem,true⟩:Fam)=⟨0,(List.replicate n.toNat z).length,q+1,elem,true⟩ from by rw[hlen]]
   refine own_list (w':=w.alloc (.cells (madeCells zv.cells (m.toNat*i.size)) elem)) (c:=madeCells zv.cells (m.toNat*i.size)) (cap:=m.toNat) hw hs hfl (Blw.push w _) (by rw[hlen];exact hrun)
    (ty:=elem) (z:=(0,0)) (by simp[World.alloc,-World.alloc_eq]) (by omega) (by rw[hlen];omega) (by rw[size_madeCells,e1];exact Nat.le_refl _) (by simp) ?_ ?_ ?_
   · intro j hj
     rw[hlen] at hj
     have:(List.replicate n.toNat z).getD j .dead=z:=by simp[List.getD_eq_getElem?_getD,hj]
     rw[this,flat_cells hzf];exact hzl
   · intro j k hj hk
     rw[hlen] at hj
     rw[hcell j k hj hk]
     exact ((hzVR E st w).flat' hzf).2.1 k (by omega)
   · intro E' st' w' j k hj hk
     rw[hlen] at hj
     have:(List.replicate n.toNat z).getD j .dead=z:=by simp[List.getD_eq_getElem?_getD,hj]
     rw[hcell j k hj hk,this,flat_cells hzf]
     exact ((hzVR E' st' w').flat hzf).2 k (by omega)
theorem newBox_VR {t:TypeId} {x:Value} {d:V} {cs:List V} (hw:WR E st w) (hs:SR E st w a.tmps s) (hfl:st.flo≤st.fams.length) (hx:VR E st w x d) (hf:d.flat=some cs) :
 OpR E st w a.tmps (do pure (.pointer (some (←newVar t x)))) P (.ptr st.heap.length 0) s { st with heap:=st.heap++[.cells t cs] }:=by
 obtain⟨g1,g0,g2⟩:=hx.flat' hf
 have hB:Blw w { w with heap:=w.heap.push (.cells x.cells t) }:=Blw.push w _
 obtain⟨k1,k2⟩:=new_box hw hB (.cells t cs) w.heap.size (Nat.le_refl _) hfl (fun E' st' S=>⟨x.cells,by simp,g1,g0,fun k hk=>(g2 k hk).step0 S⟩)
 have S:Step [] E st w (E.addBox st.heap.length w.heap.size) { st with heap:=st.heap++[.cells t cs] } { w with heap:=w.heap.push (.cells x.cells t) }:=by
  refine step_grow hB (fun i hi=>⟨by simp;omega,by simp[Env.addBox,Nat.ne_of_lt hi]⟩) (fun i b h1 h2 h3=>?_) (fun F f hf=>⟨hf,rfl,rfl⟩) (fun F h1 h2=>by simp at h2;omega)
  have:i=st.heap.length:=by simp at h2;omega
  subst this
  simp[Env.addBox] at h3
  omega
 refine⟨.pointer (some (adr w.heap.size 0)),_,_,by simp[newVar,newRow],k1,.ptr _ _ _ (by simp) (by simp[Env.addBox]),hs.step0 S,k2⟩
end
end Go.Abs

namespace Go.Abs
open Go
inductive EntR (E:Env) (st:St) (w:World):List MapEntry→List (V×V)→Prop
 | nil:EntR E st w [] []
 | cons {e:MapEntry} {p:V×V} {es:List MapEntry} {ps:List (V×V)}:VR E st w e.key p.1→VR E st w e.val p.2→EntR E st w es ps→EntR E st w (e::es) (p::ps)
section
variable {E:Env} {st:St} {w:World}
theorem EntR.of:∀{es:List MapEntry} {ps:List (V×V)},es.length=ps.length →
 (∀k,k<ps.length→VR E st w (es.getD k default).key (ps.getD k (.dead,.dead)).1∧VR E st w (es.getD k default).val (ps.getD k (.dead,.dead)).2)→EntR E st w es ps
 | [],[],_,_=>.nil
 | [],_::_,h,_=>by simp at h
 | _::_,[],h,_=>by simp at h
 | e::es,p::ps,h,hv=>by
  have h0:=hv 0 (by simp)
  refine .cons (by simpa using h0.1) (by simpa using h0.2) (EntR.of (by simpa using h) fun k hk=>?_)
  have:=hv (k+1) (by simp;omega)
  simpa using this
theorem EntR.to {es:List MapEntry} {ps:List (V×V)} (h:EntR E st w es ps):es.length=ps.length ∧
 ∀k,k<ps.length→VR E st w (es.getD k default).key (ps.getD k (.dead,.dead)).1∧VR E st w (es.getD k default).val (ps.getD k (.dead,.dead)).2:=by
 induction h with
 | nil=>exact⟨rfl,fun k hk=>by simp at hk⟩
 | cons h1 h2 _ ih =>
  refine⟨by simp[ih.1],fun k hk=>?_⟩
  cases k with
  | zero=>simpa using⟨h1,h2⟩
  | succ k=>simpa using ih.2 k (by simpa using hk)
theorem EntR.mono {E':Env} {st':St} {w':World} (S:Step [] E st w E' st' w') {es:List MapEntry} {ps:List (V×V)} (h:EntR E st w es ps):EntR E' st' w' es ps:=by
 induction h with
 | nil=>exact .nil
 | cons h1 h2 _ ih=>exact .cons (h1.step0 S) (h2.step0 S) ih
theorem EntR.snoc {es:List MapEntry} {ps:List (V×V)} (h:EntR E st w es ps) {e:MapEntry} {p:V×V} (h1:VR E st w e.key p.1) (h2:VR E st w e.val p.2):EntR E st w (es++[e]) (ps++[p]):=by
 induction h with
 | nil=>exact .cons h1 h2 .nil
 | cons a b _ ih=>exact .cons a b ih
theorem VR.two {a b:Value} {x y:V} (h1:VR E st w a x) (h2:VR E st w b y):VR E st w (.tuple #[a,b]) (.tup [x,y]) :=
 .tup _ _ rfl fun k hk=>by
  match k with
  | 0=>simpa using h1
  | 1=>simpa using h2
  | k+2=>simp at hk;omega
inductive KeyR:TypeDesc→Value→V→Prop
 | int (k:IntKind) (n:Int):KeyR (.int k) (.int k n) (.int k n)
 | str (s:ByteArray):KeyR .string (.string s) (.str s.data.toList)
end
section
variable {P:Program} {E:Env} {st:St} {w:World}
theorem keyB_VR {kt:TypeId} {kv:Value} {k:V} (hk:VR E st w kv k) (h:keyB P kt k=true):∃d,P.underlying kt=some d∧KeyR d kv k:=by
 cases hk<;>simp only[keyB,Bool.false_eq_true] at h
 · split at h
   · rename_i k0 _ _ k' hu
     have h':=eq_of_beq h
     subst h'
     exact⟨_,hu,.int _ _⟩
   · simp at h
 · split at h
   · rename_i hu
     exact⟨_,hu,.str _⟩
   · simp at h
theorem KeyR.isKey {d:TypeDesc} {kv:Value} {k:V} (h:KeyR d kv k):MapKept.IsKey d kv:=by
 cases h<;>simp[MapKept.IsKey]
theorem KeyR.same {d:TypeDesc} {kv kv':Value} {k k':V} {b:Bool} (h:KeyR d kv k) (hv:VR E st w kv' k') (hs:sameB k k'=some b) :
 Instr.sameNow d kv kv'=some b∧(b=true→Instr.sameBits 10000 kv' kv=true):=by
 cases h with
 | int k n=>cases hv with
  | int k' n' =>
   simp only[sameB] at hs
   split at hs
   · rename_i hk
     subst hk
     injection hs with hs
     subst hs
     refine⟨by simp[Instr.sameNow],fun hb=>?_⟩
     have:n=n':=by simpa using hb
     subst this
     simp[Instr.sameBits]
   · simp at hs
  | _=>simp[sameB] at hs
 | str s=>cases hv with
  | str s' =>
   simp only[sameB] at hs
   injection hs with hs
   subst hs
   have e:(s==s')=(s.data.toList==s'.data.toList):=beq_bytes s s'
   refine⟨by simp[Instr.sameNow,e],fun hb=>?_⟩
   have:s=s':=by
    have:s.data.toList=s'.data.toList:=by simpa using hb
    exact ByteArray.ext (Array.toList_inj.1 this)
   subst this
   simp only[Instr.sameBits]
   rw[e];simp
  | _=>simp[sameB] at hs
theorem EntR.find {d:TypeDesc} {kv:Value} {k:V} (hK:KeyR d kv k) {es:List MapEntry} {ps:List (V×V)} (h:EntR E st w es ps):∀{r:Option V} (i:Nat),findK k ps=some r →
 (r=none∧Instr.findNow d kv es i=some none∧∀v,putK k v ps=some (ps++[(k,v)])) ∨
 (∃x j cv,r=some x∧j<es.length∧Instr.findNow d kv es i=some (some (i+j,cv))∧VR E st w cv x∧(∀v,putK k v ps=some (ps.set j (k,v)))∧Instr.sameBits 10000 (es.getD j default).key kv=true):=by
 induction h with
 | nil =>
  intro r i h
  simp only[findK,Option.some.injEq] at h
  subst h
  exact .inl ⟨rfl,rfl,fun v=>rfl⟩
 | @cons e p es ps h1 h2 h3 ih =>
  intro r i h
  simp only[findK] at h
  cases hs:sameB k p.1 with
  | none=>rw[hs] at h;simp at h
  | some b =>
   rw[hs] at h
   obtain⟨g1,g2⟩:=hK.same h1 hs
   cases b with
   | true =>
    simp only[Option.some.injEq] at h
    subst h
    exact .inr ⟨p.2,0,e.val,rfl,by simp,by simp[Instr.findNow,g1],h2,fun v=>by simp[putK,hs],by simpa using g2 rfl⟩
   | false =>
    rcases ih (i+1) h with ⟨a1,a2,a3⟩ | ⟨x,j,cv,a1,a2,a3,a4,a5,a6⟩
    · exact .inl ⟨a1,by simp[Instr.findNow,g1,a2],fun v=>by simp[putK,hs,a3]⟩
    · exact .inr ⟨x,j+1,cv,a1,by simpa using a2,by simp[Instr.findNow,g1,a3,Nat.add_assoc,Nat.add_comm 1 j],a4,fun v=>by simp[putK,hs,a5],by simpa using a6⟩
theorem put_find {k v:V}:∀{ps es:List (V×V)},putK k v ps=some es→∃r,findK k ps=some r
 | [],_,_=>⟨none,rfl⟩
 | p::ps,es,h=>by
  simp only[putK] at h
  simp only[findK]
  cases hs:sameB k p.1 with
  | none=>rw[hs] at h;simp at h
  | some b =>
   rw[hs] at h
   cases b with
   | true=>exact⟨_,rfl⟩
   | false =>
    simp only[Option.map_eq_some_iff] at h
    obtain⟨es',h,_⟩:=h
    exact put_find h
theorem lookup_VR {t:TypeId} {m k:V} {mv kv:Value} {ok:Bool} {d:V} (hw:WR E st w) (hm:VR E st w mv m) (hk:VR E st w kv k) (h:lookupK P st t m k ok=some d) :
 ∃v,(Instr.lookup t mv kv ok).run P w=.ok v w∧VR E st w v d:=by
 unfold lookupK at h
 cases hu:P.underlying t with
 | none=>rw[hu] at h;simp at h
 | some td =>
  rw[hu] at h
  cases td with
  | map kt et =>
   simp only at h
   split at h
   · rename_i hkb
     obtain⟨dk,hd,hK⟩:=keyB_VR hk hkb
     have fin:∀(es:List MapEntry) (ps:List (V×V)),EntR E st w es ps →
      (match findK k ps with
       | some (some v)=>some (if ok then V.tup [v,.bool true] else v)
       | some none=>(zeroB P et).map fun z=>if ok then V.tup [z,.bool false] else z
       | none=>none)=some d →
      (∃j cv,(Instr.findKey kt kv es).run P w=.ok (some (j,cv)) w∧VR E st w (if ok then .tuple #[cv,.bool true] else cv) d) ∨
      (∃cz,(Instr.findKey kt kv es).run P w=.ok none w∧(zeroValue et).run P w=.ok cz w∧VR E st w (if ok then .tuple #[cz,.bool false] else cz) d):=by
      intro es ps hE h
      cases hf:findK k ps with
      | none=>rw[hf] at h;simp at h
      | some r =>
       rw[hf] at h
       rcases hE.find hK 0 hf with ⟨rfl,a2,_⟩ | ⟨x,j,cv,rfl,a2,a3,a4,_⟩
       · simp only[Option.map_eq_some_iff] at h
         obtain⟨z,hz,rfl⟩:=h
         obtain⟨cz,hz1,hz2⟩:=zeroB_some hz
         have hzv:VR E st w cz z:=by rw[hz1];exact ofVal_VR E st w 3 cz
         refine .inr ⟨cz,MapKept.run_findKey hd a2,hz2 w,?_⟩
         cases ok
         · simpa using hzv
         · exact VR.two hzv (.bool false)
       · simp only[Option.some.injEq] at h
         subst h
         refine .inl ⟨_,cv,MapKept.run_findKey hd a3,?_⟩
         cases ok
         · simpa using a4
         · exact VR.two a4 (.bool true)
     cases hm with
     | nilm =>
      simp only[entriesB] at h
      rcases fin [] [] .nil h with ⟨j,cv,f1,f2⟩ | ⟨cz,f1,f3,f2⟩
      · exact⟨_,by simp[Instr.lookup,run_underlying hu,MapKept.run_checkKey hd hK.isKey,Result.andThen,f1],f2⟩
      · exact⟨_,by simp[Instr.lookup,run_underlying hu,MapKept.run_checkKey hd hK.isKey,Result.andThen,f1,f3],f2⟩
     | mapr i b hi hb =>
      simp only[entriesB] at h
      have hbx:=List.getElem?_eq_getElem hi
      rw[hbx] at h
      cases hx:st.heap[i] with
      | cells ty cs=>rw[hx] at h;simp at h
      | mapo ps =>
       rw[hx] at h hbx
       simp only at h
       obtain⟨ents,clock,g1,g2,g3⟩:=hw.box i _ b hbx hb
       have hE:EntR E st w ents.toList ps:=EntR.of (by simpa using g2) (fun j hj=>by simpa[List.getD_eq_getElem?_getD,Array.getD_eq_getD_getElem?] using g3 j hj)
       rcases fin ents.toList ps hE h with ⟨j,cv,f1,f2⟩ | ⟨cz,f1,f3,f2⟩
       · exact⟨_,by simp[Instr.lookup,run_underlying hu,MapKept.run_getObj_map g1,MapKept.run_checkKey hd hK.isKey,Result.andThen,f1],f2⟩
       · exact⟨_,by simp[Instr.lookup,run_underlying hu,MapKept.run_getObj_map g1,MapKept.run_checkKey hd hK.isKey,Result.andThen,f1,f3],f2⟩
     | _=>simp[entriesB] at h
   · simp at h
  | _=>simp at h
theorem makeMap_VR {ts:Array Value} {s:List V} {t:TypeId} (hw:WR E st w) (hs:SR E st w ts s) (hfl:st.flo≤st.fams.length) :
 OpR E st w ts (Instr.makeMap t none) P (.mapr st.heap.length) s { st with heap:=st.heap++[.mapo []] }:=by
 have hB:Blw w { w with heap:=w.heap.push (.map #[] 0) }:=Blw.push w _
 obtain⟨k1,k2⟩:=new_box hw hB (.mapo []) w.heap.size (Nat.le_refl _) hfl (fun E' st' S=>⟨#[],0,by simp,rfl,fun k hk=>by simp at hk⟩)
 have S:Step [] E st w (E.addBox st.heap.length w.heap.size) { st with heap:=st.heap++[.mapo []] } { w with heap:=w.heap.push (.map #[] 0) }:=by
  refine step_grow hB (fun i hi=>⟨by simp;omega,by simp[Env.addBox,Nat.ne_of_lt hi]⟩) (fun i b h1 h2 h3=>?_) (fun F f hf=>⟨hf,rfl,rfl⟩) (fun F h1 h2=>by simp at h2;omega)
  have:i=st.heap.length:=by simp at h2;omega
  subst this
  simp[Env.addBox] at h3
  omega
 exact⟨.map (some w.heap.size),_,_,rfl,k1,.mapr _ _ (by simp) (by simp[Env.addBox]),hs.step0 S,k2⟩
theorem update_VR {ts:Array Value} {s:List V} {t:TypeId} {m k x:V} {mv kv xv:Value} {st':St} (hw:WR E st w) (hs:SR E st w ts s) (hm:VR E st w mv m) (hk:VR E st w kv k) (hx:VR E st w xv x)
 (h:updateK P st t m k x=some st'):∃w',(Instr.mapUpdate t mv kv xv).run P w=.ok () w'∧WR E st' w'∧SR E st' w' ts s∧Seg E st w E st' w':=by
 unfold updateK at h
 cases hu:P.underlying t with
 | none=>rw[hu] at h;simp at h
 | some td =>
  rw[hu] at h
  cases td with
  | map kt et =>
   cases hm with
   | mapr i b hi hb =>
    simp only at h
    split at h
    · rename_i hkb
      obtain⟨dk,hd,hK⟩:=keyB_VR hk hkb
      have hbx:=List.getElem?_eq_getElem hi
      rw[hbx] at h
      cases hx':st.heap[i] with
      | cells ty cs=>rw[hx'] at h;simp at h
      | mapo ps =>
       rw[hx'] at h hbx
       simp only at h
       cases hp:putK k x ps with
       | none=>rw[hp] at h;simp at h
       | some ps' =>
        rw[hp] at h
        simp only[setMapB] at h
        split at h
        · rename_i hlo
          simp only[Option.some.injEq] at h
          subst h
          obtain⟨ents,clock,g1,g2,g3⟩:=hw.box i _ b hbx hb
          have hE:EntR E st w ents.toList ps:=EntR.of (by simpa using g2) (fun j hj=>by simpa[List.getD_eq_getElem?_getD,Array.getD_eq_getD_getElem?] using g3 j hj)
          have hbs:b<w.heap.size:=(Array.getElem?_eq_some_iff.1 g1).1
          have fin:∀(ents':Array MapEntry) (clock':Nat),EntR E st w ents'.toList ps' →
           WR E { st with heap:=st.heap.set i (.mapo ps') } { w with heap:=w.heap.setIfInBounds b (.map ents' clock') }∧SR E { st with heap:=st.heap.set i (.mapo ps') } { w with heap:=w.heap.setIfInBounds b (.map ents' clock') } ts s ∧
            Seg E st w E { st with heap:=st.heap.set i (.mapo ps') } { w with heap:=w.heap.setIfInBounds b (.map ents' clock') }:=by
           intro ents' clock' hE'
           have hO:Only b w { w with heap:=w.heap.setIfInBounds b (.map ents' clock') }:=⟨by simp,fun r hr=>by simp[Ne.symm hr],⟨rfl,rfl⟩⟩
           obtain⟨q1,q2⟩:=write_box hw hlo hi hb hO (.mapo ps') (fun S=>by
            obtain⟨z1,z2⟩:=(hE'.mono S).to
            refine⟨ents',clock',by simp[hbs],by simpa using z1,fun j hj=>?_⟩
            simpa[List.getD_eq_getElem?_getD,Array.getD_eq_getD_getElem?] using z2 j hj)
           exact⟨q1,hs.step0 (step_box hw hi hb hO (by simp) rfl),q2⟩
          obtain⟨r,hf⟩:=put_find hp
          rcases hE.find hK 0 hf with ⟨rfl,a2,a3⟩ | ⟨y,j,cv,rfl,a2,a3,a4,a5,a6⟩
          · rw[a3 x] at hp
            injection hp with hp
            subst hp
            obtain⟨q1,q2,q3⟩:=fin (ents.push { key:=kv,val:=xv,born:=clock }) (clock+1) (by simpa using hE.snoc hk hx)
            refine⟨_,?_,q1,q2,q3⟩
            simp[Instr.mapUpdate,run_underlying hu,MapKept.run_getObj_map g1,MapKept.run_checkKey hd hK.isKey,MapKept.run_findKey hd a2,MapKept.run_setObj_map _ g1,Result.andThen]
          · rw[a5 x] at hp
            injection hp with hp
            subst hp
            have hj:j<ents.size:=by simpa using a2
            obtain⟨q1,q2,q3⟩:=fin (ents.modify j fun e=>{ e with key:=kv,val:=xv }) clock (by
             refine EntR.of (by simp[g2]) (fun l hl=>?_)
             have hl':l<ps.length:=by simpa using hl
             have hle:l<ents.size:=by rw[g2];exact hl'
             have:=g3 l hl'
             by_cases hlj:j=l
             · subst hlj
               simp[List.getD_eq_getElem?_getD,Array.getElem?_modify,hl',hle,hk,hx]
             · simpa[List.getD_eq_getElem?_getD,Array.getD_eq_getD_getElem?,Array.getElem?_modify,hlj,List.getElem?_set_ne hlj] using this)
            refine⟨_,?_,q1,q2,q3⟩
            have e6:Instr.sameBits 10000 (((ents[j]?).map (·.key)).getD kv) kv=true:=by
             rw[Array.getElem?_eq_getElem hj]
             simpa[List.getD_eq_getElem?_getD,hj] using a6
            simp[Instr.mapUpdate,run_underlying hu,MapKept.run_getObj_map g1,MapKept.run_checkKey hd hK.isKey,MapKept.run_findKey hd a3,MapKept.run_setObj_map _ g1,Result.andThen,Instr.keyThatStays]
            rw[if_pos e6]
            simp[MapKept.run_setObj_map _ g1]
        · simp at h
    · simp at h
   | _=>simp at h
  | _=>simp at h
end
end Go.Abs

namespace Go.Abs
open Go
theorem zapL_get {α:Type} (e:α) (a i:Nat):∀(k:Nat) (l:List α),a+k≤i→(zapL e a k l)[i]? = l[i]?
 | 0,l,_=>rfl
 | k+1,l,h=>by rw[zapL,List.getElem?_set_ne (by omega),zapL_get e a i k l (by omega)]
mutual
theorem free_upd {F ep m:Nat} {e:V}:∀{v:V},v.free F=true→V.upd F ep m e v=v
 | .list t off sz xs,h=>by
  cases t with
  | own F' ep' =>
   simp only[V.free,Bool.and_eq_true,bne_iff_ne,ne_eq] at h
   simp[V.upd,h.1,frees_upd h.2]
  | _=>simp only[V.free,Bool.true_and] at h;simp[V.upd,frees_upd h]
 | .agg cs,h=>by simp only[V.free] at h;simp[V.upd,frees_upd h]
 | .tup cs,h=>by simp only[V.free] at h;simp[V.upd,frees_upd h]
 | .eptr t idx off e0,h=>by
  cases t with
  | own F' ep' =>
   simp only[V.free,Bool.and_eq_true,bne_iff_ne,ne_eq] at h
   simp[V.upd,h.1,free_upd h.2]
  | _=>simp only[V.free,Bool.true_and] at h;simp[V.upd,free_upd h]
 | .func fn a b,h=>by simp only[V.free,Bool.and_eq_true] at h;simp[V.upd,frees_upd h.1,frees_upd h.2]
 | .iface t v,h=>by simp only[V.free] at h;simp[V.upd,free_upd h]
 | .int ..,h=>by simp[V.upd]
 | .bool ..,h=>by simp[V.upd]
 | .str ..,h=>by simp[V.upd]
 | .ptr ..,h=>by simp[V.upd]
 | .nilp,h=>by simp[V.upd]
 | .nilf,h=>by simp[V.upd]
 | .nili,h=>by simp[V.upd]
 | .mapr ..,h=>by simp[V.upd]
 | .nilm,h=>by simp[V.upd]
 | .any,h=>by simp[V.upd]
 | .dead,h=>by simp[V.upd]
theorem frees_upd {F ep m:Nat} {e:V}:∀{v:List V},V.frees F v=true→V.upds F ep m e v=v
 | [],h=>by simp[V.upds]
 | v::vs,h=>by simp only[V.frees,Bool.and_eq_true] at h;simp[V.upds,free_upd h.1,frees_upd h.2]
end
theorem frees_set {F:Nat} {e:V} (he:e.free F=true):∀{l:List V} (n:Nat),V.frees F l=true→V.frees F (l.set n e)=true
 | [],n,h=>by simpa using h
 | v::l,0,h=>by simp only[V.frees,Bool.and_eq_true] at h;simp[V.frees,he,h.2]
 | v::l,n+1,h=>by simp only[V.frees,Bool.and_eq_true] at h;simp[V.frees,h.1,frees_set he n h.2]
theorem zap_list {F ep off q:Nat} {e:V} {xs:List V} (he:e.free F=true) (hx:V.frees F xs=true):∀k,zapV F ep e off k (.list (.own F ep) off q xs)=.list (.own F ep) off q (zapL e 0 k xs)∧V.frees F (zapL e 0 k xs)=true
 | 0=>⟨rfl,hx⟩
 | k+1=>by
  obtain⟨h1,h2⟩:=zap_list he hx k
  refine⟨?_,frees_set he _ h2⟩
  rw[zapV,h1,zapL]
  simp[V.upd,frees_upd h2]
theorem zapVs_map (F ep:Nat) (e:V) (a:Nat):∀(k:Nat) (l:List V),zapVs F ep e a k l=l.map (zapV F ep e a k)
 | 0,l=>by simp[zapVs,zapV]
 | k+1,l=>by simp[zapVs,zapVs_map F ep e a k l,upds_map,zapV]
section
variable {P:Program} {E:Env} {st st':St} {w:World} {s s':List V}
theorem storeCells_append (a:Addr) (l2:List Value):∀(l1:List Value) (i:Nat) (w:World),(storeCells a (l1++l2) i).run P w=((storeCells a l1 i).run P w).andThen fun _ w'=>(storeCells a l2 (i+l1.length)).run P w'
 | [],i,w=>by simp[storeCells]
 | v::l1,i,w=>by
  simp only[List.cons_append,storeCells,Sem.run_bind]
  cases (store (a.add i) v).run P w with
  | ok u w1 =>
   simp only[Result.andThen_ok]
   rw[storeCells_append a l2 l1 (i+1) w1]
   simp only[List.length_cons,Nat.add_assoc,Nat.add_comm 1]
  | halt h w1=>simp[Result.andThen]
theorem storeCells_add (a:Addr) (j:Nat) (h:∀i,(a.add j).add i=a.add (j+i)):∀(l:List Value) (i:Nat),storeCells (a.add j) l i=storeCells a l (j+i)
 | [],i=>rfl
 | v::l,i=>by
  simp only[storeCells,h]
  rw[storeCells_add a j h l (i+1)]
  rfl
theorem SR.push {ts:Array Value} {xv:Value} {x:V} (hs:SR E st w ts s) (hx:VR E st w xv x):SR E st w (ts.push xv) (s++[x]):=by
 refine⟨by simp[hs.size],fun i hi=>?_⟩
 rcases Nat.lt_or_ge i s.length with h | h
 · have e1:(ts.push xv).getD i undef=ts.getD i undef:=by
    have:i<ts.size:=by rw[hs.size];exact h
    simp[Array.getD_eq_getD_getElem?,Array.getElem?_push,Nat.ne_of_lt this]
   have e2:(s++[x]).getD i .any=s.getD i .any:=by simp[List.getD_eq_getElem?_getD,List.getElem?_append_left h]
   rw[e1,e2]
   exact hs.val i h
 · have hi':i=s.length:=by simp at hi;omega
   subst hi'
   have e1:(ts.push xv).getD s.length undef=xv:=by rw[←hs.size];simp[Array.getD_eq_getD_getElem?]
   have e2:(s++[x]).getD s.length .any=x:=by simp[List.getD_eq_getElem?_getD]
   rw[e1,e2]
   exact hx
theorem SR.pop {ts:Array Value} {xv:Value} {x:V} (hs:SR E st w (ts.push xv) (s++[x])) (hl:ts.size=s.length):SR E st w ts s∧VR E st w xv x:=by
 refine⟨⟨hl,fun i hi=>?_⟩,?_⟩
 · have:=hs.val i (by simp;omega)
   have e1:(ts.push xv).getD i undef=ts.getD i undef:=by
    have:i<ts.size:=by omega
    simp[Array.getD_eq_getD_getElem?,Array.getElem?_push,Nat.ne_of_lt this]
   have e2:(s++[x]).getD i .any=s.getD i .any:=by simp[List.getD_eq_getElem?_getD,List.getElem?_append_left hi]
   rw[e1,e2] at this
   exact this
 · have:=hs.val s.length (by simp)
   have e1:(ts.push xv).getD s.length undef=xv:=by rw[←hl];simp[Array.getD_eq_getD_getElem?]
   have e2:(s++[x]).getD s.length .any=x:=by simp[List.getD_eq_getElem?_getD]
   rw[e1,e2] at this
   exact this
theorem zapVs_len (F ep a:Nat) (e:V) (k:Nat) (l:List V):(zapVs F ep e a k l).length=l.length:=by rw[zapVs_map,List.length_map]
theorem take_zeros (zc:Array Value) (n k:Nat) (h0:0<zc.size) (hk:k<n) :
 (Builtin.zeroCells zc n).toList.take ((k+1)*zc.size)=(Builtin.zeroCells zc n).toList.take (k*zc.size)++zc.toList:=by
 have hl:(Builtin.zeroCells zc n).toList.length=n*zc.size:=by simp[Builtin.zeroCells]
 have h1:(k+1)*zc.size≤n*zc.size:=Nat.mul_le_mul_right _ hk
 rw[Nat.add_mul,Nat.one_mul] at h1
 have hg:∀i (h:i<(Builtin.zeroCells zc n).toList.length),(Builtin.zeroCells zc n).toList[i]=zc[i % zc.size]!:=by
  intro i h
  simp[Builtin.zeroCells]
 apply List.ext_getElem
 · simp only[List.length_take,List.length_append,hl,Nat.add_mul,Nat.one_mul,Array.length_toList]
   omega
 · intro i a b
   have hi:i<k*zc.size+zc.size:=by simp only[List.length_take,hl,Nat.add_mul,Nat.one_mul] at a;omega
   rw[List.getElem_take,hg,List.getElem_append]
   split
   · rw[List.getElem_take,hg]
   · rename_i hc
     have hc':k*zc.size≤i:=by simp only[List.length_take,hl] at hc;omega
     have e:i % zc.size=i-k*zc.size:=by
      obtain⟨j,rfl⟩:∃j,i=j+k*zc.size:=⟨i-k*zc.size,by omega⟩
      rw[Nat.add_mul_mod_self_right,Nat.mod_eq_of_lt (by omega),Nat.add_sub_cancel]
     have hm:min (k*zc.size) (Builtin.zeroCells zc n).toList.length=k*zc.size:=by rw[hl];omega
     rw[e]
     have hlt:i-k*zc.size<zc.size:=by omega
     simp only[List.length_take,hm]
     simp[getElem!_pos,hlt]
theorem re_zero {e z:V} {ec zc:List V} (h1:e.flat=some ec) (h2:z.flat=some zc) (ha:aggV e=aggV z) (hl:ec.length=zc.length):reElem e (splice ec 0 zc)=z:=by
 cases e with
 | agg cs =>
  simp only[V.flat,Option.some.injEq] at h1
  subst h1
  cases z with
  | agg zs =>
   simp only[V.flat,Option.some.injEq] at h2
   subst h2
   simp[reElem,splice,hl]
  | _=>simp[aggV] at ha
 | any=>simp[V.flat] at h1
 | tup=>simp[V.flat] at h1
 | _ =>
  cases z with
  | agg zs=>simp[aggV] at ha
  | any=>simp[V.flat] at h2
  | tup=>simp[V.flat] at h2
  | _ =>
   simp only[V.flat,Option.some.injEq] at h1 h2
   subst h1 h2
   rfl
theorem clear_VR {t ty:TypeId} {x:V} {xv:Value} {ts:Array Value} {tys:Array TypeId} (ht:tys[0]? = some t) (hw:WR E st w) (hs:SR E st w ts s) (hfl:st.flo≤st.fams.length) (hx:VR E st w xv x) (h:clearB P t x s st=some (s',st')) :
 ∃w' E',(Builtin.clear_ tys ty #[xv]).run P w=.ok (.tuple #[]) w'∧WR E' st' w'∧SR E' st' w' ts s'∧Seg E st w E' st' w':=by
 unfold clearB at h
 split at h
 · rename_i elem tk off sz hu
   simp only[Option.some.injEq,Prod.mk.injEq] at h
   obtain⟨rfl,rfl⟩:=h
   refine⟨w,E,?_,hw,hs,.refl _ _ _⟩
   cases hx with
   | nil=>simp[Builtin.clear_,ht,run_underlying hu]
   | list=>simp[Builtin.clear_,ht,run_underlying hu]
 · rename_i elem F ep off sz y ys hu
   split at h
   rotate_left
   · simp at h
   rename_i z g hz hg
   split at h
   rotate_left
   · simp at h
   rename_i zc hzf
   split at h
   rotate_left
   · simp at h
   rename_i hc
   obtain⟨hsz,hzl,hflo,hep,hwr,hzfree,hall⟩:=hc
   simp only[Option.some.injEq,Prod.mk.injEq] at h
   obtain⟨rfl,rfl⟩:=h
   subst hep
   generalize hxs:y::ys=xs at hx hall
   have hn:ys.length+1=xs.length:=by rw[←hxs];rfl
   rw[hn]
   have hpos:0<xs.length:=by omega
   obtain⟨zv,hz1,hz2⟩:=zeroB_some hz
   have hfr:V.frees F xs=true:=by
    have:∀l:List V,(l.all fun v=>v.free F&&aggV v==aggV z&&v.flat.isSome)=true→V.frees F l=true:=by
     intro l
     induction l with
     | nil=>simp[V.frees]
     | cons a l ih=>simp only[List.all_cons,Bool.and_eq_true,V.frees];exact fun h=>⟨h.1.1.1,ih h.2⟩
    exact this xs hall
   cases hx with
   | list _ _ _ _ a cap vs ht2 hcap hsp hsz0 hel hcell hrd htok hone hv =>
    have hsp':=hsp hpos
    have ha:a=adr a.block a.off:=by cases a;simp at hsp';simp[hsp']
    have hzvr:∀(E:Env) (st:St) (w:World),VR E st w zv z:=fun E st w=>by rw[hz1];exact ofVal_VR E st w 3 zv
    have hzsz:zv.cells.size=sz:=by rw[←hzl];exact ((hzvr E st w).flat' hzf).1
    have key:∀k,k≤xs.length→∃wk Ek,(storeCells a ((Builtin.zeroCells zv.cells xs.length).toList.take (k*sz)) 0).run P w=.ok () wk∧WR Ek { st with heap:=zapH F g.ep z off k st.heap,kills:=List.replicate k F++st.kills } wk ∧
     SR Ek { st with heap:=zapH F g.ep z off k st.heap,kills:=List.replicate k F++st.kills } wk (ts.push (.slice (some a) xs.length cap)) (zapVs F g.ep z off k (s++[.list (.own F g.ep) off sz xs])) ∧
     Seg E st w Ek { st with heap:=zapH F g.ep z off k st.heap,kills:=List.replicate k F++st.kills } wk:=by
     intro k
     induction k with
     | zero =>
      intro _
      refine⟨w,E,by simp[storeCells],by simpa[zapH] using hw,?_,?_⟩
      · have:=hs.push (.list _ _ _ _ a cap vs ht2 hcap hsp hsz0 hel hcell hrd htok hone hv)
        simpa[zapH,zapVs] using this
      · have:Seg E st w E st w:=.refl _ _ _
        simpa[zapH] using this
     | succ k ih =>
      intro hk
      obtain⟨wk,Ek,r1,r2,r3,r4⟩:=ih (by omega)
      have hlast:VR Ek { st with heap:=zapH F g.ep z off k st.heap,kills:=List.replicate k F++st.kills } wk (.slice (some a) xs.length cap) (zapV F g.ep z off k (.list (.own F g.ep) off sz xs)):=by
       rw[zapVs_map,List.map_append,←zapVs_map,List.map_cons,List.map_nil] at r3
       exact (r3.pop (by rw[zapVs_len];exact hs.size)).2
      rw[(zap_list hzfree hfr k).1] at hlast
      have hget:(zapL z 0 k xs)[k]? = some xs[k]:=by rw[zapL_get z 0 k k xs (by omega)];simp
      have hia:indexAddrB P t (.list (.own F g.ep) off sz (zapL z 0 k xs)) (k:Int)=some (.eptr (.own F g.ep) (off+k) 0 xs[k]):=by
       unfold indexAddrB
       simp only[hu]
       rw[if_pos ⟨by omega,hsz⟩]
       simp[hget]
      obtain⟨rv,i1,i2⟩:=indexAddr_VR (w1:=wk) (k:=.i64) hia hlast
      have hidx:(Instr.indexAt t (.slice (some a) xs.length cap) (.int .i64 k)).run P wk=.ok (.pointer (some (a.add (k*sz)))) wk:=by
       have hin:(0:Int)≤(k:Int)∧(k:Int)<(xs.length:Int):=by omega
       simp[Instr.indexAt,asIntOf,run_underlying hu,hin,run_sizeB hsz.symm,show k<xs.length by omega]
      rw[hidx] at i1
      obtain rfl:Value.pointer (some (a.add (k*sz)))=rv:=by
       have:=i1
       simp only[Result.ok.injEq,and_true] at this
       exact this
      have hek:=List.all_eq_true.1 hall xs[k] (List.getElem_mem _)
      simp only[Bool.and_eq_true,beq_iff_eq] at hek
      have hec:xs[k].cells.length=sz:=by have:=hel k (by omega);simpa[List.getD_eq_getElem?_getD,show k<xs.length by omega] using this
      obtain⟨ec,hef⟩:=Option.isSome_iff_exists.1 hek.2
      have hecl:ec.length=sz:=by
       have:xs[k].cells=ec:=by
        generalize xs[k]=e0 at hef
        cases e0<;>simp[V.flat] at hef<;>subst hef<;>rfl
       rw[←this];exact hec
      have hre:=re_zero hef hzf hek.1.2 (by omega)
      have hsb:storeB P (zapVs F g.ep z off k (s++[.list (.own F g.ep) off sz xs])) { st with heap:=zapH F g.ep z off k st.heap,kills:=List.replicate k F++st.kills } elem (.eptr (.own F g.ep) (off+k) 0 xs[k]) z =
       some (zapVs F g.ep z off (k+1) (s++[.list (.own F g.ep) off sz xs]),{ st with heap:=zapH F g.ep z off (k+1) st.heap,kills:=List.replicate (k+1) F++st.kills }):=by
       unfold storeB
       simp only[hzf,hzl,hsz,if_true]
       rw[if_pos hflo,hg,hef]
       simp only
       rw[if_pos ⟨trivial,hwr,by omega,hzfree,hek.1.1⟩,hre]
       rfl
      obtain⟨w',E',q1,q2,q3,q4⟩:=(store_VR (P:=P) r2 r3 i2 (hzvr _ _ _) hsb).ex
      refine⟨w',E',?_,q2,q3,r4.trans q4⟩
      have hz0:=hsz0 hpos
      have htk:=take_zeros zv.cells xs.length k (by omega) (by omega)
      rw[hzsz] at htk
      rw[htk,storeCells_append,r1,Result.andThen_ok]
      have hlen:((Builtin.zeroCells zv.cells xs.length).toList.take (k*sz)).length=k*sz:=by
       have:(Builtin.zeroCells zv.cells xs.length).toList.length=xs.length*sz:=by simp[Builtin.zeroCells,hzsz]
       have h1:k*sz≤xs.length*sz:=Nat.mul_le_mul_right _ (by omega)
       simp only[List.length_take,this];omega
      rw[hlen,Nat.zero_add]
      have hadd:∀i,(a.add (k*sz)).add i=a.add (k*sz+i):=by
       intro i
       rw[ha]
       simp only[adr_add,Nat.add_assoc]
      have:=storeCells_add a (k*sz) hadd zv.cells.toList 0
      rw[Nat.add_zero] at this
      rw[←this,←q1]
      simp[Instr.storeAt,Instr.sureAddr,storeVar,run_sizeB hsz.symm,hzsz]
    obtain⟨wk,Ek,r1,r2,r3,r4⟩:=key xs.length (Nat.le_refl _)
    refine⟨wk,Ek,?_,r2,?_,r4⟩
    · have hfull:(Builtin.zeroCells zv.cells xs.length).toList.take (xs.length*sz)=(Builtin.zeroCells zv.cells xs.length).toList:=by
       apply List.take_of_length_le
       simp[Builtin.zeroCells,hzsz]
      rw[hfull] at r1
      obtain⟨m,hm⟩:∃m,xs.length=m+1:=⟨xs.length-1,by omega⟩
      simp only[Builtin.clear_,ht]
      rw[hm] at r1 ⊢
      simp[run_underlying hu,hz2,r1]
    · rw[zapVs_map,List.map_append,←zapVs_map,List.map_cons,List.map_nil] at r3
      exact (r3.pop (by rw[zapVs_len];exact hs.size)).1
 · simp at h
end
end Go.Abs

namespace Go.Abs
open Go
section
variable {P:Program} {o:Oper} {a:Act} {E:Env} {st:St} {w:World} {v:V} {s s':List V} {st':St}
theorem mk_some {s:List V} {st:St} {x:Option V} {v:V} {s':List V} {st':St} (h:mk s st x=some (.val v s' st')):x=some v∧s'=s∧st'=st:=by
 unfold mk at h
 cases x with
 | none=>simp at h
 | some d=>simp only[Option.map_some,Option.some.injEq,Out.val.injEq] at h;exact⟨by rw[h.1],h.2.1.symm,h.2.2.symm⟩
theorem min_VR {k:IntKind}:∀(rest:List V) (pv:List Value) (x:Int) (r:V),pv.length=rest.length→(∀j,j<rest.length→VR E st w (pv.getD j undef) (rest.getD j .dead)) →
 rest.foldl (minStep k) (some (.int k x))=some r →
 ∃rv,(pv.foldlM Builtin.min2 (.int k x)).run P w=.ok rv w∧VR E st w rv r
 | [],pv,x,r,hl,hp,h=>by
  have:pv=[]:=List.eq_nil_of_length_eq_zero hl
  subst this
  simp only[List.foldl_nil,Option.some.injEq] at h
  subst h
  exact⟨_,by simp,.int _ _⟩
 | y::rest,p::pv,x,r,hl,hp,h=>by
  have h0:=hp 0 (by simp)
  simp only[List.getD_cons_zero] at h0
  rw[List.foldl_cons] at h
  have hn:∀l:List V,l.foldl (minStep k) (none:Option V)=none:=by
   intro l;induction l with
   | nil=>rfl
   | cons a l ih=>rw[List.foldl_cons];simpa[minStep] using ih
  cases h0 with
  | int k2 n =>
   simp only[minStep] at h
   split at h
   · rename_i hk
     obtain⟨_,rfl⟩:=hk
     obtain⟨rv,i1,i2⟩:=min_VR (k:=k2) rest pv _ r (by simpa using hl) (fun j hj=>by have:=hp (j+1) (by simp;omega);simpa using this) h
     refine⟨rv,?_,i2⟩
     rw[List.foldlM_cons,Sem.run_bind]
     simp only[Builtin.min2,Sem.run_pure,Result.andThen_ok]
     exact i1
   · rw[hn] at h;simp at h
  | _=>simp only[minStep] at h;rw[hn] at h;simp at h
theorem max_VR {k:IntKind}:∀(rest:List V) (pv:List Value) (x:Int) (r:V),pv.length=rest.length→(∀j,j<rest.length→VR E st w (pv.getD j undef) (rest.getD j .dead)) →
 rest.foldl (maxStep k) (some (.int k x))=some r →
 ∃rv,(pv.foldlM Builtin.max2 (.int k x)).run P w=.ok rv w∧VR E st w rv r
 | [],pv,x,r,hl,hp,h=>by
  have:pv=[]:=List.eq_nil_of_length_eq_zero hl
  subst this
  simp only[List.foldl_nil,Option.some.injEq] at h
  subst h
  exact⟨_,by simp,.int _ _⟩
 | y::rest,p::pv,x,r,hl,hp,h=>by
  have h0:=hp 0 (by simp)
  simp only[List.getD_cons_zero] at h0
  rw[List.foldl_cons] at h
  have hn:∀l:List V,l.foldl (maxStep k) (none:Option V)=none:=by
   intro l;induction l with
   | nil=>rfl
   | cons a l ih=>rw[List.foldl_cons];simpa[maxStep] using ih
  cases h0 with
  | int k2 n =>
   simp only[maxStep] at h
   split at h
   · rename_i hk
     obtain⟨_,rfl⟩:=hk
     obtain⟨rv,i1,i2⟩:=max_VR (k:=k2) rest pv _ r (by simpa using hl) (fun j hj=>by have:=hp (j+1) (by simp;omega);simpa using this) h
     refine⟨rv,?_,i2⟩
     rw[List.foldlM_cons,Sem.run_bind]
     simp only[Builtin.max2,Sem.run_pure,Result.andThen_ok]
     exact i1
   · rw[hn] at h;simp at h
  | _=>simp only[maxStep] at h;rw[hn] at h;simp at h
theorem arr1 {x:Array Value} (h:x.size=1):x=#[x.getD 0 undef]:=by
 apply Array.ext (by simpa using h)
 intro i h1 h2
 have:i=0:=by omega
 subst this
 simp[Array.getD_eq_getD_getElem?,h]
theorem arr2 {x:Array Value} (h:x.size=2):x=#[x.getD 0 undef,x.getD 1 undef]:=by
 apply Array.ext (by simpa using h)
 intro i h1 h2
 match i,(by omega:i<2) with
 | 0,_=>simp[Array.getD_eq_getD_getElem?,h]
 | 1,_=>simp[Array.getD_eq_getD_getElem?,h]
theorem builtin_VR {b:Builtin} {ts:Array TypeId} {ty:TypeId} {cs:Array Bool} {vs:Array Value} {args:List V} (hw:WR E st w) (hs:SR E st w a.tmps s) (hfl:st.flo≤st.fams.length)
 (hl:vs.size=args.length) (hv:∀k,k<args.length→VR E st w (vs.getD k undef) (args.getD k .dead)) (h:builtinB P b ts args s st=some (.val v s' st'))
 (hex:(execOp a.eval o).run P w=(builtin b ts ty cs vs).run P w):StepR P o a E st w v s' st':=by
 unfold builtinB at h
 cases b<;>simp only[reduceCtorEq] at h
 case len =>
  match args,hl,hv,h with
  | [x],hl,hv,h =>
   have h0:=hv 0 (by simp)
   simp only[List.getD_cons_zero] at h0
   have hvs:=arr1 (x:=vs) (by simpa using hl)
   generalize vs.getD 0 undef=xv at h0 hvs
   subst hvs
   cases ht:ts[0]? with
   | none=>cases h0<;>simp[ht] at h
   | some t =>
    cases h0 with
    | str sx =>
     simp only[ht] at h
     split at h
     · rename_i hu
       obtain⟨e1,rfl,rfl⟩:=mk_some h
       simp only[Option.some.injEq] at e1
       subst e1
       refine .of_val (w':=w) (cv:=goInt sx.size) hw hs hfl ?_ ?_
       · rw[hex]
         simp[builtin,Builtin.len_,ht,run_underlying hu]
       · have:sx.data.toList.length=sx.size:=Array.length_toList
         rw[this];exact .int _ _
     · simp at h
    | nil off sz =>
     simp only[ht] at h
     split at h
     · rename_i e hu
       obtain⟨e1,rfl,rfl⟩:=mk_some h
       simp only[Option.some.injEq] at e1
       subst e1
       refine .of_val (w':=w) (cv:=goInt 0) hw hs hfl ?_ (.int _ _)
       rw[hex]
       simp[builtin,Builtin.len_,ht,run_underlying hu]
     · simp at h
    | list tk off sz xs aa cap vv ht2 hcap =>
     simp only[ht] at h
     split at h
     · rename_i e hu
       obtain⟨e1,rfl,rfl⟩:=mk_some h
       simp only[Option.some.injEq] at e1
       subst e1
       refine .of_val (w':=w) (cv:=goInt xs.length) hw hs hfl ?_ (.int _ _)
       rw[hex]
       simp[builtin,Builtin.len_,ht,run_underlying hu]
     · simp at h
    | _=>simp at h
  | _::_::_,hl,hv,h=>simp at h
 case append =>
  match args,hl,hv,h with
  | [x,y],hl,hv,h =>
   have h0:=hv 0 (by simp)
   have h1:=hv 1 (by simp)
   simp only[List.getD_cons_zero,List.getD_cons_succ] at h0 h1
   have hvs:=arr2 (x:=vs) (by simpa using hl)
   generalize vs.getD 0 undef=xv at h0 hvs
   generalize vs.getD 1 undef=yv at h1 hvs
   subst hvs
   simp only at h
   cases ht:ts[0]? with
   | none=>simp[ht] at h
   | some t =>
    cases hn:newsB P ts y with
    | none=>simp[ht,hn] at h
    | some pr =>
     obtain⟨szy,ys⟩:=pr
     simp only[ht,hn] at h
     cases hap:appendB P t x szy ys s st with
     | none=>rw[hap] at h;simp[mk3] at h
     | some q =>
      obtain⟨d,s1,st1⟩:=q
      rw[hap] at h
      simp only[mk3,Option.map_some,Option.some.injEq,Out.val.injEq] at h
      obtain⟨rfl,rfl,rfl⟩:=h
      obtain⟨cv,w',E',r1,r2⟩:=(append_VR (ty:=ty) hw hs hfl h0 h1 ht hn hap).ex
      exact⟨cv,w',E',.inl (by rw[hex];simp[builtin,r1]),r2⟩
 case cap =>
  match args,hl,hv,h with
  | [x],hl,hv,h =>
   have h0:=hv 0 (by simp)
   simp only[List.getD_cons_zero] at h0
   have hvs:=arr1 (x:=vs) (by simpa using hl)
   generalize vs.getD 0 undef=xv at h0 hvs
   subst hvs
   cases ht:ts[0]? with
   | none =>
    cases h0 with
    | nil off sz=>simp[ht] at h
    | list tk off sz xs aa cap vv ht2=>cases tk<;>simp[ht] at h
    | _=>simp at h
   | some t =>
    cases h0 with
    | nil off sz =>
     simp only[ht] at h
     split at h
     · rename_i e hu
       obtain⟨e1,rfl,rfl⟩:=mk_some h
       simp only[Option.some.injEq] at e1
       subst e1
       refine .of_val (w':=w) (cv:=goInt 0) hw hs hfl ?_ (.int _ _)
       rw[hex]
       simp[builtin,Builtin.cap_,ht,run_underlying hu]
     · simp at h
    | list tk off sz xs aa cap vv ht2 hcap hsp hz hel hcell hrd htok =>
     cases tk with
     | clip =>
      simp only[ht] at h
      split at h
      · rename_i e hu
        obtain⟨e1,rfl,rfl⟩:=mk_some h
        simp only[Option.some.injEq] at e1
        subst e1
        have:cap=xs.length:=htok
        subst this
        refine .of_val (w':=w) (cv:=goInt xs.length) hw hs hfl ?_ (.int _ _)
        rw[hex]
        simp[builtin,Builtin.cap_,ht,run_underlying hu]
      · simp at h
     | nil=>exact absurd rfl ht2
     | _=>simp at h
    | _=>simp at h
  | _::_::_,hl,hv,h=>simp at h
 case min =>
  match args,hl,hv,h with
  | x::rest,hl,hv,h =>
   have h0:=hv 0 (by simp)
   simp only[List.getD_cons_zero] at h0
   cases x<;>simp only[reduceCtorEq] at h
   rename_i k n
   obtain⟨e1,rfl,rfl⟩:=mk_some h
   have hvl:∃xv pv,vs.toList=xv::pv:=by
    have hlen:vs.toList.length=rest.length+1:=by rw[Array.length_toList,hl];rfl
    match hq:vs.toList,hlen with
    | xv::pv,_=>exact⟨xv,pv,rfl⟩
   obtain⟨xv,pv,hvl⟩:=hvl
   have hg:∀k,vs.getD k undef=(xv::pv).getD k undef:=fun k=>by rw[←hvl];simp[Array.getD_eq_getD_getElem?,List.getD_eq_getElem?_getD]
   rw[hg,List.getD_cons_zero] at h0
   have hxv:xv=.int k n:=by cases h0;rfl
   subst hxv
   have hpl:pv.length=rest.length:=by
    have:=congrArg List.length hvl
    simp at this hl;omega
   obtain⟨rv,r1,r2⟩:=min_VR rest pv n v hpl (fun j hj=>by
    have:=hv (j+1) (by simp;omega)
    rw[hg] at this
    simpa using this) e1
   refine .of_val (w':=w) hw hs hfl ?_ r2
   rw[hex]
   simp[builtin,Builtin.min_,hvl]
   rw[r1];rfl
  | [],hl,hv,h=>simp at h
 case clear =>
  match args,hl,hv,h with
  | [x],hl,hv,h =>
   have h0:=hv 0 (by simp)
   simp only[List.getD_cons_zero] at h0
   have hvs:=arr1 (x:=vs) (by simpa using hl)
   generalize vs.getD 0 undef=xv at h0 hvs
   subst hvs
   cases ht:ts[0]? with
   | none=>simp[ht] at h
   | some t =>
    simp only[ht] at h
    cases hcl:clearB P t x s st with
    | none=>rw[hcl] at h;simp at h
    | some pr =>
     obtain⟨s1,st1⟩:=pr
     rw[hcl] at h
     simp only[Option.map_some,Option.some.injEq,Out.val.injEq] at h
     obtain⟨rfl,rfl,rfl⟩:=h
     obtain⟨w',E',r1,r2,r3,r4⟩:=clear_VR (P:=P) (ty:=ty) (tys:=ts) ht hw hs hfl h0 hcl
     refine⟨.tuple #[],w',E',.inl ?_,r2,.tup _ _ rfl (fun k hk=>by simp at hk),r3,r4⟩
     rw[hex]
     simp[builtin,r1]
  | [],hl,hv,h=>simp at h
  | _::_::_,hl,hv,h=>simp at h
 case max =>
  match args,hl,hv,h with
  | x::rest,hl,hv,h =>
   have h0:=hv 0 (by simp)
   simp only[List.getD_cons_zero] at h0
   cases x<;>simp only[reduceCtorEq] at h
   rename_i k n
   obtain⟨e1,rfl,rfl⟩:=mk_some h
   have hvl:∃xv pv,vs.toList=xv::pv:=by
    have hlen:vs.toList.length=rest.length+1:=by rw[Array.length_toList,hl];rfl
    match hq:vs.toList,hlen with
    | xv::pv,_=>exact⟨xv,pv,rfl⟩
   obtain⟨xv,pv,hvl⟩:=hvl
   have hg:∀k,vs.getD k undef=(xv::pv).getD k undef:=fun k=>by rw[←hvl];simp[Array.getD_eq_getD_getElem?,List.getD_eq_getElem?_getD]
   rw[hg,List.getD_cons_zero] at h0
   have hxv:xv=.int k n:=by cases h0;rfl
   subst hxv
   have hpl:pv.length=rest.length:=by
    have:=congrArg List.length hvl
    simp at this hl;omega
   obtain⟨rv,r1,r2⟩:=max_VR rest pv n v hpl (fun j hj=>by
    have:=hv (j+1) (by simp;omega)
    rw[hg] at this
    simpa using this) e1
   refine .of_val (w':=w) hw hs hfl ?_ r2
   rw[hex]
   simp[builtin,Builtin.max_,hvl]
   rw[r1];rfl
  | [],hl,hv,h=>simp at h
theorem aop_VR (hw:WR E st w) (hs:SR E st w a.tmps s) (hfl:st.flo≤st.fams.length) (h:aop P s o st=some (.val v s' st')):StepR P o a E st w v s' st':=by
 unfold aop at h
 cases hop:o.op<;>rw[hop] at h<;>simp only[reduceCtorEq] at h
 case move x =>
  obtain⟨e1,rfl,rfl⟩:=mk_some h
  simp only[Option.some.injEq] at e1
  subst e1
  exact .of_val (w':=w) hw hs hfl (by simp[execOp,hop]) (ev_VR hs x)
 case assign x =>
  obtain⟨e1,rfl,rfl⟩:=mk_some h
  simp only[Option.some.injEq] at e1
  subst e1
  exact .of_val (w':=w) hw hs hfl (by simp[execOp,hop]) (ev_VR hs x)
 case pick c x y =>
  have hc:=ev_VR hs c
  generalize hcv:ev s c=cv at h hc
  generalize hcc:a.eval c=cc at hc
  cases hc with
  | bool b =>
   cases b
   · simp only at h
     obtain⟨e1,rfl,rfl⟩:=mk_some h
     simp only[Option.some.injEq] at e1
     subst e1
     exact .of_val (w':=w) hw hs hfl (by simp[execOp,hop,hcc,asBool]) (ev_VR hs y)
   · simp only at h
     obtain⟨e1,rfl,rfl⟩:=mk_some h
     simp only[Option.some.injEq] at e1
     subst e1
     exact .of_val (w':=w) hw hs hfl (by simp[execOp,hop,hcc,asBool]) (ev_VR hs x)
  | _=>simp at h
 case alloc t =>
  cases hz:zeroB P t with
  | none=>rw[hz] at h;simp at h
  | some zV =>
   rw[hz] at h
   simp only[Option.bind_some] at h
   cases hf:zV.flat with
   | none=>rw[hf] at h;simp at h
   | some cs =>
    rw[hf] at h
    simp only[Option.map_some,Option.some.injEq,Out.val.injEq] at h
    obtain⟨rfl,rfl,rfl⟩:=h
    obtain⟨z,hz1,hz2⟩:=zeroB_some hz
    have hzVR:VR E st w z zV:=by rw[hz1];exact ofVal_VR E st w 3 z
    exact .of_op (by simp[execOp,hop,Instr.alloc,hz2];cases (newVar t z).run P w<;>rfl) (newBox_VR (t:=t) hw hs hfl hzVR hf)
 case box t x =>
  have hx:=ev_VR hs x
  cases hf:(ev s x).flat with
  | none=>rw[hf] at h;simp at h
  | some cs =>
   rw[hf] at h
   simp only[Option.map_some,Option.some.injEq,Out.val.injEq] at h
   obtain⟨rfl,rfl,rfl⟩:=h
   exact .of_op (by simp[execOp,hop,Instr.box];cases (newVar t (a.eval x)).run P w<;>rfl) (newBox_VR (t:=t) hw hs hfl hx hf)
 case build t ps =>
  obtain⟨e1,rfl,rfl⟩:=mk_some h
  obtain⟨pv,p1,p2,p3⟩:=parts_VR hs ps
  obtain⟨rv,r1,r2⟩:=build_VR (w1:=w) e1 p2 p3
  exact .of_val (w':=w) hw hs hfl (by simp only[execOp,hop,p1,Sem.run_bind,r1,Result.andThen_ok,Sem.run_pure]) r2
 case buildSlice t n ps =>
  obtain⟨e1,rfl,rfl⟩:=mk_some h
  obtain⟨pv,p1,p2,p3⟩:=parts_VR hs ps
  exact .of_op (by simp only[execOp,hop,p1,Sem.run_bind,Sem.run_pure]) (buildSlice_VR hw hs hfl e1 p2 p3)
 case load t x =>
  obtain⟨e1,rfl,rfl⟩:=mk_some h
  obtain⟨rv,r1,r2⟩:=load_VR hw (ev_VR hs x) e1
  exact .of_val (w':=w) hw hs hfl (by simp[execOp,hop,r1]) r2
 case makeMap t r =>
  cases r with
  | some r=>simp at h
  | none =>
   simp only[Option.some.injEq,Out.val.injEq] at h
   obtain⟨rfl,rfl,rfl⟩:=h
   exact .of_op (by simp[execOp,hop]) (makeMap_VR (t:=t) hw hs hfl)
 case lookup t m k ok =>
  obtain⟨e1,rfl,rfl⟩:=mk_some h
  obtain⟨rv,r1,r2⟩:=lookup_VR (P:=P) hw (ev_VR hs m) (ev_VR hs k) e1
  exact .of_val (w':=w) hw hs hfl (by simp[execOp,hop,r1]) r2
 case mapUpdate t m k x =>
  rw[Option.map_eq_some_iff] at h
  obtain⟨st1,h,e⟩:=h
  simp only[Out.val.injEq] at e
  obtain⟨rfl,rfl,rfl⟩:=e
  obtain⟨w',r1,r2,r3,r4⟩:=update_VR (P:=P) hw hs (ev_VR hs m) (ev_VR hs k) (ev_VR hs x) h
  exact⟨undef,w',E,.inr ⟨by simp[execOp,hop,r1],rfl⟩,r2,.tup _ _ rfl (fun k hk=>by simp at hk),r3,r4⟩
 case insert t m k x =>
  rw[Option.map_eq_some_iff] at h
  obtain⟨st1,h,e⟩:=h
  simp only[Out.val.injEq] at e
  obtain⟨rfl,rfl,rfl⟩:=e
  obtain⟨w',r1,r2,r3,r4⟩:=update_VR (P:=P) hw hs (ev_VR hs m) (ev_VR hs k) (ev_VR hs x) h
  exact⟨undef,w',E,.inr ⟨by simp[execOp,hop,r1],rfl⟩,r2,.tup _ _ rfl (fun k hk=>by simp at hk),r3,r4⟩
 case store t x y =>
  cases hst:storeB P s st t (ev s x) (ev s y) with
  | none=>rw[hst] at h;simp at h
  | some pr =>
   obtain⟨s1,st1⟩:=pr
   rw[hst] at h
   simp only[Option.map_some,Option.some.injEq,Out.val.injEq] at h
   obtain⟨rfl,rfl,rfl⟩:=h
   obtain⟨w',E',r1,r2,r3,r4⟩:=(store_VR (P:=P) hw hs (ev_VR hs x) (ev_VR hs y) hst).ex
   exact⟨undef,w',E',.inr ⟨by simp[execOp,hop,r1],rfl⟩,r2,.tup _ _ rfl (fun k hk=>by simp at hk),r3,r4⟩
 case nilCheck x =>
  have hx:=ev_VR hs x
  generalize hcv:ev s x=cv at h hx
  generalize hcc:a.eval x=cc at hx
  cases hx with
  | ptr i off b hi hb =>
   simp only at h
   obtain⟨e1,rfl,rfl⟩:=mk_some h
   simp only[Option.some.injEq] at e1
   subst e1
   exact .of_val (w':=w) hw hs hfl (by simp[execOp,hop,hcc]) (.ptr _ _ _ hi hb)
  | eptr t idx off e b o vs ht hz hcell hrd htok hone hv =>
   simp only at h
   obtain⟨e1,rfl,rfl⟩:=mk_some h
   simp only[Option.some.injEq] at e1
   subst e1
   exact .of_val (w':=w) hw hs hfl (by simp[execOp,hop,hcc]) (.eptr _ _ _ _ _ _ _ ht hz hcell hrd htok hone hv)
  | func fn first cap df dc hy hf hc hvf hvc =>
   cases fn with
   | func f =>
    simp only at h
    obtain⟨e1,rfl,rfl⟩:=mk_some h
    simp only[Option.some.injEq] at e1
    subst e1
    exact .of_val (w':=w) hw hs hfl (by simp[execOp,hop,hcc]) (.func _ _ _ _ _ hy hf hc hvf hvc)
   | _=>simp at h
  | _=>simp at h
 case binOp op t x y yt =>
  obtain⟨e1,rfl,rfl⟩:=mk_some h
  obtain⟨rv,r1,r2⟩:=bin_VR e1 (ev_VR hs x) (ev_VR hs y) rfl
  refine .of_val (w':=w) hw hs hfl ?_ r2
  simp only[execOp,hop]
  rw[Sem.run_bind]
  have r1':(do eqGuard op t x y (a.eval x) (a.eval y);binOp op t (a.eval x) (a.eval y):Sem Value).run P w=.ok rv w:=r1
  rw[r1']
  rfl
 case unOp op t x =>
  have hx:=ev_VR hs x
  generalize hcv:ev s x=cv at h hx
  generalize hcc:a.eval x=cc at hx
  cases op<;>cases hx<;>simp only[reduceCtorEq] at h
  case neg.int k n =>
   obtain⟨e1,rfl,rfl⟩:=mk_some h
   simp only[Option.some.injEq] at e1
   subst e1
   exact .of_val (w':=w) hw hs hfl (by simp[execOp,hop,hcc,Op.unary,Op.intArith]) (.int _ _)
  case not.bool b =>
   obtain⟨e1,rfl,rfl⟩:=mk_some h
   simp only[Option.some.injEq] at e1
   subst e1
   exact .of_val (w':=w) hw hs hfl (by simp[execOp,hop,hcc,Op.unary]) (.bool _)
 case convert x y z =>
  cases hc:convB P x y (ev s z) st with
  | none=>rw[hc] at h;simp[mkS] at h
  | some pr =>
   obtain⟨d,st1⟩:=pr
   rw[hc] at h
   simp only[mkS,Option.map_some,Option.some.injEq,Out.val.injEq] at h
   obtain⟨rfl,rfl,rfl⟩:=h
   exact .of_op (by simp[execOp,hop]) (conv_VR hw hs hfl (ev_VR hs z) hc)
 case makeInterface t x =>
  cases hu:P.underlying t with
  | none=>simp[hu] at h
  | some d =>
   have hh:(∀ms,d≠.interface ms)∧mk s st (some (.iface t (ev s x)))=some (.val v s' st'):=by
    rw[hu] at h
    cases d<;>simp at h ⊢<;>exact h
   obtain⟨e1,rfl,rfl⟩:=mk_some hh.2
   simp only[Option.some.injEq] at e1
   subst e1
   refine .of_val (w':=w) (cv:=.iface t (a.eval x)) hw hs hfl ?_ (.iface _ _ _ (ev_VR hs x))
   have:∀ms,d≠.interface ms:=hh.1
   cases d<;>first | exact absurd rfl (this _) | simp[execOp,hop,Instr.makeInterface,run_underlying hu]
 case makeFunc fn first cap =>
  cases fn with
  | func g =>
   obtain⟨e1,rfl,rfl⟩:=mk_some h
   simp only[Option.some.injEq] at e1
   subst e1
   obtain⟨f1,f2⟩:=evs_VR hs first
   obtain⟨c1,c2⟩:=evs_VR hs cap
   exact .of_val (w':=w) hw hs hfl (by simp[execOp,hop,Instr.makeFunc]) (.func _ _ _ _ _ (fun l h=>by cases h) f1 c1 f2 c2)
  | _=>simp at h
 case makeSlice t l c =>
  have hl:=ev_VR hs l
  have hc:=ev_VR hs c
  generalize hlv:ev s l=lv at h hl
  generalize hcv:ev s c=cv at h hc
  generalize hll:a.eval l=ll at hl
  generalize hcc:a.eval c=cc at hc
  cases hl with
  | int k n =>
   cases hc with
   | int k2 m =>
    cases k<;>cases k2<;>try (simp only[reduceCtorEq] at h;done)
    cases hu:P.underlying t with
    | none=>simp[hu] at h
    | some d =>
     cases d with
     | slice elem =>
      simp only[hu] at h
      cases hb:bytesB P elem with
      | none=>simp[hb] at h
      | some by_ =>
       cases hsz:sizeB P elem with
       | none=>simp[hb,hsz] at h
       | some q0 =>
        cases q0 with
        | zero=>simp[hb,hsz] at h
        | succ q =>
         cases hz:zeroB P elem with
         | none=>simp[hb,hsz,hz] at h
         | some z =>
          simp only[hb,hsz,hz] at h
          split at h
          · rename_i hcond
            obtain⟨c1,c2,c3,c4,c5⟩:=hcond
            simp only[Option.some.injEq,Out.val.injEq] at h
            obtain⟨rfl,rfl,rfl⟩:=h
            exact .of_op (by simp[execOp,hop,hll,hcc]) (makeSlice_VR hw hs hfl hu hb hsz hz c1 c2 c3 c4 c5)
          · simp at h
     | _=>simp[hu] at h
   | _=>cases k<;>simp at h
  | _=>simp at h
 case slice t x lo hi mx =>
  cases mx with
  | some _=>simp at h
  | none =>
   simp only at h
   obtain⟨e1,rfl,rfl⟩:=mk_some h
   obtain⟨rv,r1,r2⟩:=slice_VR (w1:=w) e1 (ev_VR hs x) (opv_VR hs lo) (opv_VR hs hi)
   exact .of_val (w':=w) hw hs hfl (by simp[execOp,hop,r1]) r2
 case fieldAddr t x f =>
  obtain⟨e1,rfl,rfl⟩:=mk_some h
  obtain⟨rv,r1,r2⟩:=fieldAddr_VR (w1:=w) e1 (ev_VR hs x)
  exact .of_val (w':=w) hw hs hfl (by simp[execOp,hop,r1]) r2
 case field t x f =>
  obtain⟨e1,rfl,rfl⟩:=mk_some h
  obtain⟨rv,r1,r2⟩:=field_VR (w1:=w) e1 (ev_VR hs x)
  exact .of_val (w':=w) hw hs hfl (by simp[execOp,hop,r1]) r2
 case indexAddr t x i =>
  have hi:=ev_VR hs i
  generalize hiv:ev s i=iv at h hi
  generalize hii:a.eval i=ii at hi
  cases hi with
  | int k n =>
   simp only at h
   obtain⟨e1,rfl,rfl⟩:=mk_some h
   obtain⟨rv,r1,r2⟩:=indexAddr_VR (w1:=w) (k:=k) e1 (ev_VR hs x)
   exact .of_val (w':=w) hw hs hfl (by simp[execOp,hop,hii,r1]) r2
  | _=>simp at h
 case index t x i =>
  have hi:=ev_VR hs i
  generalize hiv:ev s i=iv at h hi
  generalize hii:a.eval i=ii at hi
  cases hi with
  | int k n =>
   simp only at h
   obtain⟨e1,rfl,rfl⟩:=mk_some h
   obtain⟨rv,r1,r2⟩:=index_VR (w1:=w) (k:=k) e1 (ev_VR hs x)
   exact .of_val (w':=w) hw hs hfl (by simp[execOp,hop,hii,r1]) r2
  | _=>simp at h
 case typeAssert x t0 t ok =>
  have hx:=ev_VR hs x
  generalize hcv:ev s x=cv at h hx
  generalize hcc:a.eval x=cc at hx
  cases hu:P.underlying t with
  | none=>rw[hu] at h;cases hx<;>cases ok<;>simp at h
  | some du =>
   rw[hu] at h
   by_cases hi:∃ms,du=.interface ms
   · obtain⟨ms,rfl⟩:=hi
     cases hx<;>cases ok<;>simp at h
   · have hni:∀ms,du≠.interface ms:=fun ms e=>hi ⟨ms,e⟩
     cases hx with
     | nili =>
      cases ok with
      | false=>cases du<;>simp at h
      | true =>
       have h':mk s st ((zeroB P t).map fun z=>V.tup [z,.bool false])=some (.val v s' st'):=by
        cases du<;>first | exact absurd rfl (hni _) | exact h
       obtain⟨e1,rfl,rfl⟩:=mk_some h'
       cases hz:zeroB P t with
       | none=>rw[hz] at e1;simp at e1
       | some zV =>
        rw[hz] at e1
        simp only[Option.map_some,Option.some.injEq] at e1
        subst e1
        obtain⟨z,hz1,hz2⟩:=zeroB_some hz
        have hzVR:VR E st' w z zV:=by rw[hz1];exact ofVal_VR E st' w 3 z
        refine .of_val (w':=w) (cv:=.tuple #[z,.bool false]) hw hs hfl ?_ ?_
        · cases du<;>first | exact absurd rfl (hni _) | simp[execOp,hop,hcc,Instr.typeAssert,run_underlying hu,hz2]
        · refine .tup _ _ rfl fun k hk=>?_
          match k,hk with
          | 0,_=>exact hzVR
          | 1,_=>exact .bool _
     | iface t' v0 d hd =>
      cases ok with
      | false=>cases du<;>simp at h
      | true =>
       have h':(if t'=t then mk s st (some (.tup [d,.bool true])) else mk s st ((zeroB P t).map fun z=>V.tup [z,.bool false]))=some (.val v s' st'):=by
        cases du<;>first | exact absurd rfl (hni _) | exact h
       split at h'
       · rename_i ht
         subst ht
         obtain⟨e1,rfl,rfl⟩:=mk_some h'
         simp only[Option.some.injEq] at e1
         subst e1
         refine .of_val (w':=w) (cv:=.tuple #[v0,.bool true]) hw hs hfl ?_ ?_
         · cases du<;>first | exact absurd rfl (hni _) | simp[execOp,hop,hcc,Instr.typeAssert,run_underlying hu]
         · refine .tup _ _ rfl fun k hk=>?_
           match k,hk with
           | 0,_=>exact hd
           | 1,_=>exact .bool _
       · rename_i ht
         obtain⟨e1,rfl,rfl⟩:=mk_some h'
         cases hz:zeroB P t with
         | none=>rw[hz] at e1;simp at e1
         | some zV =>
          rw[hz] at e1
          simp only[Option.map_some,Option.some.injEq] at e1
          subst e1
          obtain⟨z,hz1,hz2⟩:=zeroB_some hz
          have hzVR:VR E st' w z zV:=by rw[hz1];exact ofVal_VR E st' w 3 z
          refine .of_val (w':=w) (cv:=.tuple #[z,.bool false]) hw hs hfl ?_ ?_
          · cases du<;>first | exact absurd rfl (hni _) | simp[execOp,hop,hcc,Instr.typeAssert,run_underlying hu,hz2,ht]
          · refine .tup _ _ rfl fun k hk=>?_
            match k,hk with
            | 0,_=>exact hzVR
            | 1,_=>exact .bool _
     | _=>cases du<;>cases ok<;>simp at h
 case extract x i =>
  have hx:=ev_VR hs x
  generalize hcv:ev s x=cv at h hx
  generalize hcc:a.eval x=cc at hx
  cases hx with
  | tup cs ds hl hv =>
   simp only at h
   obtain⟨e1,rfl,rfl⟩:=mk_some h
   have hlt:i<ds.length:=(List.getElem?_eq_some_iff.1 e1).1
   have h1:=hv i hlt
   have e2:ds.getD i .dead=v:=by simp[List.getD_eq_getElem?_getD,e1]
   rw[e2] at h1
   have e3:=getD_of_getElem? (c:=cs) (k:=i) (by omega)
   exact .of_val (w':=w) hw hs hfl (by simp only[execOp,hop,hcc,Instr.extract,e3];rfl) h1
  | _=>simp at h
 case call c =>
  cases hcal:c.callee with
  | invoke r m=>rw[hcal] at h;simp at h
  | value f =>
   rw[hcal] at h
   simp only at h
   split at h
   · split at h<;>simp at h
   · simp at h
   · simp at h
  | builtin b =>
   rw[hcal] at h
   simp only at h
   obtain⟨g1,g2⟩:=evs_VR hs c.args
   have hex:∃cs,(execOp a.eval o).run P w=(builtin b c.argTypes o.type cs (c.args.map a.eval)).run P w :=
    ⟨_,by simp only[execOp,hop,resolve,hcal,invoke,Sem.run_bind,Sem.run_pure,Result.andThen_ok];rfl⟩
   obtain⟨cs,hex⟩:=hex
   exact builtin_VR hw hs hfl g1 g2 h hex
end
end Go.Abs

namespace Go.Abs
open Go
theorem step_same {E:Env} {st st':St} {w:World} (hh:st'.heap=st.heap) (hf:st'.fams=st.fams) (hn:st.ny≤st'.ny:=by exact Nat.le_refl _):Step [] E st w E st' w where
 lp k l h1 h2:=⟨Nat.lt_of_lt_of_le h1 hn,h2⟩
 box i b hi hb:=⟨by rw[hh];exact hi,hb⟩
 cell t b off v _ _ hc:=hc
 rd t b hi _ hb hr:=⟨fun i hi' he=>hr.1 i (by rw[←hh];exact hi') he,fun F f hF he=>hr.2 F f (by rw[←hf];exact hF) he⟩
 tok t off sz a n cap _ _ h:=h.of_rows (fun F f hF=>⟨by rw[hf];exact hF,rfl,rfl⟩) (Nat.le_refl _)
theorem VR.same {E:Env} {st st':St} {w:World} {v:Value} {d:V} (h:VR E st w v d) (hh:st'.heap=st.heap) (hf:st'.fams=st.fams) (hn:st.ny≤st'.ny:=by exact Nat.le_refl _):VR E st' w v d :=
 h.step0 (step_same hh hf hn)
theorem SR.same {E:Env} {st st':St} {w:World} {ts:Array Value} {s:List V} (h:SR E st w ts s) (hh:st'.heap=st.heap) (hf:st'.fams=st.fams) (hn:st.ny≤st'.ny:=by exact Nat.le_refl _):SR E st' w ts s :=
 h.step0 (step_same hh hf hn)
theorem WR.same {E:Env} {st st':St} {w:World} (h:WR E st w) (hh:st'.heap=st.heap) (hf:st'.fams=st.fams) (hn:st.ny≤st'.ny:=by exact Nat.le_refl _):WR E st' w:=by
 have S:=step_same (E:=E) (w:=w) hh hf hn
 refine⟨fun i bx b hi hb=>?_,fun i j b hi hj=>h.inj i j b (by rw[←hh];exact hi) (by rw[←hh];exact hj),fun F f hF=>h.fam F f (by rw[←hf];exact hF),
  fun F i hF hi=>h.famBox F i (by rw[←hf];exact hF) (by rw[←hh];exact hi),fun F G hF hG=>h.famInj F G (by rw[←hf];exact hF) (by rw[←hf];exact hG)⟩
 exact (h.box i bx b (by rw[←hh];exact hi) hb).step0 S rfl
def FW (r:Option Nat):Fence:={ Fence.wide with round:=r }
theorem FW_depth (r:Option Nat) {p:Prop} (h:(FW r).depth.isSome=true):p:=by simp[FW,Fence.wide] at h
theorem callsFW {r:Option Nat} {n:Nat} {P:Program} {f:FuncId} {args:Array Value} {w:World} {R:Ending→World→Prop}:CallsIn (FW r) n P f args w R↔Calls P f args w R :=
 callsIn_wide (n:=n)
def opW (r:Option Nat) (n:Nat) (P:Program) (all:Array Oper) (Q:Exit→Act→World→Prop) (o:Oper) (K:Act→World→Prop) (a:Act) (w:World):Prop :=
 if Region.wanted o (yielded all a.tmps) then o.wpIn (FW r) n P a w K Q else (∀f,o.about P w a.eval=some f→(FW r).fn f)∧K (a.put o.dst undef) w
theorem wpIn_of_run {r:Option Nat} {n:Nat} {P:Program} {o:Oper} {a:Act} {w:World} {K:Act→World→Prop} {Q:Exit→Act→World→Prop} {res:Result Next}
 (hs:∀c,o.op≠.defer c) (hr:(execOp a.eval o).run P w=res) (h:o.uponIn (FW r) n P a K Q res):o.wpIn (FW r) n P a w K Q:=by
 refine⟨fun _ _=>trivial,?_⟩
 have:o.semAt (FW r).round a.eval=execOp a.eval o:=by
  unfold Oper.semAt
  split
  · rename_i c _ hc;exact absurd hc (hs c)
  · rfl
 rw[this,hr]
 exact h
def YS (E:Env) (st:St) (w:World):Prop :=
 ∀y,st.y=some y→∃(l:Nat) (rec:Loop) (E0:Env) (st0:St) (w0:World),y.k<st.ny∧E.lp y.k=some l∧w.heap[l]? = some (.loop rec)∧¬Mut E st l ∧
  rec.state=.ready∧rec.pending=none∧rec.params=y.ps∧rec.assign=y.assign∧rec.body=y.body∧noRange y.assign=true∧noRange y.body=true ∧
  SR E0 st0 w0 rec.tmps y.s0∧st0.kills=[]∧Seg E0 st0 w0 E st w
theorem YS.none {E:Env} {st:St} {w:World} (h:st.y=none):YS E st w:=fun y hy=>by rw[h] at hy;simp at hy
theorem YS.seg {E E':Env} {st st':St} {w w':World} (h:YS E st w) (hs:Seg E st w E' st' w'):YS E' st' w':=by
 intro y hy
 obtain⟨l,rec,E0,st0,w0,h1,h2,h3,h4,h5⟩:=h y (hs.y▸hy)
 obtain⟨g1,g2⟩:=hs.step.lp _ _ h1 h2
 have hl:l<w.heap.size:=(Array.getElem?_eq_some_iff.1 h3).1
 refine⟨l,rec,E0,st0,w0,g1,g2,(hs.keep l hl h4).trans h3,fun hm=>h4 (hs.muts l hl hm),?_⟩
 obtain⟨a1,a2,a3,a4,a5,a6,a7,a8,a9,a10⟩:=h5
 exact⟨a1,a2,a3,a4,a5,a6,a7,a8,a9,a10.trans hs⟩
def SimCall (P:Program) (f:FuncId) (args:List V) (st:St) (v:V) (st':St):Prop :=
 ∀(E:Env) (w:World) (vs:Array Value),WR E st w→YS E st w→st.flo≤st.fams.length→vs.size=args.length →
  (∀k,k<args.length→VR E st w (vs.getD k undef) (args.getD k .dead)) →
  Calls P f vs w fun e w'=>∃cv E',e=.returned cv∧VR E' st' w' cv v∧WR E' st' w'∧Seg E st w E' st' w'
def SimYield (P:Program) (k:Nat) (args:List V) (st:St) (v:V) (st':St):Prop :=
 ∀(E:Env) (w:World) (vs:Array Value),WR E st w→YS E st w→st.flo≤st.fams.length→vs.size=args.length →
  (∀k,k<args.length→VR E st w (vs.getD k undef) (args.getD k .dead)) →
  ∃l rec,E.lp k=some l∧w.heap[l]? = some (.loop rec)∧vs.size=rec.params.size∧∀(r:Option Nat) (n:Nat),
   RoundIn (FW r) n P l rec.fn ((rec.params.zip vs).foldl (fun tmps (t,a)=>tmps.setIfInBounds t a) rec.tmps) rec.assign rec.body w
    fun e w'=>∃cv E',e=.returned cv∧VR E' st' w' cv v∧WR E' st' w'∧Seg E { st with kills:=[],y:=none } w E' st' w'
def CallOK (P:Program) (call:FuncId→List V→St→Option (V×St)):Prop :=
 ∀f args st v st',call f args st=some (v,st')→(f<P.funcs.size→SimCall P f args st v st')∧∀k,f=P.funcs.size+k→SimYield P k args st v st'
theorem wanted_VR {E:Env} {st:St} {w:World} {ts:Array Value} {s:List V} {all:Array Oper} {o:Oper} {b:Bool} (hs:SR E st w ts s) (h:wantedB all s o=some b) :
 Region.wanted o (yielded all ts)=b:=by
 unfold wantedB at h
 unfold Region.wanted
 cases hg:o.guard with
 | none=>rw[hg] at h;simpa using h
 | some gw =>
  obtain⟨j,want⟩:=gw
  rw[hg] at h
  simp only at h ⊢
  cases hd:(all[j]?).bind (·.dst) with
  | none=>rw[hd] at h;simp at h
  | some d =>
   rw[hd] at h
   simp only at h
   cases hx:s[d]? with
   | none=>rw[hx] at h;simp at h
   | some x =>
    have hlt:d<s.length:=(List.getElem?_eq_some_iff.1 hx).1
    have hv:=hs.val d hlt
    have e1:s.getD d .any=x:=by simp[List.getD_eq_getElem?_getD,hx]
    rw[e1] at hv
    have hlt':d<ts.size:=by rw[hs.size];exact hlt
    have e2:ts[d]? = some (ts.getD d undef):=by simp[Array.getD_eq_getD_getElem?,Array.getElem?_eq_getElem hlt']
    have e3:yielded all ts j=match (ts.getD d undef) with | .bool b=>some b | _=>none:=by
     simp only[yielded,hd,Option.bind_some,e2]
     cases ts.getD d undef<;>rfl
    rw[hx] at h
    generalize ts.getD d undef=tv at hv e3
    cases hv with
    | bool c =>
     simp only[Option.some.injEq] at h
     rw[e3]
     subst h
     cases c<;>cases want<;>rfl
    | tup c ds hl hvv =>
     cases ds with
     | nil =>
      simp only[Option.some.injEq] at h
      rw[e3]
      subst h
      cases want<;>rfl
     | cons _ _=>simp at h
    | _=>simp at h
theorem undef_VR (E:Env) (st:St) (w:World):VR E st w undef (.tup []):=.tup #[] [] rfl fun k hk=>by simp at hk
theorem kill_all (s:List V) (ks:List Nat):killAll ks s=V.kills ks s:=by
 cases ks with
 | nil=>simp[killAll,kills_nil]
 | cons a l=>rfl
section
variable {P:Program} {call:FuncId→List V→St→Option (V×St)} {all:Array Oper} {o:Oper} {s s':List V} {st st':St}
 {E:Env} {w:World} {a:Act} {Q:Exit→Act→World→Prop} {K:Act→World→Prop} {r:Option Nat} {n:Nat}
theorem getD_append {α:Type} (x y:Array α) (k:Nat) (d:α):(x++y).getD k d=if k<x.size then x.getD k d else y.getD (k-x.size) d:=by
 simp only[Array.getD_eq_getD_getElem?,Array.getElem?_append]
 split<;>rfl
theorem lgetD_append {α:Type} (x y:List α) (k:Nat) (d:α):(x++y).getD k d=if k<x.length then x.getD k d else y.getD (k-x.length) d:=by
 simp only[List.getD_eq_getElem?_getD,List.getElem?_append]
 split<;>rfl
theorem args3_VR {x y z:Array Value} {dx dy dz:List V} (hx:x.size=dx.length) (hy:y.size=dy.length) (hz:z.size=dz.length)
 (vx:∀k,k<dx.length→VR E st w (x.getD k undef) (dx.getD k .dead)) (vy:∀k,k<dy.length→VR E st w (y.getD k undef) (dy.getD k .dead))
 (vz:∀k,k<dz.length→VR E st w (z.getD k undef) (dz.getD k .dead)) :
 (x++y++z).size=(dx++dy++dz).length∧∀k,k<(dx++dy++dz).length→VR E st w ((x++y++z).getD k undef) ((dx++dy++dz).getD k .dead):=by
 refine⟨by simp[hx,hy,hz],fun k hk=>?_⟩
 rw[getD_append,lgetD_append,getD_append,lgetD_append]
 simp only[List.length_append] at hk
 simp only[Array.size_append,List.length_append,hx,hy]
 split
 · split
   · exact vx k (by assumption)
   · exact vy _ (by omega)
 · exact vz _ (by omega)
theorem aop_call {f:FuncId} {args:List V} (h:aop P s o st=some (.call f args)) :
 (∃c x first cap,o.op=.call c∧c.callee=.value x∧ev s x=.func (.func f) first cap∧callableB P f=true∧args=first++c.args.toList.map (ev s)++cap) ∨
  ∃c x k,o.op=.call c∧c.callee=.value x∧ev s x=.func (.yield k) [] []∧f=P.funcs.size+k∧args=c.args.toList.map (ev s):=by
 have nv:∀(y:Option V),mk s st y=some (.call f args)→False:=by intro y;cases y<;>simp[mk]
 have nv3:∀(y:Option (V×List V×St)),mk3 y=some (.call f args)→False:=by intro y;cases y<;>simp[mk3]
 have nvS:∀(y:Option (V×St)),mkS s y=some (.call f args)→False:=by intro y;cases y<;>simp[mkS]
 unfold aop at h
 cases hop:o.op with
 | call c =>
  rw[hop] at h
  simp only at h
  cases hc:c.callee with
  | invoke r m=>rw[hc] at h;simp at h
  | builtin b =>
   rw[hc] at h
   simp only at h
   exfalso
   have nvM:∀(y:Option (List V×St)),(y.map fun p=>Out.val (.tup []) p.1 p.2)=some (.call f args)→False:=by intro y;cases y<;>simp
   unfold builtinB at h
   split at h<;>repeat (first | exact nv _ h | exact nv3 _ h | exact nvM _ h | contradiction | split at h)
  | value x =>
   rw[hc] at h
   simp only at h
   split at h
   · rename_i g first cap hx
     split at h
     · rename_i hcb
       simp only[Option.some.injEq,Out.call.injEq] at h
       obtain⟨rfl,rfl⟩:=h
       exact .inl ⟨c,x,first,cap,rfl,hc,hx,hcb,rfl⟩
     · simp at h
   · rename_i k hx
     simp only[Option.some.injEq,Out.call.injEq] at h
     obtain⟨rfl,rfl⟩:=h
     exact .inr ⟨c,x,k,rfl,hc,hx,rfl,rfl⟩
   · simp at h
 | _ =>
  exfalso
  rw[hop] at h
  simp only at h
  repeat' (first | exact nv _ h | exact nv3 _ h | exact nvS _ h | contradiction | (cases h;done) | (rw[Option.map_eq_some_iff] at h;obtain⟨_,_,h⟩:=h;cases h;done) | split at h)
theorem aop_defer {out:Out} (h:aop P s o st=some out):∀c,o.op≠.defer c:=by
 intro c hc
 unfold aop at h
 rw[hc] at h
 simp at h
theorem callable_lt {f:FuncId} (h:callableB P f=true):f<P.funcs.size:=by
 unfold callableB at h
 cases hfn:P.funcs[f]? with
 | none=>rw[hfn] at h;simp at h
 | some fn=>exact (Array.getElem?_eq_some_iff.1 hfn).1
theorem op_sim (hC:CallOK P call) (hw:WR E st w) (hY:YS E st w) (hs:SR E st w a.tmps s) (hfl:st.flo≤st.fams.length)
 (h:opRun P call all o s st=some (s',st'))
 (hK:∀a' w' E',a'.defers=a.defers→WR E' st' w'→SR E' st' w' a'.tmps s'→Seg E st w E' st' w'→K a' w') :
 opW r n P all Q o K a w:=by
 unfold opW
 have hput:∀(a:Act) dst v,(a.put dst v).defers=a.defers:=by intro a dst v;cases dst<;>rfl
 unfold opRun at h
 cases hwd:wantedB all s o with
 | none=>rw[hwd] at h;simp at h
 | some b =>
  rw[wanted_VR hs hwd]
  rw[hwd] at h
  cases b with
  | false =>
   simp only[Option.some.injEq,Prod.mk.injEq] at h
   obtain⟨rfl,rfl⟩:=h
   simp only[Bool.false_eq_true,if_false]
   exact⟨fun _ _=>trivial,hK _ _ E (hput _ _ _) hw (hs.put (undef_VR E st w) o.dst a.defers) (.refl _ _ _)⟩
  | true =>
   simp only[if_true]
   simp only at h
   cases ho:aop P s o st with
   | none=>rw[ho] at h;simp at h
   | some out =>
    rw[ho] at h
    cases out with
    | val v s1 st1 =>
     simp only[Option.some.injEq,Prod.mk.injEq] at h
     obtain⟨rfl,rfl⟩:=h
     obtain⟨cv,w',E',hx,h1,h2,h3,h4⟩:=(aop_VR hw hs hfl ho).ex
     rcases hx with hx | ⟨hx,rfl⟩
     · exact wpIn_of_run (aop_defer ho) hx (hK _ _ E' (hput _ _ _) h1 (h3.put h2 o.dst a.defers) h4)
     · exact wpIn_of_run (aop_defer ho) hx (hK _ _ E' (hput _ _ _) h1 (h3.put h2 o.dst a.defers) h4)
    | call f args =>
     simp only at h
     cases hcall:call f args (if P.funcs.size≤f then st else { st with kills:=[],y:=none }) with
     | none=>rw[hcall] at h;simp at h
     | some r1 =>
      obtain⟨v,st1⟩:=r1
      rw[hcall] at h
      simp only[Option.some.injEq,Prod.mk.injEq] at h
      obtain⟨rfl,rfl⟩:=h
      have fin:∀(cv:Value) (E':Env) (w':World),VR E' st1 w' cv v→WR E' st1 w'→Seg E { st with kills:=[],y:=none } w E' st1 w'→K (a.put o.dst cv) w':=by
       intro cv E' w' hv hw' hseg
       have hS:Step st1.kills E st w E' { st1 with kills:=st1.kills++st.kills,y:=st.y } w' :=
        (((step_same (E:=E) (w:=w) (st:=st) (st':={ st with kills:=[],y:=none }) rfl rfl).more (fun F hF=>by simp at hF)).trans (Nat.le_refl _) hseg.step).trans hseg.size
         ((step_same (E:=E') (w:=w') (st:=st1) (st':={ st1 with kills:=st1.kills++st.kills,y:=st.y }) rfl rfl).more (fun F hF=>by simp at hF))
       refine hK _ _ E' (hput _ _ _) (hw'.same rfl rfl) ?_ ?_
       · refine SR.put (st:={ st1 with kills:=st1.kills++st.kills,y:=st.y }) (ts:=a.tmps) ?_ (hv.same rfl rfl) o.dst a.defers
         rw[kill_all]
         exact hs.step hS
       · exact⟨hS.more (fun F hF=>by simp[hF]),hseg.size,hseg.keep,hseg.muts,hseg.lo,hseg.flo,hseg.hlen,hseg.flen,hseg.fams,
          fun F hF=>by simp[hF],hseg.boxE,hseg.quiet,rfl⟩
      rcases aop_call ho with ⟨c,x,first,cap,hop,hc,hx,hcb,rfl⟩ | ⟨c,x,k,hop,hc,hx,rfl,rfl⟩
      · have hlt:=callable_lt hcb
        rw[if_neg (Nat.not_le.2 hlt)] at hcall
        have hxv:=ev_VR hs x
        rw[hx] at hxv
        generalize hxx:a.eval x=xv at hxv
        cases hxv with
        | func _ cf cc _ _ hy hf1 hc1 hf2 hc2 =>
         unfold callableB at hcb
         cases hfn:P.funcs[f]? with
         | none=>rw[hfn] at hcb;simp at hcb
         | some fn =>
          rw[hfn] at hcb
          simp only[Bool.and_eq_true,bne_iff_ne,ne_eq] at hcb
          have hrun:(execOp a.eval o).run P w=.ok (.enter f (cf++c.args.map a.eval++cc)) w:=by
           have hb:fn.body.isNone=false:=by
            have:=hcb.1
            cases hbb:fn.body<;>simp[hbb] at this ⊢
           have hn:=hcb.2
           have hb':¬fn.body=none:=by intro he;rw[he] at hb;simp at hb
           simp[execOp,hop,resolve,hc,hxx,Deferred.ofValue,invoke,callFunc,hfn,hn,hb']
          obtain⟨g1,g2⟩:=evs_VR hs c.args
          obtain⟨k1,k2⟩:=args3_VR hf1 g1 hc1 hf2 g2 hc2
          have hst:∀{v:Value} {d:V},VR E st w v d→VR E { st with kills:=[],y:=none } w v d:=fun h=>h.same rfl rfl
          refine wpIn_of_run (aop_defer ho) hrun ⟨fun hh=>FW_depth r hh,callsFW.2 ?_⟩
          refine Calls.mono ((hC _ _ _ _ _ hcall).1 hlt E w _ (hw.same rfl rfl) (YS.none rfl) hfl k1 (fun k hk=>hst (k2 k hk))) ?_
          rintro e w' ⟨cv,E',rfl,hv,hw',hseg⟩
          exact fin cv E' w' hv hw' hseg
      · rw[if_pos (Nat.le_add_right _ _)] at hcall
        have hxv:=ev_VR hs x
        rw[hx] at hxv
        generalize hxx:a.eval x=xv at hxv
        cases hxv with
        | func _ cf cc _ _ hy hf1 hc1 hf2 hc2=>exact absurd rfl (hy k)
        | yld _ l hk hl =>
         obtain⟨g1,g2⟩:=evs_VR hs c.args
         obtain⟨l',rec,e1,e2,e3,e4⟩:=(hC _ _ _ _ _ hcall).2 k rfl E w _ hw hY hfl g1 g2
         rw[hl] at e1
         cases e1
         have hrun:(execOp a.eval o).run P w=.ok (.round l rec.fn ((rec.params.zip (c.args.map a.eval)).foldl (fun tmps (t,a)=>tmps.setIfInBounds t a) rec.tmps) rec.assign rec.body) w:=by
          have:=run_yield (P:=P) e2 e3
          simpa[execOp,hop,resolve,hc,hxx,Deferred.ofValue,invoke,callFunc] using this
         refine wpIn_of_run (aop_defer ho) hrun ⟨fun hh=>FW_depth r hh,?_⟩
         refine RoundIn.mono (e4 r (n-1)) ?_
         rintro e w' ⟨cv,E',rfl,hv,hw',hseg⟩
         exact fin cv E' w' hv hw' hseg
theorem Seg.flo_le {E E':Env} {st st':St} {w w':World} (h:Seg E st w E' st' w') (hfl:st.flo≤st.fams.length):st'.flo≤st'.fams.length:=by
 rw[h.flo];exact Nat.le_trans hfl h.flen
theorem ops_sim (hC:CallOK P call) (d:Bool):∀(l:List Oper) (E:Env) (w:World) (a:Act) (s s':List V) (st st':St),WR E st w→YS E st w→SR E st w a.tmps s→st.flo≤st.fams.length →
 opsRun P call d all l s st=some (s',st') →
 (∀a' w' E',a'.defers=a.defers→WR E' st' w'→SR E' st' w' a'.tmps s'→Seg E st w E' st' w'→Q .normal a' w') →
 wpListIn (FW r) n P all Q l a w:=by
 intro l
 induction l with
 | nil =>
  intro E w a s s' st st' hw hY hs hfl h hQ
  simp only[opsRun,Option.some.injEq,Prod.mk.injEq] at h
  obtain⟨rfl,rfl⟩:=h
  exact hQ a w E rfl hw hs (.refl _ _ _)
 | cons o l ih =>
  intro E w a s s' st st' hw hY hs hfl h hQ
  unfold opsRun at h
  cases ho:opRun P call all o s st with
  | none=>rw[ho] at h;simp at h
  | some r =>
   obtain⟨s1,st1⟩:=r
   rw[ho] at h
   simp only at h
   split at h
   · simp at h
   refine wpListIn_step fun K hKK=>?_
   refine op_sim hC hw hY hs hfl ho fun a' w' E' hd hw' hs' hseg=>hKK _ _ ?_
   refine ih E' w' a' s1 s' st1 st' hw' (hY.seg hseg) hs' (hseg.flo_le hfl) h fun a2 w2 E2 hd2 hw2 hs2 hseg2=>?_
   exact hQ a2 w2 E2 (hd2.trans hd) hw2 hs2 (hseg.trans hseg2)
end
end Go.Abs

namespace Go.Abs
open Go
section
variable {P:Program} {C:Cfg} {call:FuncId→List V→St→Option (V×St)} {ops:Array Oper} {o q:Oper} {s s' s1:List V} {st st' st1:St} {v:V}
def Alike (ops:Array Oper) (o:Oper) (s s':List V):Prop:=∀t,t∈o.looksAt ops→s[t]? = s'[t]?
theorem Alike.ev (h:Alike ops o s s') {x:Operand} (hx:x∈o.op.operands):ev s x=ev s' x:=by
 cases x with
 | tmp t =>
  have:=h t (List.mem_append_left _ (List.mem_filterMap.2 ⟨.tmp t,by simpa using hx,rfl⟩))
  simp[Abs.ev,List.getD_eq_getElem?_getD,this]
 | _=>rfl
theorem Alike.evs (h:Alike ops o s s') {xs:Array Operand} (hx:∀x∈xs,x∈o.op.operands):xs.toList.map (Abs.ev s)=xs.toList.map (Abs.ev s') :=
 List.map_congr_left fun x hm=>h.ev (hx x (by simpa using hm))
theorem Alike.parts (h:Alike ops o s s') {ps:Array (Nat×Operand)} (hx:∀p∈ps,p.2∈o.op.operands) :
 (ps.toList.map fun p=>(p.1,Abs.ev s p.2))=(ps.toList.map fun p=>(p.1,Abs.ev s' p.2)) :=
 List.map_congr_left fun p hm=>by rw[h.ev (hx p (by simpa using hm))]
theorem Alike.wanted (h:Alike ops o s s'):wantedB ops s o=wantedB ops s' o:=by
 unfold wantedB
 cases hg:o.guard with
 | none=>rfl
 | some gw =>
  obtain⟨j,want⟩:=gw
  simp only
  cases hd:(ops[j]?).bind (·.dst) with
  | none=>rfl
  | some d =>
   have:s[d]? = s'[d]? := h d (by simp[Oper.looksAt,hg,hd])
   simp only[this]
def Out.same (s s':List V) (kl:Nat):Option Out→Option Out→Prop
 | none,none=>True
 | some (.val v s1 st1),some (.val v' s1' st1')=>v=v'∧st1=st1'∧(st1.kills.length=kl→s1=s∧s1'=s')
 | some (.call f args),some (.call f' args')=>f=f'∧args=args'
 | _,_=>False
theorem Out.same_mk (y:Option V) (kl:Nat):Out.same s s' kl (mk s st y) (mk s' st y):=by
 cases y<;>simp[mk,Out.same]
theorem Out.same_mkS (y:Option (V×St)) (kl:Nat):Out.same s s' kl (mkS s y) (mkS s' y):=by
 cases y<;>simp[mkS,Out.same]
theorem store_alike (t:TypeId) (p v:V):Out.same s s' st.kills.length ((storeB P s st t p v).map fun p=>.val (.tup []) p.1 p.2) ((storeB P s' st t p v).map fun p=>.val (.tup []) p.1 p.2):=by
 unfold storeB
 cases v.flat with
 | none=>trivial
 | some vc =>
  simp only
  split
  rotate_left
  · trivial
  cases p with
  | ptr i off =>
   simp only
   split
   rotate_left
   · trivial
   cases st.heap[i]? with
   | none=>trivial
   | some bx =>
    cases bx with
    | mapo es=>trivial
    | cells cs =>
     simp only
     split
     · exact⟨rfl,rfl,fun _=>⟨rfl,rfl⟩⟩
     · trivial
  | eptr tk idx off e =>
   cases tk with
   | own F ep =>
    simp only
    split
    rotate_left
    · trivial
    cases st.fams[F]? with
    | none=>trivial
    | some f =>
     cases e.flat with
     | none=>trivial
     | some ec =>
      simp only
      split
      · exact⟨rfl,rfl,fun h=>by simp at h⟩
      · trivial
   | _=>trivial
  | _=>trivial
theorem append_alike (t:TypeId) (x:V) (szy:Nat) (ys:List V):Out.same s s' st.kills.length (mk3 (appendB P t x szy ys s st)) (mk3 (appendB P t x szy ys s' st)):=by
 have ok:∀(v:V) (st1:St),Out.same s s' st.kills.length (mk3 (some (v,s,st1))) (mk3 (some (v,s',st1))):=fun v st1=>⟨rfl,rfl,fun _=>⟨rfl,rfl⟩⟩
 unfold appendB
 cases P.underlying t with
 | none=>trivial
 | some du =>
  cases du with
  | slice elem =>
   simp only
   cases sizeB P elem with
   | none=>trivial
   | some n =>
    cases n with
    | zero=>trivial
    | succ n =>
     cases bytesB P elem with
     | none=>trivial
     | some b =>
      cases b with
      | zero=>trivial
      | succ b =>
       cases x with
       | list tk off sz xs =>
        simp only
        split
        rotate_left
        · trivial
        cases tk with
        | nil=>simp only;split<;>exact ok _ _
        | clip =>
         simp only
         split
         · split<;>exact ok _ _
         · trivial
        | own F ep =>
         simp only
         split
         rotate_left
         · trivial
         cases st.fams[F]? with
         | none=>trivial
         | some f =>
          simp only
          split
          rotate_left
          · trivial
          split
          · exact ok _ _
          · split
            · exact⟨rfl,rfl,fun h=>by simp at h⟩
            · trivial
        | ro=>trivial
       | _=>trivial
  | _=>trivial
theorem clear_alike (t:TypeId) (x:V):Out.same s s' st.kills.length ((clearB P t x s st).map fun p=>.val (.tup []) p.1 p.2) ((clearB P t x s' st).map fun p=>.val (.tup []) p.1 p.2):=by
 unfold clearB
 split
 · exact⟨rfl,rfl,fun _=>⟨rfl,rfl⟩⟩
 · split
   · split
     · split
       · refine⟨rfl,rfl,fun h=>?_⟩
         simp at h
       · trivial
     · trivial
   · trivial
 · trivial
theorem builtin_alike (b:Builtin) (ts:Array TypeId) (args:List V):Out.same s s' st.kills.length (builtinB P b ts args s st) (builtinB P b ts args s' st):=by
 unfold builtinB
 split
 · cases ts[0]? with
   | none=>trivial
   | some t=>split<;>(try split)<;>first | exact Out.same_mk _ _ | trivial
 · cases ts[0]? with
   | none=>trivial
   | some t=>split<;>(try split)<;>first | exact Out.same_mk _ _ | trivial
 · cases ts[0]? with
   | none=>trivial
   | some t =>
    split
    · exact append_alike _ _ _ _
    · trivial
 · cases ts[0]? with
   | none=>trivial
   | some t=>split<;>(try split)<;>first | exact Out.same_mk _ _ | trivial
 · cases ts[0]? with
   | none=>trivial
   | some t=>split<;>(try split)<;>first | exact Out.same_mk _ _ | trivial
 · cases ts[0]? with
   | none=>trivial
   | some t=>exact clear_alike _ _
 · exact Out.same_mk _ _
 · exact Out.same_mk _ _
 · trivial
theorem aop_alike (h:Alike ops o s s'):Out.same s s' st.kills.length (aop P s o st) (aop P s' o st):=by
 have he:∀x,x∈o.op.operands→ev s x=ev s' x:=fun x hx=>h.ev hx
 unfold aop
 cases hop:o.op with
 | move x=>rw[hop] at he;simp only[he x (by simp[Op.operands])];exact Out.same_mk _ _
 | assign x=>rw[hop] at he;simp only[he x (by simp[Op.operands])];exact Out.same_mk _ _
 | pick c a b =>
  rw[hop] at he
  simp only[he a (by simp[Op.operands]),he b (by simp[Op.operands]),he c (by simp[Op.operands])]
  split<;>first | exact Out.same_mk _ _ | trivial
 | alloc t =>
  simp only
  cases (zeroB P t).bind V.flat with
  | none=>trivial
  | some cs=>exact⟨rfl,rfl,fun _=>⟨rfl,rfl⟩⟩
 | box t x =>
  rw[hop] at he
  simp only[he x (by simp[Op.operands])]
  cases (ev s' x).flat with
  | none=>trivial
  | some cs=>exact⟨rfl,rfl,fun _=>⟨rfl,rfl⟩⟩
 | build t ps =>
  have:=h.parts (ps:=ps) (fun p hp=>by rw[hop];simp only[Op.operands];simp;exact⟨p.1,hp⟩)
  simp only[this]
  exact Out.same_mk _ _
 | buildSlice t n ps =>
  have:=h.parts (ps:=ps) (fun p hp=>by rw[hop];simp only[Op.operands];simp;exact⟨p.1,hp⟩)
  simp only[this]
  exact Out.same_mk _ _
 | load t x=>rw[hop] at he;simp only[he x (by simp[Op.operands])];exact Out.same_mk _ _
 | makeMap t r =>
  cases r with
  | none=>exact⟨rfl,rfl,fun _=>⟨rfl,rfl⟩⟩
  | some r=>trivial
 | lookup t m k ok =>
  rw[hop] at he
  simp only[he m (by simp[Op.operands]),he k (by simp[Op.operands])]
  exact Out.same_mk _ _
 | mapUpdate t m k x =>
  rw[hop] at he
  simp only[he m (by simp[Op.operands]),he k (by simp[Op.operands]),he x (by simp[Op.operands])]
  cases updateK P st t (ev s' m) (ev s' k) (ev s' x) with
  | none=>trivial
  | some st'=>exact⟨rfl,rfl,fun _=>⟨rfl,rfl⟩⟩
 | insert t m k x =>
  rw[hop] at he
  simp only[he m (by simp[Op.operands]),he k (by simp[Op.operands]),he x (by simp[Op.operands])]
  cases updateK P st t (ev s' m) (ev s' k) (ev s' x) with
  | none=>trivial
  | some st'=>exact⟨rfl,rfl,fun _=>⟨rfl,rfl⟩⟩
 | store t x y =>
  rw[hop] at he
  simp only[he x (by simp[Op.operands]),he y (by simp[Op.operands])]
  exact store_alike _ _ _
 | nilCheck x =>
  rw[hop] at he
  simp only[he x (by simp[Op.operands])]
  split<;>first | exact Out.same_mk _ _ | trivial
 | binOp op t x y z =>
  rw[hop] at he
  simp only[he x (by simp[Op.operands]),he y (by simp[Op.operands])]
  exact Out.same_mk _ _
 | unOp op t x =>
  rw[hop] at he
  simp only[he x (by simp[Op.operands])]
  split<;>first | exact Out.same_mk _ _ | trivial
 | convert t u x=>rw[hop] at he;simp only[he x (by simp[Op.operands])];exact Out.same_mkS _ _
 | makeInterface t x =>
  rw[hop] at he
  simp only[he x (by simp[Op.operands])]
  split<;>first | exact Out.same_mk _ _ | trivial
 | makeFunc fn first cap =>
  cases fn<;>first | trivial | skip
  simp only
  rw[h.evs (xs:=first) (fun x hx=>by rw[hop];simp[Op.operands,hx]),h.evs (xs:=cap) (fun x hx=>by rw[hop];simp[Op.operands,hx])]
  exact Out.same_mk _ _
 | makeSlice t x y =>
  rw[hop] at he
  simp only[he x (by simp[Op.operands]),he y (by simp[Op.operands])]
  split
  · split
    · split
      · exact⟨rfl,rfl,fun _=>⟨rfl,rfl⟩⟩
      · trivial
    · trivial
  · trivial
 | slice t x lo hi mx =>
  rw[hop] at he
  cases mx with
  | some m=>trivial
  | none =>
   have e1:lo.map (ev s)=lo.map (ev s'):=by
    cases lo with
    | none=>rfl
    | some l=>simp only[Option.map_some,he l (by simp[Op.operands])]
   have e2:hi.map (ev s)=hi.map (ev s'):=by
    cases hi with
    | none=>rfl
    | some l=>simp only[Option.map_some,he l (by simp[Op.operands])]
   simp only[he x (by simp[Op.operands]),e1,e2]
   exact Out.same_mk _ _
 | fieldAddr t x f=>rw[hop] at he;simp only[he x (by simp[Op.operands])];exact Out.same_mk _ _
 | field t x f=>rw[hop] at he;simp only[he x (by simp[Op.operands])];exact Out.same_mk _ _
 | indexAddr t x y =>
  rw[hop] at he
  simp only[he x (by simp[Op.operands]),he y (by simp[Op.operands])]
  split<;>first | exact Out.same_mk _ _ | trivial
 | index t x y =>
  rw[hop] at he
  simp only[he x (by simp[Op.operands]),he y (by simp[Op.operands])]
  split<;>first | exact Out.same_mk _ _ | trivial
 | typeAssert x t1 t ok =>
  rw[hop] at he
  simp only[he x (by simp[Op.operands])]
  split<;>first | exact Out.same_mk _ _ | trivial | (split<;>exact Out.same_mk _ _)
 | extract x i =>
  rw[hop] at he
  simp only[he x (by simp[Op.operands])]
  split<;>first | exact Out.same_mk _ _ | trivial
 | call c =>
  rw[hop] at he
  simp only
  have ha:=h.evs (xs:=c.args) (fun x hx=>by rw[hop];simp[Op.operands,Call.operands,hx])
  cases hc:c.callee with
  | builtin b=>simp only[ha];exact builtin_alike _ _ _
  | invoke r m=>trivial
  | value f =>
   simp only[ha,he f (by simp[Op.operands,Call.operands,hc])]
   split
   · split
     · exact⟨rfl,rfl⟩
     · trivial
   · exact⟨rfl,rfl⟩
   · trivial
 | _=>trivial
theorem opRun_alike (h:Alike ops o s s') (hr:opRun P call ops o s st=some (s1,st1)) (hk:st1.kills.length=st.kills.length) :
 ∃v,s1=putS s o.dst v∧opRun P call ops o s' st=some (putS s' o.dst v,st1):=by
 unfold opRun at hr ⊢
 rw[←h.wanted]
 cases hw:wantedB ops s o with
 | none=>rw[hw] at hr;simp at hr
 | some b =>
  rw[hw] at hr
  cases b with
  | false =>
   simp only[Option.some.injEq,Prod.mk.injEq] at hr ⊢
   obtain⟨rfl,rfl⟩:=hr
   exact⟨_,rfl,rfl,rfl⟩
  | true =>
   simp only at hr ⊢
   have ha:=aop_alike (P:=P) (st:=st) h
   cases ho:aop P s o st with
   | none=>rw[ho] at hr;simp at hr
   | some out =>
    rw[ho] at hr ha
    cases ho':aop P s' o st with
    | none=>rw[ho'] at ha;cases out<;>exact ha.elim
    | some out' =>
     rw[ho'] at ha
     cases out with
     | val v s2 st2 =>
      cases out' with
      | call _ _=>exact ha.elim
      | val v' s2' st2' =>
       obtain⟨rfl,rfl,hkk⟩:=ha
       simp only[Option.some.injEq,Prod.mk.injEq] at hr ⊢
       obtain⟨rfl,rfl⟩:=hr
       obtain⟨rfl,rfl⟩:=hkk hk
       exact⟨v,rfl,rfl,rfl⟩
     | call f args =>
      cases out' with
      | val _ _ _=>exact ha.elim
      | call f' args' =>
       obtain⟨rfl,rfl⟩:=ha
       simp only at hr ⊢
       cases hc:call f args (if P.funcs.size≤f then st else { st with kills:=[],y:=none }) with
       | none=>rw[hc] at hr;simp at hr
       | some r =>
        obtain⟨v,st2⟩:=r
        rw[hc] at hr
        simp only[Option.some.injEq,Prod.mk.injEq] at hr ⊢
        obtain⟨rfl,rfl⟩:=hr
        have hk0:st2.kills=[]:=by
         simp only[List.length_append] at hk
         exact List.length_eq_zero_iff.1 (by omega)
        rw[hk0]
        exact⟨v,rfl,rfl,rfl⟩
end
end Go.Abs

namespace Go.Abs
open Go
def PureOK (P:Program) (C:Cfg) (call:FuncId→List V→St→Option (V×St)):Prop :=
 ∀f args st v st',f<P.funcs.size→C.keep f=false→call f args st=some (v,st')→st'=st
section
variable {P:Program} {C:Cfg} {call:FuncId→List V→St→Option (V×St)} {ops:Array Oper} {o q:Oper} {s s' s1 s2:List V} {st st' st1 st2:St} {v:V}
theorem aop_cls0 {out:Out} (hc:clsB C P o=0) (h:aop P s o st=some out):∃v,out=.val v s st∧∀st2,aop P s o st2=some (.val v s st2):=by
 have mkv:∀(y:Option V),mk s st y=some out→∃v,out=.val v s st∧∀st2,mk s st2 y=some (.val v s st2):=by
  intro y hy
  cases y with
  | none=>simp[mk] at hy
  | some v=>simp only[mk,Option.map_some,Option.some.injEq] at hy;exact⟨v,hy.symm,fun st2=>rfl⟩
 unfold clsB at hc
 unfold aop at h ⊢
 cases hop:o.op with
 | convert a b x =>
  rw[hop] at h hc
  simp only at h hc ⊢
  unfold convB at h ⊢
  cases ha:P.underlying a with
  | none=>simp[ha,mkS] at h
  | some da =>
   cases hb:P.underlying b with
   | none=>rw[ha,hb] at h;cases da<;>simp[mkS] at h
   | some db =>
    rw[ha,hb] at h
    rw[hb] at hc
    cases db with
    | slice e=>simp at hc
    | int k =>
     cases da<;>cases hx:ev s x<;>rw[hx] at h<;>simp[mkS] at h ⊢
     first | exact⟨_,h.symm,fun _=>rfl⟩ | exact h.symm
    | string =>
     cases da with
     | string=>cases hx:ev s x<;>rw[hx] at h<;>simp[mkS] at h ⊢;first | exact⟨_,h.symm,fun _=>rfl⟩ | exact h.symm
     | slice e =>
      cases hx:ev s x with
      | list t off sz xs =>
       rw[hx] at h
       simp only at h ⊢
       split at h
       · rename_i heq
         try simp only[heq]
         split at h
         · rename_i hcnd
           simp only[hcnd,if_true]
           cases hm:xs.mapM byteB with
           | none=>rw[hm] at h;simp[mkS] at h
           | some m=>rw[hm] at h;simp only[mkS,Option.map_some,Option.some.injEq] at h ⊢;exact⟨_,h.symm,fun _=>rfl⟩
         · simp[mkS] at h
       · simp[mkS] at h
      | _=>rw[hx] at h;simp[mkS] at h
     | _=>cases hx:ev s x<;>rw[hx] at h<;>simp[mkS] at h
    | _=>cases da<;>cases hx:ev s x<;>rw[hx] at h<;>simp[mkS] at h
 | load t x=>rw[hop] at hc;simp at hc
 | call c =>
  rw[hop] at h hc
  simp only at h hc ⊢
  cases hcal:c.callee with
  | invoke r m=>rw[hcal] at h;simp at h
  | value f =>
   rw[hcal] at hc
   exfalso
   try simp only at hc
   split at hc
   · rename_i heq;exact absurd heq (by simp)
   · split at hc<;>simp at hc
   · simp at hc
  | builtin b =>
   rw[hcal] at h hc
   simp only at h hc ⊢
   unfold builtinB at h ⊢
   split at h
   · try simp only
     split at h
     · rename_i heq;(try simp only[heq]);split at h
       · rename_i heq2;(try simp only[heq2]);exact mkv _ h
       · simp at h
     · simp at h
   · try simp only
     split at h
     · rename_i heq;(try simp only[heq]);split at h
       · rename_i heq2;(try simp only[heq2]);exact mkv _ h
       · simp at h
     · simp at h
   · simp at hc
   · try simp only
     split at h
     · rename_i heq;(try simp only[heq]);split at h
       · rename_i heq2;(try simp only[heq2]);exact mkv _ h
       · simp at h
     · simp at h
   · try simp only
     split at h
     · rename_i heq;(try simp only[heq]);split at h
       · rename_i heq2;(try simp only[heq2]);exact mkv _ h
       · simp at h
     · simp at h
   · simp at hc
   · exact mkv _ h
   · exact mkv _ h
   · simp at h
 | pick c a b =>
  rw[hop] at h
  simp only at h ⊢
  split at h
  · exact mkv _ h
  · exact mkv _ h
  · simp at h
 | nilCheck x =>
  rw[hop] at h
  simp only at h ⊢
  split at h
  · exact mkv _ h
  · exact mkv _ h
  · exact mkv _ h
  · simp at h
 | unOp op t x =>
  rw[hop] at h
  simp only at h ⊢
  split at h
  · exact mkv _ h
  · exact mkv _ h
  · simp at h
 | makeInterface t x =>
  rw[hop] at h
  simp only at h ⊢
  split at h
  · simp at h
  · exact mkv _ h
  · simp at h
 | slice t x lo hi mx =>
  rw[hop] at h
  cases mx with
  | some m=>simp at h
  | none=>simp only at h ⊢;exact mkv _ h
 | indexAddr t x y =>
  rw[hop] at h
  simp only at h ⊢
  split at h
  · exact mkv _ h
  · simp at h
 | index t x y =>
  rw[hop] at h
  simp only at h ⊢
  split at h
  · exact mkv _ h
  · simp at h
 | typeAssert x t1 t ok =>
  rw[hop] at h
  simp only at h ⊢
  split at h
  · simp at h
  · simp at h
  · exact mkv _ h
  · split at h
    · rename_i hh;simp only[hh,if_true];exact mkv _ h
    · rename_i hh;simp only[hh,if_false];exact mkv _ h
  · simp at h
 | extract x i =>
  rw[hop] at h
  simp only at h ⊢
  split at h
  · exact mkv _ h
  · simp at h
 | makeFunc fn first cap =>
  rw[hop] at h
  cases fn<;>first | exact mkv _ h | (simp at h;done)
 | _=>rw[hop] at h hc;first | (simp at hc;done) | exact mkv _ h | (simp at h;done)
theorem opRun_cls0 (hc:clsB C P o=0) (h:opRun P call ops o s st=some (s1,st1)):st1=st∧∀st2,opRun P call ops o s st2=some (s1,st2):=by
 unfold opRun at h ⊢
 cases hw:wantedB ops s o with
 | none=>rw[hw] at h;simp at h
 | some b =>
  rw[hw] at h
  cases b with
  | false =>
   simp only[Option.some.injEq,Prod.mk.injEq] at h ⊢
   exact⟨h.2.symm,fun _=>by simp[h.1]⟩
  | true =>
   simp only at h ⊢
   cases ho:aop P s o st with
   | none=>rw[ho] at h;simp at h
   | some out =>
    obtain⟨v,rfl,hall⟩:=aop_cls0 hc ho
    rw[ho] at h
    simp only[Option.some.injEq,Prod.mk.injEq] at h
    exact⟨h.2.symm,fun st2=>by rw[hall st2];simp only[h.1]⟩
theorem opRun_cls1 (hp:PureOK P C call) (hc:clsB C P o=1) (h:opRun P call ops o s st=some (s1,st1)):st1=st:=by
 unfold opRun at h
 cases hw:wantedB ops s o with
 | none=>rw[hw] at h;simp at h
 | some b =>
  rw[hw] at h
  cases b with
  | false=>simp only[Option.some.injEq,Prod.mk.injEq] at h;exact h.2.symm
  | true =>
   simp only at h
   unfold clsB at hc
   cases hop:o.op with
   | load t x =>
    unfold aop at h
    rw[hop] at h
    simp only at h
    cases hl:loadB P st t (ev s x) with
    | none=>rw[hl] at h;simp[mk] at h
    | some v=>rw[hl] at h;simp[mk] at h;exact h.2.symm
   | call c =>
    rw[hop] at hc
    simp only at hc
    cases hcal:c.callee with
    | invoke r m=>rw[hcal] at hc;simp at hc
    | builtin b=>rw[hcal] at hc;cases b<;>simp at hc
    | value x =>
     rw[hcal] at hc
     try simp only at hc
     split at hc
     · rename_i heq;exact absurd heq (by simp)
     · rename_i f heq
       simp only[Callee.value.injEq] at heq
       subst heq
       split at hc
       · simp at hc
       rename_i hke
       simp only[Bool.not_eq_true] at hke
       cases ho:aop P s o st with
       | none=>rw[ho] at h;simp at h
       | some out =>
        rw[ho] at h
        cases out with
        | val v s2 st2 =>
         exfalso
         unfold aop at ho
         rw[hop] at ho
         simp only[hcal,ev] at ho
         split at ho<;>simp at ho
        | call g args =>
         obtain⟨c',x,first,cap,hop',hc',hx,hcb,_⟩:∃c' x first cap,o.op=.call c'∧c'.callee=.value x∧ev s x=.func (.func g) first cap∧callableB P g=true∧args=first++c'.args.toList.map (ev s)++cap:=by
          rcases aop_call ho with h | ⟨c',x,k,hop',hc',hx,_,_⟩
          · exact h
          · exfalso
            rw[hop] at hop'
            injection hop' with hop'
            subst hop'
            rw[hcal] at hc'
            injection hc' with hc'
            subst hc'
            simp[ev] at hx
         rw[hop] at hop'
         injection hop' with hop'
         subst hop'
         rw[hcal] at hc'
         injection hc' with hc'
         subst hc'
         simp only[ev,V.func.injEq,Fn.func.injEq] at hx
         obtain⟨rfl,_⟩:=hx
         simp only at h
         have hlt:=callable_lt hcb
         rw[if_neg (Nat.not_le.2 hlt)] at h
         cases hcall:call f args { st with kills:=[],y:=none } with
         | none=>rw[hcall] at h;simp at h
         | some r =>
          obtain⟨v,st2⟩:=r
          rw[hcall] at h
          have:=hp _ _ _ _ _ hlt hke hcall
          subst this
          simp only[Option.some.injEq,Prod.mk.injEq,List.nil_append] at h
          exact h.2.symm
     · simp at hc
   | convert a b x=>rw[hop] at hc;simp only at hc;split at hc<;>simp at hc
   | _=>rw[hop] at hc;simp at hc
end
end Go.Abs
