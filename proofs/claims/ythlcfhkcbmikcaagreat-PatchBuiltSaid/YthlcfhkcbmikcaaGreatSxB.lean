/- Part of a proof. -/
import Derived.Test.YthlcfhkcbmikcaaGreatSxA
import Derived.Carry
import Derived.OpenShut
import Derived.WideShapes
import Derived.ChangeMaps5
import Derived.Deep.Slices
import Derived.Test.YthlcfhkcbmikcaaGreatAbsD
import Derived.RowKit
set_option linter.unusedSimpArgs false
set_option linter.unusedVariables false
set_option linter.unusedSectionVars false
namespace Go.Abs
open Go
def GE.row (E:GE) (n:Nat) (c:Option Nat):GE:={ E with chi:=fun i=>if i=n then c else E.chi i }
section
variable {E E':GE} {ss ss':SS} {st st':St} {P:Program} {ρ:Type} {r:ρ}
theorem row_at (E:GE) (n:Nat) (c:Option Nat):(E.row n c).chi n=c:=by simp[GE.row]
theorem row_ne (E:GE) {n i:Nat} (c:Option Nat) (h:i≠n):(E.row n c).chi i=E.chi i:=by simp[GE.row,h]
theorem row_change (hX:XR E ss st) {f:Nat} {q:SRow} (hq:ss.rows[f]? = some q) {c:Option Nat} {fams':List Fam}
 (hc:c=E.chi f∨E.chi f=none) (hlen:st.fams.length≤fams'.length) (hf:∀(G:Nat) (g:Fam),st.fams[G]? = some g→E.chi f≠some G→fams'[G]? = some g)
 (hn:∀F,c=some F→(E.chi f=some F∨F=st.fams.length)∧∃g,fams'[F]? = some g∧st.flo≤F∧g.sz=q.T.size∧g.ty=q.ty∧(q.wr=true→g.wr=true)∧g.wr=q.made∧(g.wr=false→0<g.tip)) :
 XR (E.row f c) { ss with rows:=ss.rows.set f { q with cur:=q.cur+1 } } { st with fams:=fams' } ∧
  Tr E ss st (E.row f c) { ss with rows:=ss.rows.set f { q with cur:=q.cur+1 } } { st with fams:=fams' }:=by
 have hfl:f<ss.rows.length:=(List.getElem?_eq_some_iff.1 hq).1
 have hget:∀(i:Nat) (r:SRow),(ss.rows.set f { q with cur:=q.cur+1 })[i]? = some r→(i=f∧r={ q with cur:=q.cur+1 })∨(i≠f∧ss.rows[i]? = some r):=by
  intro i r h
  rw[List.getElem?_set] at h
  split at h
  · rename_i he
    cases h;exact .inl ⟨he.symm,rfl⟩
  · rename_i he;exact .inr ⟨fun e=>he e.symm,h⟩
 have tr:Tr E ss st (E.row f c) { ss with rows:=ss.rows.set f { q with cur:=q.cur+1 } } { st with fams:=fams' }:=by
  refine⟨rfl,rfl,rfl,hlen,Nat.le_refl _,Nat.le_refl _,fun _ _=>rfl,fun F hw=>?_,fun i r hr=>?_,fun _ h=>.inl h,fun i r F h1 h3=>?_,⟨rfl,rfl,rfl⟩⟩
  rotate_left 2
  · rcases hget i r h1 with ⟨rfl,rfl⟩ | ⟨hi,h1⟩
    · have h3':c=some F:=(row_at E i c).symm.trans h3
      rcases (hn F h3').1 with h | h
      · exact .inl ⟨q,hq,h⟩
      · exact .inr (Nat.le_of_eq h.symm)
    · exact .inl ⟨r,h1,(row_ne E c hi).symm.trans h3⟩
  · obtain⟨i,r,h1,h2,h3⟩:=hw
    rcases hget i r h1 with ⟨rfl,rfl⟩ | ⟨hi,h1⟩
    · have h3':c=some F:=(row_at E i c).symm.trans h3
      rcases (hn F h3').1 with hc | hc
      · exact .inl ⟨i,q,hq,h2,hc⟩
      · exact .inr (Nat.le_of_eq hc.symm)
    · exact .inl ⟨i,r,h1,h2,(row_ne E c hi).symm.trans h3⟩
  · by_cases hi:i=f
    · subst hi
      rw[hq] at hr;cases hr
      refine⟨{ q with cur:=q.cur+1 },by simp[hfl],rfl,by simp,?_,fun h=>by simp at h⟩
      rw[row_at]
      rcases hc with hc | hc
      · exact .inl hc
      · exact .inr ⟨hc,by simp⟩
    · refine⟨r,by rw[List.getElem?_set,if_neg (fun e=>hi e.symm)];exact hr,rfl,Nat.le_refl _,.inl (row_ne E c hi),fun _ F g hF hg=>⟨g,hf F g hg ?_,rfl,rfl⟩⟩
      intro e
      exact hi (hX.I.inj i f r q F hr hq hF e)
 refine⟨hX.fams rfl tr ?_ ?_,tr⟩
 · refine⟨fun i r F hr hF=>?_,fun i j r r' F h1 h2 h3 h4=>?_,fun i r hr hF=>?_,fun i r hr hF=>?_,hX.I.nlo,Nat.le_trans hX.I.flo hlen⟩
   · rcases hget i r hr with ⟨rfl,rfl⟩ | ⟨hi,h1⟩
     · have h3':c=some F:=(row_at E i c).symm.trans hF
       obtain⟨_,g,e1,e2,e3,e4,e5⟩:=hn F h3'
       exact⟨g,e1,e2,e3,e4,e5⟩
     · have hF':E.chi i=some F:=(row_ne E c hi).symm.trans hF
       obtain⟨g,e1,e2,e3,e4,e5⟩:=hX.I.rows i r F h1 hF'
       refine⟨g,hf F g e1 ?_,e2,e3,e4,e5⟩
       intro e
       exact hi (hX.I.inj i f r q F h1 hq hF' e)
   · have key:∀i r,(ss.rows.set f { q with cur:=q.cur+1 })[i]? = some r→(E.row f c).chi i=some F→(i=f∧c=some F)∨(i≠f∧ss.rows[i]? = some r∧E.chi i=some F):=by
      intro i r h1 h3
      rcases hget i r h1 with ⟨rfl,rfl⟩ | ⟨hi,h1⟩
      · exact .inl ⟨rfl,(row_at E i c).symm.trans h3⟩
      · exact .inr ⟨hi,h1,(row_ne E c hi).symm.trans h3⟩
     have clash:∀i r,i≠f→ss.rows[i]? = some r→E.chi i=some F→c=some F→False:=by
      intro i r hi h1 h3 hc'
      obtain⟨h,_⟩:=hn F hc'
      rcases h with h | h
      · exact hi (hX.I.inj i f r q F h1 hq h3 h)
      · obtain⟨g,e1,_⟩:=hX.I.rows i r F h1 h3
        have:=(List.getElem?_eq_some_iff.1 e1).1
        simp only[GE.X] at this
        omega
     rcases key i r h1 h3 with ⟨a1,a2⟩ | ⟨a1,a2,a3⟩<;>rcases key j r' h2 h4 with ⟨b1,b2⟩ | ⟨b1,b2,b3⟩
     · omega
     · exact (clash j r' b1 b2 b3 a2).elim
     · exact (clash i r a1 a2 a3 b2).elim
     · exact hX.I.inj i j r r' F a2 b2 a3 b3
   · rcases hget i r hr with ⟨rfl,rfl⟩ | ⟨hi,h1⟩
     · have h3':c=none:=(row_at E i c).symm.trans hF
       rcases hc with hc | hc
       · exact hX.I.nwr i q hq (hc.symm.trans h3')
       · exact hX.I.nwr i q hq hc
     · exact hX.I.nwr i r h1 ((row_ne E c hi).symm.trans hF)
   · rcases hget i r hr with ⟨rfl,rfl⟩ | ⟨hi,h1⟩
     · have h3':c=none:=(row_at E i c).symm.trans hF
       rcases hc with hc | hc
       · exact hX.I.nmk i q hq (hc.symm.trans h3')
       · exact hX.I.nmk i q hq hc
     · exact hX.I.nmk i r h1 ((row_ne E c hi).symm.trans hF)
 · intro F hF i r hr hc'
   rcases hget i r hr with ⟨rfl,rfl⟩ | ⟨hi,h1⟩
   · have h3':c=some F:=(row_at E i c).symm.trans hc'
     obtain⟨h,_⟩:=hn F h3'
     rcases h with h | h
     · exact (hX.kill F hF).2 i q hq h
     · have:=(hX.kill F hF).1;omega
   · exact (hX.kill F hF).2 i r h1 ((row_ne E c hi).symm.trans hc')
theorem row_new (hX:XR E ss st) {T:Ty} {ty:TypeId} {wr:Bool} {c:Option Nat} {fams':List Fam}
 (hlen:st.fams.length≤fams'.length) (hf:∀(G:Nat) (g:Fam),st.fams[G]? = some g→fams'[G]? = some g)
 (hn:∀F,c=some F→F=st.fams.length∧∃g,fams'[F]? = some g∧g.sz=T.size∧g.ty=ty∧g.wr=wr∧(g.wr=false→0<g.tip)) (hw:c=none→wr=nbT T) :
 XR (E.row ss.rows.length c) (ss.newRow T ty wr) { st with fams:=fams' }∧Tr E ss st (E.row ss.rows.length c) (ss.newRow T ty wr) { st with fams:=fams' }:=by
 have hget:∀(i:Nat) (r:SRow),(ss.rows++[⟨0,T,ty,wr,wr⟩])[i]? = some r→(i=ss.rows.length∧r=⟨0,T,ty,wr,wr⟩)∨(i<ss.rows.length∧ss.rows[i]? = some r):=by
  intro i r h
  by_cases hi:i<ss.rows.length
  · exact .inr ⟨hi,by rwa [List.getElem?_append_left hi] at h⟩
  · have:i=ss.rows.length:=by
     have:=(List.getElem?_eq_some_iff.1 h).1
     simp at this;omega
    subst this
    simp at h
    exact .inl ⟨rfl,h.symm⟩
 have hlt:∀(i:Nat) (r:SRow),ss.rows[i]? = some r→i<ss.rows.length:=fun i r h=>(List.getElem?_eq_some_iff.1 h).1
 have tr:Tr E ss st (E.row ss.rows.length c) { ss with rows:=ss.rows++[⟨0,T,ty,wr,wr⟩] } { st with fams:=fams' }:=by
  refine⟨rfl,rfl,rfl,hlen,Nat.le_refl _,Nat.le_refl _,fun _ _=>rfl,fun F hw=>?_,fun i r hr=>?_,fun _ h=>.inl h,fun i r F h1 h3=>?_,⟨rfl,rfl,rfl⟩⟩
  rotate_left 2
  · rcases hget i r h1 with ⟨rfl,rfl⟩ | ⟨hi,h1⟩
    · have h3':c=some F:=(row_at E ss.rows.length c).symm.trans h3
      exact .inr (Nat.le_of_eq (hn F h3').1.symm)
    · exact .inl ⟨r,h1,(row_ne E c (Nat.ne_of_lt hi)).symm.trans h3⟩
  · obtain⟨i,r,h1,h2,h3⟩:=hw
    rcases hget i r h1 with ⟨rfl,rfl⟩ | ⟨hi,h1⟩
    · have h3':c=some F:=(row_at E ss.rows.length c).symm.trans h3
      exact .inr (Nat.le_of_eq (hn F h3').1.symm)
    · exact .inl ⟨i,r,h1,h2,(row_ne E c (Nat.ne_of_lt hi)).symm.trans h3⟩
  · have hi:=hlt i r hr
    exact⟨r,by rw[List.getElem?_append_left hi];exact hr,rfl,Nat.le_refl _,.inl (row_ne E c (Nat.ne_of_lt hi)),fun _ F g _ hg=>⟨g,hf F g hg,rfl,rfl⟩⟩
 refine⟨hX.fams rfl tr ?_ ?_,tr⟩
 · refine⟨fun i r F hr hF=>?_,fun i j r r' F h1 h2 h3 h4=>?_,fun i r hr hF=>?_,fun i r hr hF=>?_,hX.I.nlo,Nat.le_trans hX.I.flo hlen⟩
   · rcases hget i r hr with ⟨rfl,rfl⟩ | ⟨hi,h1⟩
     · have h3':c=some F:=(row_at E ss.rows.length c).symm.trans hF
       obtain⟨e0,g,e1,e3,e4,e5⟩:=hn F h3'
       exact⟨g,e1,by rw[e0];exact hX.I.flo,e3,e4,fun hw=>by rw[e5.1];exact hw,e5.1,e5.2⟩
     · obtain⟨g,e1,e2,e3,e4,e5⟩:=hX.I.rows i r F h1 ((row_ne E c (Nat.ne_of_lt hi)).symm.trans hF)
       exact⟨g,hf F g e1,e2,e3,e4,e5⟩
   · have key:∀i r,(ss.rows++[⟨0,T,ty,wr,wr⟩])[i]? = some r→(E.row ss.rows.length c).chi i=some F→(i=ss.rows.length∧c=some F)∨(i<ss.rows.length∧ss.rows[i]? = some r∧E.chi i=some F):=by
      intro i r h1 h3
      rcases hget i r h1 with ⟨rfl,rfl⟩ | ⟨hi,h1⟩
      · exact .inl ⟨rfl,(row_at E ss.rows.length c).symm.trans h3⟩
      · exact .inr ⟨hi,h1,(row_ne E c (Nat.ne_of_lt hi)).symm.trans h3⟩
     have clash:∀i r,ss.rows[i]? = some r→E.chi i=some F→c=some F→False:=by
      intro i r h1 h3 hc'
      obtain⟨h,_⟩:=hn F hc'
      obtain⟨g,e1,_⟩:=hX.I.rows i r F h1 h3
      have:=(List.getElem?_eq_some_iff.1 e1).1
      simp only[GE.X] at this
      omega
     rcases key i r h1 h3 with ⟨a1,a2⟩ | ⟨a1,a2,a3⟩<;>rcases key j r' h2 h4 with ⟨b1,b2⟩ | ⟨b1,b2,b3⟩
     · omega
     · exact (clash j r' b2 b3 a2).elim
     · exact (clash i r a2 a3 b2).elim
     · exact hX.I.inj i j r r' F a2 b2 a3 b3
   · rcases hget i r hr with ⟨rfl,rfl⟩ | ⟨hi,h1⟩
     · exact fun h=>h
     · exact hX.I.nwr i r h1 ((row_ne E c (Nat.ne_of_lt hi)).symm.trans hF)
   · rcases hget i r hr with ⟨rfl,rfl⟩ | ⟨hi,h1⟩
     · exact hw ((row_at E ss.rows.length c).symm.trans hF)
     · exact hX.I.nmk i r h1 ((row_ne E c (Nat.ne_of_lt hi)).symm.trans hF)
 · intro F hF i r hr hc'
   rcases hget i r hr with ⟨rfl,rfl⟩ | ⟨hi,h1⟩
   · have h3':c=some F:=(row_at E ss.rows.length c).symm.trans hc'
     have:=(hn F h3').1
     have:=(hX.kill F hF).1;omega
   · exact (hX.kill F hF).2 i r h1 ((row_ne E c (Nat.ne_of_lt hi)).symm.trans hc')
theorem getElem?_app_old {α:Type} {l:List α} {x:α} {i:Nat} {a:α} (h:l[i]? = some a):(l++[x])[i]? = some a:=by
 rw[List.getElem?_append_left (List.getElem?_eq_some_iff.1 h).1];exact h
theorem Rel.newList {T:Ty} {ty:TypeId} {wr:Bool} {l:List T.den} {xs:List V} {X:XC} {f F:Nat} {g:Fam} (hr:X.rows[f]? = some ⟨0,T,ty,wr,wr⟩) (hc:X.chi f=some F) (hg:X.fams[F]? = some g) (he:g.ep=0) (ht:g.tip=l.length) {q:Nat} (hqs:q=T.size)
 (h:All2 (ERe X.np T) l xs):Rel X (.list T (.own f 0 true true) l) (.list (.own F 0) 0 q xs) :=
 ⟨_,_,_,_,rfl,⟨fun _=>rfl,_,hr,rfl,Nat.le_refl _,.inr ⟨F,0,rfl,hqs,hc,fun _=>⟨g,hg,he.symm,fun _=>by rw[ht];omega⟩⟩⟩,h⟩
theorem wrOf_ty {elem:TypeId} {T:Ty} {d:Nat} (h:tyOf P d elem=some T):wrOf P elem=nbT T:=by
 cases d with
 | zero=>simp[tyOf] at h
 | succ d =>
  unfold tyOf at h
  unfold wrOf
  split at h
  · rename_i k hk
    simp only[Option.some.injEq] at h;subst h
    rw[hk]
    cases k<;>rfl
  · rename_i hk;simp only[Option.some.injEq] at h;subst h;rw[hk];rfl
  · rename_i hk;simp only[Option.some.injEq] at h;subst h;rw[hk];rfl
  · rename_i e hk;obtain⟨a,_,rfl⟩:=Option.map_eq_some_iff.1 h;rw[hk];rfl
  · rename_i fs hk;obtain⟨a,_,rfl⟩:=Option.map_eq_some_iff.1 h;rw[hk];rfl
  · rename_i m e hk;obtain⟨a,_,rfl⟩:=Option.map_eq_some_iff.1 h;rw[hk];rfl
  · simp at h
theorem stay_kill {X:XC} {f:Nat} {q:SRow} (I:XI X) (hq:X.rows[f]? = some q) {ks:List Nat} (hks:∀F∈ks,q.wr=true∧X.chi f=some F):Stay X X [f] ks where
 np _ h:=h
 dead F h:=I.w_np ⟨f,q,hq,(hks F h).1,(hks F h).2⟩
 nb:=Nat.le_refl _
 mu _ _:=rfl
 rows g r hr _:=⟨r,hr,rfl,Nat.le_refl _,.inl rfl,fun _ F g' _ hg=>⟨g',hg,rfl,rfl⟩⟩
 kill g r F hr hF hn hm:=hn (by simp[I.inj g f r q F hr hq hF (hks F hm).2])
 yk:=rfl
theorem kill_heap_nil (h:List Box):killHeap [] h=h:=by
 unfold killHeap
 conv=>rhs;rw[←List.map_id h]
 refine List.map_congr_left fun b _=>?_
 cases b with
 | cells t cs=>simp[kills_nil]
 | mapo es =>
  simp only[kill_nil,id]
  congr 1
  conv=>rhs;rw[←List.map_id es]
  rfl
theorem XR.killf (hX:XR E ss st) {f:Nat} {ks:List Nat} (hks:∀F∈ks,(E.X ss st).W F∧E.chi f=some F∧F<st.fams.length) (hS:Stay (E.X ss st) (E.X ss st) [f] ks) :
 XR E { ss with boxes:=ss.boxes.map (skillBox [f]),kills:=f::ss.kills } { st with heap:=killHeap ks st.heap,kills:=ks++st.kills } ∧
  Tr E ss st E { ss with boxes:=ss.boxes.map (skillBox [f]),kills:=f::ss.kills } { st with heap:=killHeap ks st.heap,kills:=ks++st.kills }:=by
 have hXe:E.X { ss with boxes:=ss.boxes.map (skillBox [f]),kills:=f::ss.kills } { st with heap:=killHeap ks st.heap,kills:=ks++st.kills }=E.X ss st:=by simp[GE.X]
 have hlive:∀b:SBox,(skillBox [f] b).live=b.live:=fun b=>by cases b<;>rfl
 have hin:∀{T:Ty} {x:T.den} {v:V},ERe (E.X ss st).np T x v→V.kill ks v=v:=fun hv=>ERe.fix (inert_kill hS.dead) hv
 constructor
 · refine⟨by rw[hXe];exact hX.I,fun i b hb=>?_,fun i j b b' a1 a2 a3 a4 a5=>?_,by have:=hX.lo;simpa[killHeap] using this,fun F hF=>?_,by simp⟩
   · rw[hXe]
     simp only[List.getElem?_map,Option.map_eq_some_iff] at hb
     obtain⟨b0,hb0,rfl⟩:=hb
     have:=hX.box i b0 hb0
     cases b0 with
     | gone=>trivial
     | cells t w cs =>
      obtain⟨vs,k1,k2,k3⟩:=this
      exact⟨_,by simp[killHeap,k1],k2.stay hS,k3⟩
     | mapo K T w es =>
      obtain⟨vs,k1,k2,k3⟩:=this
      refine⟨vs,?_,k2,k3⟩
      have e:vs.map (fun x=>(V.kill ks x.1,V.kill ks x.2))=vs:=k2.fix fun p q r=>by rw[hin r.1,hin r.2]
      simp only[killHeap,List.getElem?_map,k1,Option.map_some]
      rw[e]
   · simp only[List.getElem?_map,Option.map_eq_some_iff] at a1 a3
     obtain⟨b1,c1,rfl⟩:=a1
     obtain⟨b2,c2,rfl⟩:=a3
     rw[hlive] at a2 a4
     exact hX.binj i j b1 b2 c1 a2 c2 a4 a5
   · simp only[List.mem_append] at hF
     rcases hF with hF | hF
     · obtain⟨h1,h2,h3⟩:=hks F hF
       refine⟨h3,fun g r hr hc=>?_⟩
       obtain⟨f',r',h4,_,h6⟩:=h1
       have e1:=hX.I.inj f' g r' r F h4 hr h6 hc
       by_cases hfg:g=f
       · simp[hfg]
       · exact (hS.kill g r F hr hc (by simpa using hfg) hF).elim
     · obtain⟨h1,h2⟩:=hX.kill F hF
       exact⟨h1,fun g r hr hc=>List.mem_cons_of_mem _ (h2 g r hr hc)⟩
 · refine⟨rfl,rfl,rfl,Nat.le_refl _,by simp[killHeap],by simp,fun _ _=>rfl,fun F h=>?_,fun g r hr=>⟨r,hr,rfl,Nat.le_refl _,.inl rfl,fun _ F g' _ hg=>⟨g',hg,rfl,rfl⟩⟩,fun F hF=>?_,fun g r F h1 h2=>.inl ⟨r,h1,h2⟩,⟨rfl,rfl,rfl⟩⟩
   · exact .inl (by rw[hXe] at h;exact h)
   · simp only[List.mem_append] at hF
     rcases hF with hF | hF
     · exact .inr (.inl (hks F hF).1)
     · exact .inl hF
theorem sappend_rel (hX:XR E ss st) {s:List SV} {S:List V} (hs:RelL (E.X ss st) s S) {t elem:TypeId} {T:Ty} {n b szy:Nat} {x:SV} {v:V} {ys:List T.den} {yl:List V} {K:SV→List SV→SS→Option ρ}
 (hu:P.underlying t=some (.slice elem)) (h1:sizeB P elem=some (n+1)) (h2:bytesB P elem=some (b+1)) (hT:T.size=n+1) (hz:((zeroB P elem).bind V.flat).map List.length=some (n+1))
 (hx:Rel (E.X ss st) x v) (hy:All2 (ERe (E.X ss st).np T) ys yl) (hsy:szy=n+1∨ys=[]) (hwt:wrOf P elem=nbT T) (h:sappend P elem T (b+1) x ys s ss K=some r) :
 ∃E' z ss' u st' s' S',appendB P t v szy yl S st=some (u,S',st')∧Rel (E'.X ss' st') z u∧RelL (E'.X ss' st') s' S'∧XR E' ss' st'∧Tr E ss st E' ss' st'∧(ss'.kills.length=ss.kills.length→st'.kills.length=st.kills.length)∧K z s' ss'=some r:=by
 have hylen:=hy.len
 have hsy':szy=n+1∨yl=[]:=hsy.imp_right fun e=>by subst e;exact hy.nil_left
 have hye:yl=[]→ys=[]:=fun e=>by subst e;simpa using hylen
 unfold sappend at h
 split at h
 ·
  obtain⟨q,rfl⟩:=hx
  have hh:=grd_elim h
  clear h
  obtain⟨hroom,h⟩:=hh
  by_cases hyn:yl=[]
  · have hys:=hye hyn
    subst hyn hys
    obtain⟨g1,g2⟩:=row_new (E:=E) hX (T:=T) (ty:=elem) (wr:=nbT T) (c:=none) (fams':=st.fams) (Nat.le_refl _) (fun _ _ h=>h) (by simp) (fun _=>rfl)
    refine⟨_,_,_,.list .nil 0 q [],st,s,S,?_,?_,hs.stay0 g2.stay0,g1,g2,fun _=>rfl,h⟩
    · unfold appendB
      simp only[hu,h1,h2,List.length_nil,Nat.add_zero,Nat.zero_mul,or_true,hz,and_self,if_true]
      rw[if_pos (by simp[roomLim])]
    · exact⟨.nil,0,q,[],rfl,⟨fun _=>rfl,⟨0,T,elem,nbT T,nbT T⟩,by simp[SS.newRow],rfl,Nat.le_refl _,.inl ⟨.inl rfl,rfl,.inl (row_at _ _ _)⟩⟩,trivial⟩
  · obtain⟨g1,g2⟩:=row_new (E:=E) hX (T:=T) (ty:=elem) (wr:=nbT T) (c:=some st.fams.length) (fams':=st.fams++[⟨0,yl.length,n+1,elem,wrOf P elem⟩]) (by simp) (fun _ _ h=>getElem?_app_old h)
     (by rintro F rfl';cases rfl';exact⟨rfl,⟨0,yl.length,n+1,elem,wrOf P elem⟩,by simp,hT.symm,rfl,hwt,fun _=>List.length_pos_iff.2 hyn⟩) (by simp)
    refine⟨_,_,_,.list (.own st.fams.length 0) 0 (n+1) yl,{ st with fams:=st.fams++[⟨0,yl.length,n+1,elem,wrOf P elem⟩] },s,S,?_,?_,hs.stay0 g2.stay0,g1,g2,fun _=>rfl,h⟩
    · unfold appendB
      simp only[hu,h1,h2,List.length_nil,Nat.zero_add,←hylen,hsy',hz,and_true,true_and]
      rw[if_pos hroom]
      simp only[hylen,if_neg hyn]
    · exact Rel.newList (g:=⟨0,yl.length,n+1,elem,wrOf P elem⟩) (ty:=elem) (wr:=nbT T) (by simp[SS.newRow]) (row_at _ _ _) (by simp) rfl hylen.symm hT.symm (hy.mono fun a b r=>r.mono (Tr.np g2))
 · rename_i T' tk l
   split at h
   · rename_i hTT
     subst hTT
     have hh:=grd_elim h
     clear h
     obtain⟨hroom,h⟩:=hh
     obtain⟨t0,off,q,xs,rfl,htok,hl⟩:=hx
     have hllen:=hl.len
     split at h
     ·
      obtain⟨rfl,rfl,rfl⟩:=htok
      split at h
      · rename_i hcl
        simp only[Bool.and_eq_true,List.isEmpty_iff] at hcl
        obtain⟨hl0,hnb⟩:=hcl
        subst hl0
        have hxs:xs=[]:=hl.nil_left
        subst hxs
        by_cases hyn:yl=[]
        · have hys:=hye hyn
          subst hyn hys
          obtain⟨g1,g2⟩:=row_new (E:=E) hX (T:=T') (ty:=elem) (wr:=nbT T') (c:=none) (fams':=st.fams) (Nat.le_refl _) (fun _ _ h=>h) (by simp) (fun _=>rfl)
          refine⟨_,_,_,.list .clip 0 T'.size [],st,s,S,?_,?_,hs.stay0 g2.stay0,g1,g2,fun _=>rfl,h⟩
          · unfold appendB
            simp only[hu,h1,h2,List.length_nil,Nat.add_zero,Nat.zero_mul,or_true,hz,and_self,if_true]
            rw[if_pos (by simp[roomLim])]
            simp only[hT,if_true]
          · exact⟨.clip,0,T'.size,[],rfl,⟨fun _=>rfl,⟨0,T',elem,nbT T',nbT T'⟩,by simp[SS.newRow],rfl,Nat.le_refl _,.inl ⟨.inr ⟨rfl,rfl,hnb⟩,rfl,.inl (row_at _ _ _)⟩⟩,trivial⟩
        · obtain⟨g1,g2⟩:=row_new (E:=E) hX (T:=T') (ty:=elem) (wr:=nbT T') (c:=some st.fams.length) (fams':=st.fams++[⟨0,yl.length,n+1,elem,wrOf P elem⟩]) (by simp) (fun _ _ h=>getElem?_app_old h)
           (by rintro F rfl';cases rfl';exact⟨rfl,⟨0,yl.length,n+1,elem,wrOf P elem⟩,by simp,hT.symm,rfl,hwt,fun _=>List.length_pos_iff.2 hyn⟩) (by simp)
          refine⟨_,_,_,.list (.own st.fams.length 0) 0 (n+1) yl,{ st with fams:=st.fams++[⟨0,yl.length,n+1,elem,wrOf P elem⟩] },s,S,?_,?_,hs.stay0 g2.stay0,g1,g2,fun _=>rfl,h⟩
          · unfold appendB
            simp only[hu,h1,h2,List.length_nil,Nat.zero_add,←hylen,hsy',hz,and_true,true_and]
            rw[if_pos (by simpa using hroom)]
            simp only[hylen,hT,if_true,if_neg hyn,List.nil_append,List.length_nil,Nat.zero_add]
          · exact Rel.newList (g:=⟨0,yl.length,n+1,elem,wrOf P elem⟩) (ty:=elem) (wr:=nbT T') (by simp[SS.newRow]) (row_at _ _ _) (by simp) rfl hylen.symm hT.symm (hy.mono fun a b r=>r.mono (Tr.np g2))
      have hh:=grd_elim h
      clear h
      obtain⟨hne,h⟩:=hh
      have hyn:¬yl=[]:=fun e=>by have:=hye e;subst this;simp at hne
      · obtain⟨g1,g2⟩:=row_new (E:=E) hX (T:=T') (ty:=elem) (wr:=nbT T') (c:=some st.fams.length) (fams':=st.fams++[⟨0,xs.length+yl.length,n+1,elem,wrOf P elem⟩]) (by simp) (fun _ _ h=>getElem?_app_old h)
         (by rintro F rfl';cases rfl';exact⟨rfl,⟨0,xs.length+yl.length,n+1,elem,wrOf P elem⟩,by simp,hT.symm,rfl,hwt,fun _=>Nat.add_pos_right _ (List.length_pos_iff.2 hyn)⟩) (by simp)
        refine⟨_,_,_,.list (.own st.fams.length 0) 0 (n+1) (xs++yl),{ st with fams:=st.fams++[⟨0,xs.length+yl.length,n+1,elem,wrOf P elem⟩] },s,S,?_,?_,hs.stay0 g2.stay0,g1,g2,fun _=>rfl,h⟩
        · unfold appendB
          simp only[hu,h1,h2,←hylen,←hllen,hsy',hz,and_true,true_and]
          rw[if_pos hroom]
          simp only[hT,if_true,if_neg hyn]
        · refine Rel.newList (g:=⟨0,xs.length+yl.length,n+1,elem,wrOf P elem⟩) (ty:=elem) (wr:=nbT T') (by simp[SS.newRow]) (row_at _ _ _) (by simp) rfl ?_ hT.symm ?_
          · simp[castL,hllen,hylen]
          · exact (hl.app hy).mono fun a b r=>r.mono (Tr.np g2)
     ·
      rename_i f e z
      split at h
      · rename_i q0 hq0
        split at h
        · rename_i hc
          obtain⟨rfl,rfl,hTq⟩:=hc
          obtain⟨hz0,q1,hq1,hT1,hle,h4⟩:=htok
          rw[show (E.X ss st).rows[f]? = some q0 from hq0] at hq1;cases hq1
          rcases h4 with ⟨htn,hl0,hch⟩ | ⟨F,ep,rfl,rfl,hF,hd⟩
          ·
           have hch':E.chi f=none:=by
            rcases hch with h | h
            · exact h
            · omega
           subst hl0
           have hxs:xs=[]:=hl.nil_left
           subst hxs
           by_cases hyn:yl=[]
           · have hys:=hye hyn
             subst hyn hys
             obtain⟨g1,g2⟩:=row_change (E:=E) hX hq0 (c:=none) (fams':=st.fams) (.inr hch') (Nat.le_refl _) (fun _ _ h _=>h) (by simp)
             refine⟨_,_,_,.list t0 off q [],st,s,S,?_,?_,hs.stay0 g2.stay0,g1,g2,fun _=>rfl,h⟩
             · unfold appendB
               simp only[hu,h1,h2,List.length_nil,Nat.add_zero,Nat.zero_mul,or_true,hz,and_self,if_true]
               rw[if_pos (by simp[roomLim])]
               rcases htn with rfl | ⟨rfl,rfl,_⟩
               · rfl
               · simp only[hT,if_true]
             · have hfl:f<ss.rows.length:=(List.getElem?_eq_some_iff.1 hq0).1
               exact⟨t0,off,q,[],rfl,⟨hz0,{ q0 with cur:=q0.cur+1 },by simp[hfl],hT1,Nat.le_refl _,.inl ⟨htn,by simp[castL],.inl (row_at _ _ _)⟩⟩,trivial⟩
           · have hwr:=hX.I.nwr f q0 hq0 hch'
             have hmk:=hX.I.nmk f q0 hq0 hch'
             have hwt':wrOf P q0.ty=nbT q0.T:=by rw[hwt,hT1]
             obtain⟨g1,g2⟩:=row_change (E:=E) hX hq0 (c:=some st.fams.length) (fams':=st.fams++[⟨0,yl.length,n+1,q0.ty,wrOf P q0.ty⟩]) (.inr hch') (by simp) (fun _ _ h _=>getElem?_app_old h)
              (by rintro F rfl';cases rfl';exact⟨.inr rfl,⟨0,yl.length,n+1,q0.ty,wrOf P q0.ty⟩,by simp,hX.I.flo,by rw[hT1];exact hT.symm,rfl,fun hw=>by rw[hwt',←hmk];exact hwr hw,by rw[hwt',←hmk],fun _=>List.length_pos_iff.2 hyn⟩)
             refine⟨_,_,_,.list (.own st.fams.length 0) 0 (n+1) yl,{ st with fams:=st.fams++[⟨0,yl.length,n+1,q0.ty,wrOf P q0.ty⟩] },s,S,?_,?_,hs.stay0 g2.stay0,g1,g2,fun _=>rfl,h⟩
             · unfold appendB
               simp only[hu,h1,h2,List.length_nil,Nat.zero_add,←hylen,hsy',hz,and_true,true_and]
               rw[if_pos (by simpa using hroom)]
               rcases htn with rfl | ⟨rfl,rfl,_⟩
               · simp only[hylen,if_neg hyn]
               · simp only[hylen,hT,if_true,if_neg hyn,List.nil_append]
             · have hfl:f<ss.rows.length:=(List.getElem?_eq_some_iff.1 hq0).1
               refine⟨_,_,_,_,rfl,⟨fun _=>rfl,{ q0 with cur:=q0.cur+1 },by simp[hfl],hT1,Nat.le_refl _,.inr ⟨st.fams.length,0,rfl,hT.symm,row_at _ _ _,fun _=>⟨⟨0,yl.length,n+1,q0.ty,wrOf P q0.ty⟩,by simp,rfl,fun _=>by simp[castL,hylen]⟩⟩⟩,?_⟩
               simpa[castL] using hy.mono fun a b r=>r.mono (Tr.np g2)
          ·
           obtain⟨g,hg,rfl,htip⟩:=hd rfl
           have htip:=htip rfl
           obtain⟨g',j1,j2,j3,j4,j5⟩:=hX.I.rows f q0 F hq0 hF
           rw[show (E.X ss st).fams[F]? = some g from hg] at j1;cases j1
           have hFl:F<st.fams.length:=(List.getElem?_eq_some_iff.1 hg).1
           obtain⟨g1,g2⟩:=row_change (E:=E) hX hq0 (c:=some F) (fams':=st.fams.set F ⟨g.ep+1,g.tip+yl.length,T'.size,q0.ty,g.wr⟩) (.inl hF.symm) (by simp)
            (fun G g0 hG hne=>by rw[List.getElem?_set,if_neg (fun e=>hne (by rw[←e];exact hF))];exact hG)
            (by rintro F' rfl';cases rfl';exact⟨.inl hF,⟨g.ep+1,g.tip+yl.length,T'.size,q0.ty,g.wr⟩,by simp[hFl],j2,by rw[hT1],rfl,j5.1,j5.2.1,fun hw=>by have:=j5.2.2 hw;simp only;omega⟩)
           refine⟨_,_,_,.list (.own F (g.ep+1)) off T'.size (xs++yl),{ st with fams:=st.fams.set F ⟨g.ep+1,g.tip+yl.length,T'.size,q0.ty,g.wr⟩ },s,S,?_,?_,hs.stay0 g2.stay0,g1,g2,fun _=>rfl,h⟩
           · unfold appendB
             simp only[hu,h1,h2,←hylen,←hllen,hsy',hz,and_true,true_and]
             rw[if_pos hroom,if_pos ⟨j2,hT⟩,show st.fams[F]? = some g from hg]
             simp only[j4,and_self,if_true]
             rw[if_pos (by rw[hllen] ; rw[←hllen];exact htip)]
           · have hfl:f<ss.rows.length:=(List.getElem?_eq_some_iff.1 hq0).1
             refine⟨_,_,_,_,rfl,⟨hz0,{ q0 with cur:=q0.cur+1 },by simp[hfl],hT1,Nat.le_refl _,.inr ⟨F,g.ep+1,rfl,rfl,row_at _ _ _,fun _=>⟨⟨g.ep+1,g.tip+yl.length,T'.size,q0.ty,g.wr⟩,by simp[hFl],rfl,fun _=>by simp[castL,hylen,←htip];omega⟩⟩⟩,?_⟩
             exact (hl.app hy).mono fun a b r=>r.mono (Tr.np g2)
        · simp at h
      · simp at h
     ·
      rename_i f e z
      split at h
      · rename_i q0 hq0
        split at h
        · rename_i hc
          obtain⟨rfl,rfl,hTq,hqw⟩:=hc
          obtain⟨hz0,q1,hq1,hT1,hle,h4⟩:=htok
          rw[show (E.X ss st).rows[f]? = some q0 from hq0] at hq1;cases hq1
          have hfl:f<ss.rows.length:=(List.getElem?_eq_some_iff.1 hq0).1
          rcases h4 with ⟨htn,hl0,hch⟩ | ⟨F,ep,rfl,rfl,hF,hd⟩
          ·
           have hch':E.chi f=none:=by
            rcases hch with h | h
            · exact h
            · omega
           subst hl0
           have hxs:xs=[]:=hl.nil_left
           subst hxs
           by_cases hyn:yl=[]
           · have hys:=hye hyn
             subst hyn hys
             obtain⟨g1,g2⟩:=row_change (E:=E) hX hq0 (c:=none) (fams':=st.fams) (.inr hch') (Nat.le_refl _) (fun _ _ h _=>h) (by simp)
             have hq2:((E.row f none).X { ss with rows:=ss.rows.set f { q0 with cur:=q0.cur+1 } } { st with fams:=st.fams }).rows[f]? = some { q0 with cur:=q0.cur+1 }:=by simp[hfl]
             have hS:=stay_kill (ks:=[]) g1.I hq2 (by simp)
             obtain⟨k1,k2⟩:=XR.killf (ks:=[]) g1 (f:=f) (by simp) hS
             rw[kill_heap_nil] at k1 k2
             refine⟨_,_,_,.list t0 off q [],st,_,S,?_,?_,?_,k1,g2.trans k2,fun h=>by simp at h,h⟩
             · unfold appendB
               simp only[hu,h1,h2,List.length_nil,Nat.add_zero,Nat.zero_mul,or_true,hz,and_self,if_true]
               rw[if_pos (by simp[roomLim])]
               rcases htn with rfl | ⟨rfl,rfl,_⟩
               · rfl
               · simp only[hT,if_true]
             · exact⟨t0,off,q,[],rfl,⟨hz0,{ q0 with cur:=q0.cur+1 },by simp[hfl],hT1,Nat.le_refl _,.inl ⟨htn,by simp[castL],.inl (row_at _ _ _)⟩⟩,trivial⟩
             · have:=(hs.stay0 g2.stay0).stay hS
               rw[kills_nil] at this
               exact this.stay0 k2.stay0
           · have hwr:=hX.I.nwr f q0 hq0 hch'
             have hmk:=hX.I.nmk f q0 hq0 hch'
             have hwt':wrOf P q0.ty=nbT q0.T:=by rw[hwt,hT1]
             obtain⟨g1,g2⟩:=row_change (E:=E) hX hq0 (c:=some st.fams.length) (fams':=st.fams++[⟨0,yl.length,n+1,q0.ty,wrOf P q0.ty⟩]) (.inr hch') (by simp) (fun _ _ h _=>getElem?_app_old h)
              (by rintro F rfl';cases rfl';exact⟨.inr rfl,⟨0,yl.length,n+1,q0.ty,wrOf P q0.ty⟩,by simp,hX.I.flo,by rw[hT1];exact hT.symm,rfl,fun hw=>by rw[hwt',←hmk];exact hwr hw,by rw[hwt',←hmk],fun _=>List.length_pos_iff.2 hyn⟩)
             have hq2:((E.row f (some st.fams.length)).X { ss with rows:=ss.rows.set f { q0 with cur:=q0.cur+1 } } { st with fams:=st.fams++[⟨0,yl.length,n+1,q0.ty,wrOf P q0.ty⟩] }).rows[f]? = some { q0 with cur:=q0.cur+1 }:=by simp[hfl]
             have hS:=stay_kill (ks:=[]) g1.I hq2 (by simp)
             obtain⟨k1,k2⟩:=XR.killf (ks:=[]) g1 (f:=f) (by simp) hS
             rw[kill_heap_nil] at k1 k2
             refine⟨_,_,_,.list (.own st.fams.length 0) 0 (n+1) yl,{ st with fams:=st.fams++[⟨0,yl.length,n+1,q0.ty,wrOf P q0.ty⟩] },_,S,?_,?_,?_,k1,g2.trans k2,fun h=>by simp at h,h⟩
             · unfold appendB
               simp only[hu,h1,h2,List.length_nil,Nat.zero_add,←hylen,hsy',hz,and_true,true_and]
               rw[if_pos (by simpa using hroom)]
               rcases htn with rfl | ⟨rfl,rfl,_⟩
               · simp only[hylen,if_neg hyn]
               · simp only[hylen,hT,if_true,if_neg hyn,List.nil_append]
             · refine⟨_,_,_,_,rfl,⟨fun _=>rfl,{ q0 with cur:=q0.cur+1 },by simp[hfl],hT1,Nat.le_refl _,.inr ⟨st.fams.length,0,rfl,hT.symm,row_at _ _ _,fun _=>⟨⟨0,yl.length,n+1,q0.ty,wrOf P q0.ty⟩,by simp,rfl,fun _=>by simp[castL,hylen]⟩⟩⟩,?_⟩
               simpa[castL] using hy.mono fun a b r=>r.mono (Tr.np (g2.trans k2))
             · have:=(hs.stay0 g2.stay0).stay hS
               rw[kills_nil] at this
               exact this.stay0 k2.stay0
          ·
           obtain⟨g,hg,rfl,-⟩:=hd rfl
           obtain⟨g',j1,j2,j3,j4,j5⟩:=hX.I.rows f q0 F hq0 hF
           rw[show (E.X ss st).fams[F]? = some g from hg] at j1;cases j1
           have hFl:F<st.fams.length:=(List.getElem?_eq_some_iff.1 hg).1
           have hgw:g.wr=true:=j5.1 hqw
           have hnpF:¬(E.X ss st).np F:=hX.I.w_np ⟨f,q0,hq0,hqw,hF⟩
           have hfree:V.frees F xs=true:=by rw[frees_all];exact hl.all fun a b r=>ERe.holds (holds_free hnpF) r
           have hfreey:V.frees F yl=true:=by rw[frees_all];exact hy.all fun a b r=>ERe.holds (holds_free hnpF) r
           by_cases htip:off+xs.length=g.tip
           · obtain⟨g1,g2⟩:=row_change (E:=E) hX hq0 (c:=some F) (fams':=st.fams.set F ⟨g.ep+1,g.tip+yl.length,T'.size,q0.ty,g.wr⟩) (.inl hF.symm) (by simp)
              (fun G g0 hG hne=>by rw[List.getElem?_set,if_neg (fun e=>hne (by rw[←e];exact hF))];exact hG)
              (by rintro F' rfl';cases rfl';exact⟨.inl hF,⟨g.ep+1,g.tip+yl.length,T'.size,q0.ty,g.wr⟩,by simp[hFl],j2,by rw[hT1],rfl,j5.1,j5.2.1,fun hw=>by have:=j5.2.2 hw;simp only;omega⟩)
             have hq2:((E.row f (some F)).X { ss with rows:=ss.rows.set f { q0 with cur:=q0.cur+1 } } { st with fams:=st.fams.set F ⟨g.ep+1,g.tip+yl.length,T'.size,q0.ty,g.wr⟩ }).rows[f]? = some { q0 with cur:=q0.cur+1 }:=by simp[hfl]
             have hS:=stay_kill (ks:=[]) g1.I hq2 (by simp)
             obtain⟨k1,k2⟩:=XR.killf (ks:=[]) g1 (f:=f) (by simp) hS
             rw[kill_heap_nil] at k1 k2
             refine⟨_,_,_,.list (.own F (g.ep+1)) off T'.size (xs++yl),{ st with fams:=st.fams.set F ⟨g.ep+1,g.tip+yl.length,T'.size,q0.ty,g.wr⟩ },_,S,?_,?_,?_,k1,g2.trans k2,fun h=>by simp at h,h⟩
             · unfold appendB
               simp only[hu,h1,h2,←hylen,←hllen,hsy',hz,and_true,true_and]
               rw[if_pos hroom,if_pos ⟨j2,hT⟩,show st.fams[F]? = some g from hg]
               simp only[j4,and_self,if_true]
               rw[if_pos (by rw[hllen];exact htip)]
             · refine⟨_,_,_,_,rfl,⟨hz0,{ q0 with cur:=q0.cur+1 },by simp[hfl],hT1,Nat.le_refl _,.inr ⟨F,g.ep+1,rfl,rfl,row_at _ _ _,fun _=>⟨⟨g.ep+1,g.tip+yl.length,T'.size,q0.ty,g.wr⟩,by simp[hFl],rfl,fun _=>by simp[castL,hylen,hllen,←htip];omega⟩⟩⟩,?_⟩
               exact (hl.app hy).mono fun a b r=>r.mono (Tr.np (g2.trans k2))
             · have:=(hs.stay0 g2.stay0).stay hS
               rw[kills_nil] at this
               exact this.stay0 k2.stay0
           · obtain⟨g1,g2⟩:=row_change (E:=E) hX hq0 (c:=some F) (fams':=st.fams.set F ⟨g.ep+1,off+xs.length+yl.length,T'.size,q0.ty,g.wr⟩) (.inl hF.symm) (by simp)
              (fun G g0 hG hne=>by rw[List.getElem?_set,if_neg (fun e=>hne (by rw[←e];exact hF))];exact hG)
              (by rintro F' rfl';cases rfl';exact⟨.inl hF,⟨g.ep+1,off+xs.length+yl.length,T'.size,q0.ty,g.wr⟩,by simp[hFl],j2,by rw[hT1],rfl,j5.1,j5.2.1,fun hw=>by rw[hgw] at hw;simp at hw⟩)
             have hq2:((E.row f (some F)).X { ss with rows:=ss.rows.set f { q0 with cur:=q0.cur+1 } } { st with fams:=st.fams.set F ⟨g.ep+1,off+xs.length+yl.length,T'.size,q0.ty,g.wr⟩ }).rows[f]? = some { q0 with cur:=q0.cur+1 }:=by simp[hfl]
             have hW2:∀G∈[F],({ q0 with cur:=q0.cur+1 }:SRow).wr=true∧(E.row f (some F)).chi f=some G:=by
              intro G hG
              simp only[List.mem_singleton] at hG
              subst hG
              exact⟨hqw,row_at _ _ _⟩
             have hS:=stay_kill (ks:=[F]) g1.I hq2 hW2
             obtain⟨k1,k2⟩:=XR.killf (ks:=[F]) g1 (f:=f) (fun G hG=>⟨⟨f,_,hq2,(hW2 G hG).1,(hW2 G hG).2⟩,(hW2 G hG).2,by simp only[List.mem_singleton] at hG;subst hG;simpa using hFl⟩) hS
             refine⟨_,_,_,.list (.own F (g.ep+1)) off T'.size (xs++yl),{ st with heap:=killHeap [F] st.heap,fams:=st.fams.set F ⟨g.ep+1,off+xs.length+yl.length,T'.size,q0.ty,g.wr⟩,kills:=F::st.kills },_,V.kills [F] S,?_,?_,?_,k1,g2.trans k2,fun h=>by simp at h,h⟩
             · unfold appendB
               simp only[hu,h1,h2,←hylen,←hllen,hsy',hz,and_true,true_and]
               rw[if_pos hroom,if_pos ⟨j2,hT⟩,show st.fams[F]? = some g from hg]
               simp only[j4,and_self,if_true]
               rw[if_neg (by rw[hllen];exact htip),if_pos (by simp[hgw,hfree,hfreey])]
             · refine⟨_,_,_,_,rfl,⟨hz0,{ q0 with cur:=q0.cur+1 },by simp[hfl],hT1,Nat.le_refl _,.inr ⟨F,g.ep+1,rfl,rfl,row_at _ _ _,fun _=>⟨⟨g.ep+1,off+xs.length+yl.length,T'.size,q0.ty,g.wr⟩,by simp[hFl],rfl,fun _=>by simp[castL,hylen,hllen];omega⟩⟩⟩,?_⟩
               exact (hl.app hy).mono fun a b r=>r.mono (Tr.np (g2.trans k2))
             · exact ((hs.stay0 g2.stay0).stay hS).stay0 k2.stay0
        · simp at h
      · simp at h
     · simp at h
   · simp at h
 · simp at h
end
end Go.Abs

namespace Go.Abs
open Go
theorem zapL_eq {α:Type} (e:α) (a:Nat):∀(k:Nat) (l:List α),a+k≤l.length→zapL e a k l=l.take a++List.replicate k e++l.drop (a+k)
 | 0,l,_=>by simp[zapL]
 | k+1,l,h=>by
  rw[zapL,zapL_eq e a k l (by omega)]
  apply List.ext_getElem
  · simp;omega
  · intro i h1 h2
    rw[List.getElem_set]
    simp only[List.getElem_append,List.length_append,List.length_take,List.length_replicate,List.getElem_take,List.getElem_replicate,List.getElem_drop]
    have hm:min a l.length=a:=by omega
    simp only[hm]
    split
    · rename_i he
      subst he
      rw[dif_pos (by omega),dif_neg (by omega)]
    · rename_i he
      by_cases c1:i<a
      · rw[dif_pos (by omega),dif_pos c1,dif_pos (by omega)]
      · by_cases c2:i<a+k
        · rw[dif_pos c2,dif_neg c1,dif_pos (by omega)]
        · rw[dif_neg c2,dif_neg (by omega)]
          congr 1
          omega
theorem zapL_end {α:Type} (e:α) (a k:Nat) (l:List α) (h:a+k=l.length):zapL e a k l=l.take (l.length-k)++List.replicate k e:=by
 rw[zapL_eq e a k l (by omega),List.drop_of_length_le (by omega),List.append_nil,show l.length-k=a by omega]
section
variable {X:XC} {f F a k:Nat} {r:SRow} {g:Fam} {e':V}
theorem zap_fix {v:V} (h:∀m,V.upd F g.ep m e' v=v):∀k,zapV F g.ep e' a k v=v
 | 0=>rfl
 | k+1=>by rw[zapV,zap_fix h k,h]
theorem zap_agg (cs:List V):∀k,zapV F g.ep e' a k (.agg cs)=.agg (zapVs F g.ep e' a k cs)
 | 0=>rfl
 | k+1=>by rw[zapV,zap_agg cs k,zapVs];simp[V.upd]
theorem zap_tup (cs:List V):∀k,zapV F g.ep e' a k (.tup cs)=.tup (zapVs F g.ep e' a k cs)
 | 0=>rfl
 | k+1=>by rw[zapV,zap_tup cs k,zapVs];simp[V.upd]
theorem zap_func (fn:Fn) (x y:List V):∀k,zapV F g.ep e' a k (.func fn x y)=.func fn (zapVs F g.ep e' a k x) (zapVs F g.ep e' a k y)
 | 0=>rfl
 | k+1=>by rw[zapV,zap_func fn x y k,zapVs,zapVs];simp[V.upd]
theorem zap_iface (t:TypeId) (x:V):∀k,zapV F g.ep e' a k (.iface t x)=.iface t (zapV F g.ep e' a k x)
 | 0=>rfl
 | k+1=>by rw[zapV,zap_iface t x k,zapV];simp[V.upd]
theorem zap_own {q:Nat} {xs:List V} (hx:∀m,xs.map (V.upd F g.ep m e')=xs) (he:∀m,V.upd F g.ep m e' e'=e'):∀k,zapV F g.ep e' a k (.list (.own F g.ep) 0 q xs)=.list (.own F g.ep) 0 q (zapL e' a k xs)∧∀m,(zapL e' a k xs).map (V.upd F g.ep m e')=zapL e' a k xs
 | 0=>⟨rfl,hx⟩
 | k+1=>by
  obtain⟨h1,h2⟩:=zap_own hx he k
  refine⟨?_,fun m=>?_⟩
  · rw[zapV,h1,zapL]
    simp[V.upd,upds_map,h2]
  · rw[zapL,List.map_set,h2,he]
theorem All2.zap {α β:Type} {R:α→β→Prop} {x:α} {y:β} (h:R x y) (a:Nat):∀(k:Nat) {l:List α} {m:List β},All2 R l m→All2 R (zapL x a k l) (zapL y a k m)
 | 0,l,m,q=>q
 | k+1,l,m,q=>(All2.zap h a k q).set _ h
variable (I:XI X) (hr:X.rows[f]? = some r) (hc:X.chi f=some F) (hg:X.fams[F]? = some g) (hW:¬X.np F) {y:r.T.den} (hy:ERe X.np r.T y e') (hak:a+k=g.tip)
include I hr hc hg hW hy hak
mutual
theorem Rel.clr:∀{x:SV} {v:V},Rel X x v→Rel X (x.clr f r.cur k r.T y) (zapV F g.ep e' a k v)
 | .int _ n,v,h=>by simp only[Rel] at h;subst h;rw[zap_fix (by simp[V.upd])];simp[SV.clr,Rel]
 | .bool b,v,h=>by simp only[Rel] at h;subst h;rw[zap_fix (by simp[V.upd])];simp[SV.clr,Rel]
 | .str s,v,h=>by simp only[Rel] at h;subst h;rw[zap_fix (by simp[V.upd])];simp[SV.clr,Rel]
 | .list T tk l,v,h=>by
  obtain⟨t,off,q,xs,rfl,h1,h2⟩:=h
  have hx:∀m,xs.map (V.upd F g.ep m e')=xs:=fun m=>h2.fix fun a b r=>ERe.fix (inert_upd hW) r
  cases tk with
  | ro =>
   rw[zap_fix (fun m=>by rw[upd_list_ne (F:=F) (fun G ep' e eq=>hW (eq▸h1.2 G ep' e)),hx])]
   exact⟨t,off,q,xs,rfl,h1,h2⟩
  | clip =>
   obtain⟨rfl,h1⟩:=h1
   rw[zap_fix (fun m=>by rw[upd_list_ne (by simp),hx])]
   exact⟨_,off,q,xs,rfl,⟨rfl,h1⟩,h2⟩
  | own f' e z tip =>
   by_cases hf:f'=f
   · subst hf
     obtain⟨h0,r',hr',hT,hle,h4⟩:=h1
     rw[hr] at hr';cases hr'
     subst hT
     simp only[SV.clr,if_true,dite_true]
     by_cases hez:e=r.cur∧z=true∧tip=true
     · rw[if_pos hez]
       obtain⟨rfl,rfl,rfl⟩:=hez
       have h0':=h0 rfl
       subst h0'
       rcases h4 with ⟨_,_,c⟩ | ⟨G,ep,rfl,b,c,d⟩
       · rcases c with c | c
         · rw[hc] at c;simp at c
         · omega
       · rw[hc] at c;cases c
         obtain⟨g',d1,rfl,d3⟩:=d rfl
         rw[hg] at d1;cases d1
         have d4:=d3 rfl
         have he:∀m,V.upd F g.ep m e' e'=e':=fun m=>ERe.fix (inert_upd hW) hy
         obtain⟨w1,_⟩:=zap_own (F:=F) (g:=g) (a:=a) (q:=q) hx he k
         rw[w1]
         have hlx:=h2.len
         have e1:zapL y a k l=l.take (l.length-k)++List.replicate k y:=zapL_end y a k l (by omega)
         have h3:=All2.zap hy a k h2
         rw[e1] at h3
         refine⟨.own F g.ep,0,q,zapL e' a k xs,rfl,⟨fun _=>rfl,r,hr,rfl,Nat.le_refl _,.inr ⟨F,g.ep,rfl,b,hc,fun _=>⟨g,hg,rfl,fun _=>?_⟩⟩⟩,h3⟩
         simp
         omega
     · rw[if_neg hez];trivial
   · have hne:∀G ep',t=.own G ep'→G≠F:=by
      rintro G ep' rfl rfl
      obtain⟨h0,r',hr',hT,hle,h4⟩:=h1
      rcases h4 with ⟨a,_⟩ | ⟨G',ep,a,b,c,d⟩
      · simp at a
      · cases a
        exact hf (I.inj _ _ _ _ _ hr' hr c hc)
     rw[zap_fix (fun m=>by rw[upd_list_ne hne,hx])]
     simp only[SV.clr,if_neg hf]
     exact⟨t,off,q,xs,rfl,h1,h2⟩
 | .nill,v,h=>by
  obtain⟨q,rfl⟩:=h
  rw[zap_fix (by simp[V.upd,upds_map])]
  exact⟨q,rfl⟩
 | .agg cs,v,h=>by
  obtain⟨vs,rfl,h⟩:=h
  rw[zap_agg]
  exact⟨_,rfl,RelL.clr h⟩
 | .tup cs,v,h=>by
  obtain⟨vs,rfl,h⟩:=h
  rw[zap_tup]
  exact⟨_,rfl,RelL.clr h⟩
 | .ptr i o,v,h=>by
  obtain⟨h1,rfl⟩:=h
  rw[zap_fix (by simp[V.upd])]
  exact⟨h1,rfl⟩
 | .adr i o,v,h=>by
  obtain⟨h1,rfl | rfl⟩:=h
  · rw[zap_fix (by simp[V.upd])];exact⟨h1,.inl rfl⟩
  · rw[zap_fix (by simp[V.upd])];exact⟨h1,.inr rfl⟩
 | .elem T tk m' off x,v,h=>by
  obtain⟨t,idx,e0,rfl,h1,h2⟩:=h
  have hx:∀m,V.upd F g.ep m e' e0=e0:=fun m=>ERe.fix (inert_upd hW) h2
  cases tk with
  | ro =>
   rw[zap_fix (fun m=>by rw[upd_eptr_ne (F:=F) (fun G ep' e eq=>hW (eq▸h1 G ep' e)),hx])]
   exact⟨t,idx,e0,rfl,h1,h2⟩
  | clip =>
   obtain rfl:=h1
   rw[zap_fix (fun m=>by rw[upd_eptr_ne (by simp),hx])]
   exact⟨_,idx,e0,rfl,rfl,h2⟩
  | own f' e z tip =>
   by_cases hf:f'=f
   · subst hf
     simp only[SV.clr,if_true]
     trivial
   · have hne:∀G ep',t=.own G ep'→G≠F:=by
      rintro G ep' rfl rfl
      obtain⟨h0,r',hr',hT,hle,h4⟩:=h1
      obtain⟨G',ep,a,c,d⟩:=h4
      · cases a
        exact hf (I.inj _ _ _ _ _ hr' hr c hc)
     rw[zap_fix (fun m=>by rw[upd_eptr_ne hne,hx])]
     simp only[SV.clr,if_neg hf]
     exact⟨t,idx,e0,rfl,h1,h2⟩
 | .nilp,v,h=>by simp only[Rel] at h;subst h;rw[zap_fix (by simp[V.upd])];simp[SV.clr,Rel]
 | .func g' x y,v,h=>by
  obtain⟨va,vb,rfl,h1,h2⟩:=h
  rw[zap_func]
  exact⟨_,_,rfl,RelL.clr h1,RelL.clr h2⟩
 | .nilf,v,h=>by simp only[Rel] at h;subst h;rw[zap_fix (by simp[V.upd])];simp[SV.clr,Rel]
 | .iface t x,v,h=>by
  obtain⟨w,rfl,h⟩:=h
  rw[zap_iface]
  exact⟨_,rfl,Rel.clr h⟩
 | .nili,v,h=>by simp only[Rel] at h;subst h;rw[zap_fix (by simp[V.upd])];simp[SV.clr,Rel]
 | .mapr i,v,h=>by
  obtain⟨h1,rfl⟩:=h
  rw[zap_fix (by simp[V.upd])]
  exact⟨h1,rfl⟩
 | .nilm,v,h=>by simp only[Rel] at h;subst h;rw[zap_fix (by simp[V.upd])];simp[SV.clr,Rel]
 | .yld,v,h=>by
  obtain⟨k,h1,rfl⟩:=h
  rw[zap_fix (by simp[V.upd,V.upds])]
  exact⟨k,h1,rfl⟩
 | .any,v,h=>by simp[SV.clr,Rel]
theorem RelL.clr:∀{xs:List SV} {vs:List V},RelL X xs vs→RelL X (SV.clrL f r.cur k r.T y xs) (zapVs F g.ep e' a k vs)
 | [],vs,h=>by simp only[RelL] at h;subst h;rw[zapVs_map];simp[SV.clrL,RelL]
 | x::xs,vs,h=>by
  obtain⟨v,vs',rfl,h1,h2⟩:=h
  rw[zapVs_map,List.map_cons,←zapVs_map]
  exact⟨_,_,rfl,Rel.clr h1,RelL.clr h2⟩
end
end
section
variable {X:XC} {f e:Nat} {T:Ty} {z:T.den}
mutual
theorem Rel.clr0:∀{x:SV} {v:V},Rel X x v→Rel X (x.clr f e 0 T z) v
 | .int _ n,v,h=>by simpa[SV.clr] using h
 | .bool b,v,h=>by simpa[SV.clr] using h
 | .str s,v,h=>by simpa[SV.clr] using h
 | .list T' tk l,v,h=>by
  cases tk with
  | ro=>simpa[SV.clr] using h
  | clip=>simpa[SV.clr] using h
  | own f' e'' b tip =>
   simp only[SV.clr]
   split
   · split
     · split
       · simpa using h
       · trivial
     · trivial
   · exact h
 | .nill,v,h=>by simpa[SV.clr] using h
 | .agg cs,v,h=>by
  obtain⟨vs,rfl,h⟩:=h
  exact⟨_,rfl,RelL.clr0 h⟩
 | .tup cs,v,h=>by
  obtain⟨vs,rfl,h⟩:=h
  exact⟨_,rfl,RelL.clr0 h⟩
 | .ptr i o,v,h=>by simpa[SV.clr] using h
 | .adr i o,v,h=>by simpa[SV.clr] using h
 | .elem T' tk m' off x,v,h=>by
  cases tk with
  | ro=>simpa[SV.clr] using h
  | clip=>simpa[SV.clr] using h
  | own f' e'' b tip =>
   simp only[SV.clr]
   split
   · trivial
   · exact h
 | .nilp,v,h=>by simpa[SV.clr] using h
 | .func g' x y,v,h=>by
  obtain⟨va,vb,rfl,h1,h2⟩:=h
  exact⟨_,_,rfl,RelL.clr0 h1,RelL.clr0 h2⟩
 | .nilf,v,h=>by simpa[SV.clr] using h
 | .iface t x,v,h=>by
  obtain⟨w,rfl,h⟩:=h
  exact⟨_,rfl,Rel.clr0 h⟩
 | .nili,v,h=>by simpa[SV.clr] using h
 | .mapr i,v,h=>by simpa[SV.clr] using h
 | .nilm,v,h=>by simpa[SV.clr] using h
 | .yld,v,h=>by simpa[SV.clr] using h
 | .any,v,h=>by simpa[SV.clr] using h
theorem RelL.clr0:∀{xs:List SV} {vs:List V},RelL X xs vs→RelL X (SV.clrL f e 0 T z xs) vs
 | [],vs,h=>by simpa[SV.clrL] using h
 | x::xs,vs,h=>by
  obtain⟨v,vs',rfl,h1,h2⟩:=h
  exact⟨_,_,rfl,Rel.clr0 h1,RelL.clr0 h2⟩
end
end
section
variable {ρ:Type} {r:ρ} {P:Program} {E:GE} {ss:SS} {st:St}
theorem toks_const:∀(n:Nat) (v:Value),(sofVal n v).toks=[]
 | 0,v=>by simp[sofVal,SV.toks]
 | n+1,v=>by
  cases v with
  | agg cs =>
   simp only[sofVal]
   split
   · simp only[SV.toks]
     have:∀l:List Value,SV.toksL (l.map (sofVal n))=[]:=by
      intro l
      induction l with
      | nil=>simp[SV.toksL]
      | cons a l ih=>simp[SV.toksL,toks_const n a,ih]
     exact this _
   · simp[SV.toks]
  | slice a l c =>
   cases a with
   | none=>cases l<;>cases c<;>simp[sofVal,SV.toks]
   | some a=>simp[sofVal,SV.toks]
  | pointer a=>cases a<;>simp[sofVal,SV.toks]
  | map a=>cases a<;>simp[sofVal,SV.toks]
  | _=>simp[sofVal,SV.toks]
theorem ERe.aggV {N:Nat→Prop} {T:Ty} {x:T.den} {v:V} (h:ERe N T x v):Go.Abs.aggV v=T.isAgg:=by
 obtain⟨cs,h1,h2⟩:=h
 split at h2
 · rename_i ha
   subst h2
   simp[Go.Abs.aggV,ha]
 · rename_i ha
   subst h2
   have hc:=ERc.nagg T h1 v (by simp)
   have:Go.Abs.aggV v=false:=by
    cases v with
    | agg cs=>simp only[V.cells] at hc;have:=congrArg (fun l:List V=>SizeOf.sizeOf l) hc;simp at this;omega
    | _=>rfl
   rw[this]
   simpa using ha
theorem sclear_rel (hX:XR E ss st) {s:List SV} {S:List V} (hs:RelL (E.X ss st) s S) {t elem:TypeId} {T:Ty} {f e:Nat} {b:Bool} {l:List T.den} {x:V} {z:T.den} {q:SRow}
 (hx:Rel (E.X ss st) (.list T (.own f e b true) l) x) (hu:P.underlying t=some (.slice elem)) (hsz:sizeB P elem=some T.size) (hz:(szero P elem).bind (decV T)=some z) (hq:ss.rows[f]? = some q)
 (hcur:q.cur=e) (hwr:q.wr=true) (hT:q.T=T) :
 ∃S' st',clearB P t x S st=some (S',st') ∧
  RelL (E.X { ss with boxes:=ss.boxes.map (sclrBox f e l.length T z),kills:=f::ss.kills } st') (SV.clrL f e l.length T z s) S' ∧
  XR E { ss with boxes:=ss.boxes.map (sclrBox f e l.length T z),kills:=f::ss.kills } st'∧Tr E ss st E { ss with boxes:=ss.boxes.map (sclrBox f e l.length T z),kills:=f::ss.kills } st':=by
 subst hT hcur
 obtain⟨qc,qT,qty,qw,qm⟩:=q
 simp only at hwr
 subst hwr
 obtain⟨t0,off,sz,xs,rfl,htok,hl⟩:=hx
 have hllen:=hl.len
 have hlive:∀b:SBox,(sclrBox f qc l.length qT z b).live=b.live:=fun b=>by cases b<;>rfl
 have fin:∀(heap':List Box) (kills':List Nat),heap'.length=st.heap.length →
  (∀(i:Nat) (b:SBox),ss.boxes[i]? = some b→BR (E.X ss st) st.lo heap' (E.mu i) (sclrBox f qc l.length qT z b)) →
  (∀G∈kills',G∈st.kills∨E.chi f=some G) →
  XR E { ss with boxes:=ss.boxes.map (sclrBox f qc l.length qT z),kills:=f::ss.kills } { st with heap:=heap',kills:=kills' } ∧
  Tr E ss st E { ss with boxes:=ss.boxes.map (sclrBox f qc l.length qT z),kills:=f::ss.kills } { st with heap:=heap',kills:=kills' }:=by
  intro heap' kills' hlen hbox hk
  have hXe:E.X { ss with boxes:=ss.boxes.map (sclrBox f qc l.length qT z),kills:=f::ss.kills } { st with heap:=heap',kills:=kills' }=E.X ss st:=by simp[GE.X]
  refine⟨⟨by rw[hXe];exact hX.I,fun i b hb=>?_,fun i j b b' a1 a2 a3 a4 a5=>?_,by have:=hX.lo;simp only[hlen];exact this,?_,by simp⟩,?_⟩
  · rw[hXe]
    simp only[List.getElem?_map,Option.map_eq_some_iff] at hb
    obtain⟨b0,hb0,rfl⟩:=hb
    exact hbox i b0 hb0
  · simp only[List.getElem?_map,Option.map_eq_some_iff] at a1 a3
    obtain⟨c,c1,rfl⟩:=a1
    obtain⟨c',c2,rfl⟩:=a3
    exact hX.binj i j c c' c1 (by rw[←hlive];exact a2) c2 (by rw[←hlive];exact a4) a5
  · intro G hG
    rcases hk G hG with hG | hG
    · refine⟨(hX.kill G hG).1,fun f' r' hr' hc'=>?_⟩
      have:=(hX.kill G hG).2 f' r' hr' hc'
      simp[this]
    · obtain⟨g,hg,_⟩:=hX.I.rows f _ G hq hG
      refine⟨(List.getElem?_eq_some_iff.1 hg).1,fun f' r' hr' hc'=>?_⟩
      have:=hX.I.inj f' f r' _ G hr' hq hc' hG
      simp[this]
  · refine⟨rfl,rfl,rfl,Nat.le_refl _,by simp[hlen],by simp,fun _ _=>rfl,fun G hG=>?_,fun f' r' hr'=>?_,fun G hG=>?_,fun f' r' G h1 h2=>.inl ⟨r',h1,h2⟩,⟨rfl,rfl,rfl⟩⟩
    · rw[hXe] at hG;exact .inl hG
    · exact⟨r',hr',rfl,Nat.le_refl _,.inl rfl,fun _ F g _ hg=>⟨g,hg,rfl,rfl⟩⟩
    · rcases hk G hG with hG | hG
      · exact .inl hG
      · exact .inr (.inl ⟨f,_,hq,rfl,hG⟩)
 have hXe:∀(heap':List Box) (kills':List Nat),E.X { ss with boxes:=ss.boxes.map (sclrBox f qc l.length qT z),kills:=f::ss.kills } { st with heap:=heap',kills:=kills' }=E.X ss st:=fun _ _=>by simp[GE.X]
 cases xs with
 | nil =>
  have hl0:l=[]:=List.eq_nil_of_length_eq_zero (by simpa using hllen)
  subst hl0
  refine⟨S,st,by unfold clearB;simp only[hu],?_⟩
  obtain⟨g1,g2⟩:=fin st.heap st.kills rfl (fun i b hb=>by
   have:=hX.box i b hb
   cases b with
   | gone=>trivial
   | cells t w' cs =>
    obtain⟨vs,k1,k2,k3⟩:=this
    exact⟨vs,k1,RelL.clr0 k2,k3⟩
   | mapo K T w' es=>exact this) (fun G hG=>.inl hG)
  refine⟨?_,g1,g2⟩
  have:=hXe st.heap st.kills
  rw[this]
  exact RelL.clr0 hs
 | cons x0 xs0 =>
  obtain⟨h0,r',hr',hT,hle,h4⟩:=htok
  rw[show (E.X ss st).rows[f]? = some _ from hq] at hr';cases hr'
  rcases h4 with ⟨_,h5,_⟩ | ⟨F,ep,rfl,rfl,hF,hd⟩
  · subst h5;simp at hllen
  obtain⟨g,hg,rfl,htip⟩:=hd rfl
  have htip:=htip rfl
  obtain⟨g',j1,j2,j3,j4,j5,_⟩:=hX.I.rows f _ F hq hF
  rw[show (E.X ss st).fams[F]? = some g from hg] at j1;cases j1
  have hW:(E.X ss st).W F:=⟨f,_,hq,rfl,hF⟩
  have hnp:=hX.I.w_np hW
  obtain⟨zs,hzs,hzd⟩:=Option.bind_eq_some_iff.1 hz
  obtain⟨zv,hzv,hzr⟩:=szero_rel (X:=E.X ss st) hzs
  have hztok:∀f∈zs.toks,Ret (E.X ss st) f:=by
   have:zs.toks=[]:=by
    unfold szero at hzs
    obtain⟨v,hv,rfl⟩:=Option.map_eq_some_iff.1 hzs
    exact toks_const 3 v
   rw[this];simp
  have hzE:=decV_rel hX.I hzd hzr hztok
  have hzf:=hzE.flat
  have hzfree:zv.free F=true:=ERe.holds (holds_free hnp) hzE
  have hall:((x0::xs0).all fun v=>v.free F&&aggV v==aggV zv&&v.flat.isSome)=true:=by
   refine hl.all fun a v hv=>?_
   rw[ERe.holds (holds_free hnp) hv,ERe.aggV hv,ERe.aggV hzE,ERe.flat hv]
   simp
  have hzlen:zv.cells.length=qT.size:=ERc.len qT hzE.cells
  have hcl:clearB P t (.list (.own F g.ep) off qT.size (x0::xs0)) S st=some (zapVs F g.ep zv off l.length S,{ st with heap:=zapH F g.ep zv off l.length st.heap,kills:=List.replicate l.length F++st.kills }):=by
   unfold clearB
   simp only[hu,hzv]
   rw[show st.fams[F]? = some g from hg]
   simp only[hzf]
   rw[if_pos ⟨hsz.symm,hzlen,j2,trivial,j5 rfl,hzfree,hall⟩,hllen]
   rfl
  refine⟨_,_,hcl,?_⟩
  have hclr:∀{xs:List SV} {vs:List V},RelL (E.X ss st) xs vs→RelL (E.X ss st) (SV.clrL f qc l.length qT z xs) (zapVs F g.ep zv off l.length vs) :=
   fun hx=>RelL.clr (r:=⟨qc,qT,qty,true,qm⟩) (k:=l.length) (a:=off) hX.I hq hF hg hnp hzE htip hx
  have hinert:∀{T:Ty} {x:T.den} {v:V} (m:Nat),ERe (E.X ss st).np T x v→V.upd F g.ep m zv v=v:=fun m hv=>ERe.fix (inert_upd hnp) hv
  have hheap:∀(k i:Nat),(zapH F g.ep zv off k st.heap).length=st.heap.length∧(∀t vs,st.heap[i]? = some (.cells t vs)→(zapH F g.ep zv off k st.heap)[i]? = some (.cells t (zapVs F g.ep zv off k vs))) ∧
   (∀vs,st.heap[i]? = some (.mapo vs)→(∀m,vs.map (fun x=>(V.upd F g.ep m zv x.1,V.upd F g.ep m zv x.2))=vs)→(zapH F g.ep zv off k st.heap)[i]? = some (.mapo vs)):=by
   intro k i
   induction k with
   | zero=>exact⟨rfl,fun t vs h=>h,fun vs h _=>h⟩
   | succ k ih =>
    obtain⟨i1,i2,i3⟩:=ih
    refine⟨by simp[zapH,updHeap,i1],fun t vs h=>?_,fun vs h hm=>?_⟩
    · simp[zapH,updHeap,i2 t vs h,zapVs]
    · have:=hm (off+k)
      simp only[zapH,updHeap,List.getElem?_map,i3 vs h hm,Option.map_some]
      rw[this]
  obtain⟨g1,g2⟩:=fin (zapH F g.ep zv off l.length st.heap) (List.replicate l.length F++st.kills) (hheap _ 0).1 (fun i b hb=>by
   have:=hX.box i b hb
   cases b with
   | gone=>trivial
   | cells t w' cs =>
    obtain⟨vs,k1,k2,k3⟩:=this
    exact⟨_,(hheap _ _).2.1 _ _ k1,hclr k2,k3⟩
   | mapo K T w' es =>
    obtain⟨vs,k1,k2,k3⟩:=this
    exact⟨vs,(hheap _ _).2.2 _ k1 (fun m=>k2.fix fun p q r=>by rw[hinert m r.1,hinert m r.2]),k2,k3⟩) (fun G hG=>by
   rcases List.mem_append.1 hG with hG | hG
   · exact .inr (by rw[List.eq_of_mem_replicate hG];exact hF)
   · exact .inl hG)
  refine⟨?_,g1,g2⟩
  rw[hXe]
  exact hclr hs
end
end Go.Abs

namespace Go.Abs
open Go
section
variable {E E':GE} {ss ss':SS} {st st':St} {P:Program} {ρ:Type} {r:ρ}
theorem newsT_rel {X:XC} {T:Ty} {n:Nat} {ts:Array TypeId} {y:SV} {w:V} {ys:List T.den} (hT:T.size=n+1) (hn:notIntB P ts=true) (h:newsT T y=some ys) (hy:Rel X y w) :
 ∃szy yl,newsB P ts w=some (szy,yl)∧All2 (ERe X.np T) ys yl∧(szy=n+1∨ys=[]):=by
 unfold newsT at h
 split at h
 · simp only[Option.some.injEq] at h;subst h
   obtain⟨q,rfl⟩:=hy
   exact⟨q,[],by simp[newsB,hn],trivial,.inr rfl⟩
 · rename_i T' tk l
   split at h
   · rename_i hTT
     subst hTT
     simp only[castL,Option.some.injEq] at h;subst h
     obtain⟨t0,off,q,xs,rfl,htok,hl⟩:=hy
     refine⟨q,xs,by simp[newsB,hn],hl,?_⟩
     cases tk with
     | ro =>
      rcases htok.1 with ⟨_,a⟩ | ⟨_,a⟩
      · exact .inr a
      · exact .inl (a.trans hT)
     | clip=>exact .inl (htok.2.1.trans hT)
     | own f e z tip =>
      obtain⟨_,r,_,_,_,h4⟩:=htok
      rcases h4 with ⟨_,b,_⟩ | ⟨F,ep,_,b,_⟩
      · exact .inr b
      · exact .inl (b.trans hT)
   · simp at h
 · rename_i s
   split at h
   · rename_i hTT
     subst hTT
     simp only[castL,Option.some.injEq] at h;subst h
     simp only[Rel] at hy;subst hy
     refine⟨1,s.map fun b=>V.int .u8 b.toNat,by simp only[newsB,hn,if_true],?_,.inl (by simpa[Ty.size] using hT)⟩
     refine All2.map ?_
     induction s with
     | nil=>trivial
     | cons b s ih=>exact⟨⟨_,rfl,by simp[Ty.isAgg]⟩,ih⟩
   · simp at h
 · simp at h
theorem ERe_int {N:Nat→Prop} {k:IntKind} {n:Int} {v:V} (h:ERe N (.int k) n v):v=.int k n:=by
 obtain⟨cs,h1,h2⟩:=h
 simp only[ERc] at h1;subst h1
 simpa[Ty.isAgg] using h2.symm
theorem mapM_byte {X:XC}:∀(l:List Int) {xs:List V},All2 (ERe X.np (.int .u8)) l xs→xs.mapM byteB=some (l.map fun n=>UInt8.ofNat n.toNat)
 | [],xs,h=>by
  obtain rfl:=h.nil_left
  rfl
 | n::l,[],h=>by simp[All2] at h
 | n::l,v::xs,h=>by
  obtain rfl:=ERe_int h.1
  simp[List.mapM_cons,byteB,mapM_byte l h.2]
theorem sconv_rel (hX:XR E ss st) {a b:TypeId} {x:SV} {v:V} {K:SV→SS→Option ρ} (hx:Rel (E.X ss st) x v) (h:sconv P a b x ss K=some r) :
 ∃E' z ss' u st',convB P a b v st=some (u,st')∧Rel (E'.X ss' st') z u∧XR E' ss' st'∧Tr E ss st E' ss' st'∧(ss'.kills.length=ss.kills.length→st'.kills.length=st.kills.length)∧K z ss'=some r:=by
 unfold sconv at h
 split at h
 · rename_i k1 k2 k3 n h1 h2
   simp only[Rel] at hx;subst hx
   exact⟨E,.int k2 (k2.wrap n),ss,.int k2 (k2.wrap n),st,by simp only[convB,h1,h2],rfl,hX,Tr.refl,fun _=>rfl,h⟩
 · rename_i s h1 h2
   simp only[Rel] at hx;subst hx
   exact⟨E,.str s,ss,.str s,st,by simp only[convB,h1,h2],rfl,hX,Tr.refl,fun _=>rfl,h⟩
 · rename_i e s h1 h2
   simp only[Rel] at hx;subst hx
   split at h
   · rename_i h3
     obtain⟨g1,g2⟩:=row_new (E:=E) hX (T:=.int .u8) (ty:=e) (wr:=true) (c:=some st.fams.length) (fams':=st.fams++[⟨0,s.length,1,e,true⟩]) (by simp) (fun _ _ h=>getElem?_app_old h)
      (by rintro F rfl';cases rfl';exact⟨rfl,⟨0,s.length,1,e,true⟩,by simp,rfl,rfl,rfl,by simp⟩) (by simp)
     refine⟨_,_,_,.list (.own st.fams.length 0) 0 1 (s.map fun b=>V.int .u8 b.toNat),{ st with fams:=st.fams++[⟨0,s.length,1,e,true⟩] },?_,?_,g1,g2,fun _=>rfl,h⟩
     · simp only[convB,h1,h2,h3]
     · refine Rel.newList (g:=⟨0,s.length,1,e,true⟩) (ty:=e) (wr:=true) (by simp[SS.newRow]) (row_at _ _ _) (by simp) rfl (by simp) rfl ?_
       refine All2.map ?_
       clear h g1 g2
       induction s with
       | nil=>trivial
       | cons b s ih=>exact⟨⟨_,rfl,by simp[Ty.isAgg]⟩,ih⟩
   · simp at h
 · rename_i e tk xs h1 h2
   obtain⟨t0,off,q,vs,rfl,htok,hl⟩:=hx
   split at h
   · rename_i h3
     have hq:t0=.nil∨q=1:=by
      cases tk with
      | ro=>exact htok.1.size
      | clip=>exact .inr htok.2.1
      | own f e z tip =>
       obtain⟨_,r,_,_,_,h4⟩:=htok
       rcases h4 with ⟨a | a,_⟩ | ⟨F,ep,_,b,_⟩
       · exact .inl a
       · exact .inr a.2.1
       · exact .inr b
     refine⟨E,.str (List.map (fun n:Int=>UInt8.ofNat n.toNat) xs),ss,.str (List.map (fun n:Int=>UInt8.ofNat n.toNat) xs),st,?_,rfl,hX,Tr.refl,fun _=>rfl,h⟩
     simp only[convB,h1,h2,h3]
     rw[if_pos hq,mapM_byte xs hl];rfl
   · simp at h
 · rename_i e h1 h2
   obtain⟨q,rfl⟩:=hx
   split at h
   · rename_i h3
     refine⟨E,.str [],ss,.str [],st,?_,rfl,hX,Tr.refl,fun _=>rfl,h⟩
     simp only[convB,h1,h2,h3]
     simp
   · simp at h
 · simp at h
def OpOk (E:GE) (ss:SS) (S:List V) (st:St) (res:Option Out) (K:SV→List SV→SS→Option ρ) (r:ρ):Prop :=
 ∃E' z s' ss' u S' st',res=some (.val u S' st')∧Rel (E'.X ss' st') z u∧RelL (E'.X ss' st') s' S'∧XR E' ss' st'∧Tr E ss st E' ss' st' ∧
  (ss'.kills.length=ss.kills.length→st'.kills.length=st.kills.length)∧K z s' ss'=some r
theorem OpOk.still {s:List SV} {S:List V} {res:Option Out} {K:SV→List SV→SS→Option ρ} {z:SV} {u:V} (hX:XR E ss st) (hs:RelL (E.X ss st) s S) (hr:res=some (.val u S st)) (hz:Rel (E.X ss st) z u) (h:K z s ss=some r) :
 OpOk E ss S st res K r:=⟨E,z,s,ss,u,S,st,hr,hz,hs,hX,Tr.refl,fun _=>rfl,h⟩
theorem sbuiltin_rel (hX:XR E ss st) {s:List SV} {S:List V} (hs:RelL (E.X ss st) s S) {b:Builtin} {ts:Array TypeId} {args:List SV} {A:List V} {K:SV→List SV→SS→Option ρ}
 (ha:RelL (E.X ss st) args A) (h:sbuiltin P b ts args s ss K=some r):OpOk E ss S st (builtinB P b ts A S st) K r:=by
 unfold sbuiltin at h
 split at h
 ·
  rename_i x
  obtain⟨v,A',rfl,hv,ha⟩:=ha
  simp only[RelL] at ha;subst ha
  simp only[Rel] at hv;subst hv
  split at h
  · rename_i t ht
    split at h
    · rename_i hu
      exact OpOk.still hX hs (z:=.int .i64 x.length) (u:=.int .i64 x.length) (by simp only[builtinB,ht,hu,mk,Option.map_some]) rfl h
    · simp at h
  · simp at h
 · rename_i T tk xs
   obtain⟨v,A',rfl,hv,ha⟩:=ha
   simp only[RelL] at ha;subst ha
   obtain⟨t0,off,q,vs,rfl,_,hl⟩:=hv
   split at h
   · rename_i t ht
     split at h
     · rename_i hu
       exact OpOk.still hX hs (z:=.int .i64 xs.length) (u:=.int .i64 vs.length) (by simp only[builtinB,ht,hu,mk,Option.map_some]) (by rw[←hl.len];rfl) h
     · simp at h
   · simp at h
 · obtain⟨v,A',rfl,hv,ha⟩:=ha
   simp only[RelL] at ha;subst ha
   obtain⟨q,rfl⟩:=hv
   split at h
   · rename_i t ht
     split at h
     · rename_i hu
       exact OpOk.still hX hs (z:=.int .i64 0) (u:=.int .i64 0) (by simp only[builtinB,ht,hu,mk,Option.map_some,List.length_nil];try rfl) rfl h
     · simp at h
   · simp at h
 · rename_i x y
   obtain⟨v,A',rfl,hv,w,A'',rfl,hw,ha⟩:=ha
   simp only[RelL] at ha;subst ha
   split at h
   · rename_i hn
     split at h
     · rename_i t ht
       split at h
       · rename_i elem hu
         split at h
         · rename_i n bb T h1 h2 h3
           split at h
           · rename_i hc
             split at h
             · rename_i ys hys
               obtain⟨szy,yl,e1,e2,e3⟩:=newsT_rel (X:=E.X ss st) hc.1 hn hys hw
               obtain⟨E',z,ss',u,st',s',S',g1,g2,g2',g3,g4,g5,g6⟩:=sappend_rel hX hs hu h1 h2 hc.1 hc.2 hv e2 e3 (wrOf_ty h3) h
               exact⟨E',z,s',ss',u,S',st',by simp only[builtinB,ht,e1,g1,mk3,Option.map_some],g2,g2',g3,g4,g5,g6⟩
             · simp at h
           · simp at h
         · simp at h
       · simp at h
     · simp at h
   · split at h
     · rename_i t ht
       split at h
       · rename_i elem hu
         split at h
         · rename_i n bb T z h1 h2 h3 h4
           split at h
           · rename_i hc
             split at h
             · rename_i k m hk
               simp only[Rel] at hw
               split at h
               · rename_i zt hzt
                 obtain⟨g1,g2⟩:=grd_elim h
                 obtain⟨v0,e1,e2⟩:=szero_rel (X:=E.X ss st) h4
                 have htok:z.toks=[]:=by
                  unfold szero at h4
                  cases hw0:(P.info? elem).bind (·.zero) with
                  | none=>rw[hw0] at h4;simp at h4
                  | some w0=>rw[hw0] at h4;simp only[Option.map_some,Option.some.injEq] at h4;subst h4;exact toks_const 3 w0
                 have hze:=decV_rel hX.I hzt e2 (by rw[htok];simp)
                 have hz2:v0.flat.map List.length=some (n+1):=by
                  have:=hc.2
                  rw[e1] at this
                  simpa using this
                 have enew:newsB P ts w=some (n+1,List.replicate m.toNat v0):=by
                  rw[hw]
                  cases hfl:v0.flat with
                  | none=>rw[hfl] at hz2;simp at hz2
                  | some c =>
                   rw[hfl] at hz2
                   simp only[Option.map_some,Option.some.injEq] at hz2
                   simp only[newsB,ht,Option.bind_some,hu,hk,e1,h2,hfl,Option.map_some,hz2]
                   rw[if_pos g1]
                 obtain⟨E',z',ss',u,st',s',S',q1,q2,q2',q3,q4,q5,q6⟩:=sappend_rel (szy:=n+1) hX hs hu h1 h2 hc.1 hc.2 hv (All2.rep hze m.toNat) (.inl rfl) (wrOf_ty h3) g2
                 exact⟨E',z',s',ss',u,S',st',by simp only[builtinB,ht,enew,q1,mk3,Option.map_some],q2,q2',q3,q4,q5,q6⟩
               · simp at h
             · simp at h
           · simp at h
         · simp at h
       · simp at h
     · simp at h
 · obtain⟨v,A',rfl,hv,ha⟩:=ha
   simp only[RelL] at ha;subst ha
   obtain⟨q,rfl⟩:=hv
   split at h
   · rename_i t ht
     split at h
     · rename_i hu
       exact OpOk.still hX hs (z:=.int .i64 0) (u:=.int .i64 0) (by simp only[builtinB,ht,hu,mk,Option.map_some,List.length_nil];try rfl) rfl h
     · simp at h
   · simp at h
 · rename_i T xs
   obtain⟨v,A',rfl,hv,ha⟩:=ha
   simp only[RelL] at ha;subst ha
   obtain⟨t0,off,q,vs,rfl,⟨rfl,_⟩,hl⟩:=hv
   split at h
   · rename_i t ht
     split at h
     · rename_i hu
       exact OpOk.still hX hs (z:=.int .i64 xs.length) (u:=.int .i64 vs.length) (by simp only[builtinB,ht,hu,mk,Option.map_some]) (by rw[←hl.len];rfl) h
     · simp at h
   · simp at h
 · rename_i T f e b l
   obtain⟨v,A',rfl,hv,ha⟩:=ha
   simp only[RelL] at ha;subst ha
   split at h
   · rename_i t ht
     split at h
     · rename_i elem hu
       split at h
       · rename_i n z q hsz hz hq
         split at h
         · rename_i hc
           obtain⟨h1,h2,h3,h4⟩:=hc
           subst h1
           obtain⟨S',st',g1,g2,g3,g4⟩:=sclear_rel hX hs hv hu hsz hz hq h2 h3 h4
           exact⟨E,.tup [],_,_,.tup [],S',st',by simp only[builtinB,ht,g1,Option.map_some],⟨[],rfl,rfl⟩,g2,g3,g4,fun hk=>by simp at hk,h⟩
         · simp at h
       · simp at h
     · simp at h
   · simp at h
 · rename_i k a rest
   obtain⟨v,A',rfl,hv,ha⟩:=ha
   simp only[Rel] at hv;subst hv
   split at h
   · rename_i z hz
     obtain⟨u,e1,e2⟩:=smin_rel (X:=E.X ss st) hz ha (va:=some (.int k a)) (by rintro x e;cases e;exact⟨_,rfl,rfl⟩)
     exact OpOk.still hX hs (by simp only[builtinB,e1,mk,Option.map_some]) e2 h
   · simp at h
 · rename_i k a rest
   obtain⟨v,A',rfl,hv,ha⟩:=ha
   simp only[Rel] at hv;subst hv
   split at h
   · rename_i z hz
     obtain⟨u,e1,e2⟩:=smax_rel (X:=E.X ss st) hz ha (va:=some (.int k a)) (by rintro x e;cases e;exact⟨_,rfl,rfl⟩)
     exact OpOk.still hX hs (by simp only[builtinB,e1,mk,Option.map_some]) e2 h
   · simp at h
 · simp at h
theorem RelL.ops {X:XC} {s:List SV} {S:List V} (h:RelL X s S) (l:List Operand):RelL X (l.map (sev s)) (l.map (ev S)):=RelL.map (fun a=>sev_rel h a) l
theorem sbuildSlice_rel (hX:XR E ss st) {s:List SV} {S:List V} (hs:RelL (E.X ss st) s S) {t:TypeId} {n:Nat} {parts:List (Nat×SV)} {parts':List (Nat×V)} {K:SV→List SV→SS→Option ρ}
 (hp:PR (E.X ss st) parts parts') (h:sbuildSlice P t n parts ss (fun v ss=>K v s ss)=some r):OpOk E ss S st (mk S st (buildSliceB P t n parts')) K r:=by
 unfold sbuildSlice at h
 split at h
 · rename_i elem hu
   split at h
   · rename_i m T h1 h2
     split at h
     · rename_i hc
       split at h
       · rename_i l hl
         obtain⟨c1,c2,c3,c4,c5⟩:=hc
         have hX2:=hX.retire (SV.toksL (parts.map (·.2)))
         have tr2:Tr E ss st E (ss.retire (SV.toksL (parts.map (·.2)))) st:=Tr.retire _
         have hfst:parts'.map (·.1)=parts.map (·.1):=by
          have:∀{a:List (Nat×SV)} {b:List (Nat×V)},PR (E.X ss st) a b→b.map (·.1)=a.map (·.1):=by
           intro a
           induction a with
           | nil=>intro b hb;have:=hb.nil_left;subst this;rfl
           | cons p a ih =>
            intro b hb
            cases b with
            | nil=>simp[PR,All2] at hb
            | cons q b=>simp[hb.1.1,ih hb.2]
          exact this hp
         have hsnd:RelL (E.X (ss.retire (SV.toksL (parts.map (·.2)))) st) (parts.map (·.2)) (parts'.map (·.2)):=by
          have:∀{a:List (Nat×SV)} {b:List (Nat×V)},PR (E.X ss st) a b→RelL (E.X ss st) (a.map (·.2)) (b.map (·.2)):=by
           intro a
           induction a with
           | nil=>intro b hb;have:=hb.nil_left;subst this;rfl
           | cons p a ih =>
            intro b hb
            cases b with
            | nil=>simp[PR,All2] at hb
            | cons q b=>exact⟨_,_,rfl,hb.1.2,ih hb.2⟩
          exact (this hp).stay0 tr2.stay0
         have hl2:=decEs_rel hX2.I hl hsnd (ret_of _)
         have hlens:∀{l:List T.den} {xs:List V},All2 (ERe (E.X (ss.retire (SV.toksL (parts.map (·.2)))) st).np T) l xs→∀x∈xs,∃c,x.flat=some c∧c.length=m:=by
          intro l
          induction l with
          | nil=>intro xs hx x hm;have:=hx.nil_left;subst this;simp at hm
          | cons a l ih =>
           intro xs hx x hm
           cases xs with
           | nil=>simp[All2] at hx
           | cons b xs =>
            rcases List.mem_cons.1 hm with rfl | hm
            · exact⟨_,ERe.flat hx.1,by rw[ERc.len T (ERe.cells hx.1),c2]⟩
            · exact ih hx.2 x hm
         refine⟨E,_,s,_,.list .clip 0 m (parts'.map (·.2)),S,st,?_,?_,hs.stay0 tr2.stay0,hX2,tr2,fun _=>rfl,h⟩
         · have hall:(parts'.all fun p=>match p.2.flat with | some c=>c.length==m | none=>false)=true:=by
            rw[List.all_eq_true]
            intro p hp'
            obtain⟨c,e1,e2⟩:=hlens hl2 p.2 (List.mem_map_of_mem hp')
            rw[e1];simpa using e2
           have:buildSliceB P t n parts'=some (.list .clip 0 m (parts'.map (·.2))):=by
            unfold buildSliceB
            rw[hu]
            simp only[h1]
            rw[if_pos ⟨c1,c3,c4,by rw[hfst];exact c5,hall⟩]
           rw[this];rfl
         · exact⟨_,_,_,_,rfl,⟨rfl,c2,rfl⟩,hl2⟩
       · simp at h
     · simp at h
   · simp at h
 · simp at h
theorem skey_same {X:XC} {kt:TypeId} {K:Ty} (h:skey P kt K=true) {a b:K.den} {v w:V} (ha:ERe X.np K a v) (hb:ERe X.np K b w):keyB P kt v=true∧sameB v w=some (K.beq a b):=by
 cases K with
 | int k =>
  obtain rfl:=ERe_int ha
  obtain rfl:=ERe_int hb
  simp only[skey] at h
  refine⟨?_,by simp[sameB,Ty.beq]⟩
  simp only[keyB]
  split at h
  · rename_i k' hu;rw[hu];exact h
  · simp at h
 | str =>
  obtain⟨cs,h1,h2⟩:=ha
  obtain⟨cs',h1',h2'⟩:=hb
  simp only[ERc] at h1 h1';subst h1 h1'
  simp[Ty.isAgg] at h2 h2'
  subst h2 h2'
  simp only[skey] at h
  refine⟨?_,by simp[sameB,Ty.beq]⟩
  simp only[keyB]
  split at h
  · rename_i hu;rw[hu]
  · simp at h
 | _=>simp[skey] at h
theorem sfind_rel {X:XC} {kt:TypeId} {K T:Ty} (h:skey P kt K=true) {kx:K.den} {kv:V} (hk:ERe X.np K kx kv):∀{es:List (K.den×T.den)} {vs:List (V×V)},All2 (fun p q=>ERe X.np K p.1 q.1∧ERe X.np T p.2 q.2) es vs →
 (match sfind K T kx es with | some v=>∃w,findK kv vs=some (some w)∧ERe X.np T v w | none=>findK kv vs=some none)
 | [],vs,ha=>by
  obtain rfl:=ha.nil_left
  rfl
 | p::es,[],ha=>by simp[All2] at ha
 | p::es,q::vs,ha=>by
  obtain⟨⟨h1,h2⟩,ha⟩:=ha
  have hs:=(skey_same h hk h1).2
  simp only[sfind]
  cases hb:K.beq kx p.1 with
  | true =>
   rw[hb] at hs
   simp only[if_true]
   exact⟨q.2,by simp only[findK,hs],h2⟩
  | false =>
   rw[hb] at hs
   simp only[Bool.false_eq_true,if_false]
   have:=sfind_rel h hk ha
   cases hf:sfind K T kx es with
   | none=>rw[hf] at this;simp only[findK,hs];exact this
   | some v=>rw[hf] at this;simp only[findK,hs];exact this
theorem sputM_rel {X:XC} {kt:TypeId} {K T:Ty} (h:skey P kt K=true) {kx:K.den} {kv:V} (hk:ERe X.np K kx kv) {x:T.den} {w:V} (hx:ERe X.np T x w):∀{es:List (K.den×T.den)} {vs:List (V×V)},All2 (fun p q=>ERe X.np K p.1 q.1∧ERe X.np T p.2 q.2) es vs →
 ∃us,putK kv w vs=some us∧All2 (fun p q=>ERe X.np K p.1 q.1∧ERe X.np T p.2 q.2) (sputM K T kx x es) us
 | [],vs,ha=>by
  obtain rfl:=ha.nil_left
  exact⟨[(kv,w)],rfl,⟨hk,hx⟩,trivial⟩
 | p::es,[],ha=>by simp[All2] at ha
 | p::es,q::vs,ha=>by
  obtain⟨⟨h1,h2⟩,ha⟩:=ha
  have hs:=(skey_same h hk h1).2
  simp only[sputM]
  cases hb:K.beq kx p.1 with
  | true =>
   rw[hb] at hs
   simp only[if_true]
   exact⟨(kv,w)::vs,by simp only[putK,hs],⟨hk,hx⟩,ha⟩
  | false =>
   rw[hb] at hs
   simp only[Bool.false_eq_true,if_false]
   obtain⟨us,e1,e2⟩:=sputM_rel h hk hx ha
   exact⟨q::us,by simp only[putK,hs,e1,Option.map_some],⟨h1,h2⟩,e2⟩
theorem key_toks {kt:TypeId} {K:Ty} (h:skey P kt K=true) {x:SV} {a:K.den} (hd:decV K x=some a):x.toks=[]:=by
 cases K with
 | int k =>
  cases x<;>first | rfl | (simp[decV,Ty.dec] at hd)
 | str =>
  cases x<;>first | rfl | (simp[decV,Ty.dec] at hd)
 | _=>simp[skey] at h
theorem lookup_rel (hX:XR E ss st) {s:List SV} {S:List V} (hs:RelL (E.X ss st) s S) {t:TypeId} {m k:Operand} {ok:Bool} {kt et:TypeId} {i:Nat} {Kt Et:Ty} {w0:Bool} {es:List (Kt.den×Et.den)} {kx:Kt.den} {z:Et.den}
 (hu:P.underlying t=some (.map kt et)) (hm:sev s m=.mapr i) (hb:ss.boxes[i]? = some (.mapo Kt Et w0 es)) (hk:skey P kt Kt=true) (hkx:decV Kt (sev s k)=some kx) (hz:(szero P et).bind (decV Et)=some z) (hkt:∀f∈(sev s k).toks,Ret (E.X ss st) f) :
 ∃u,lookupK P st t (ev S m) (ev S k) ok=some u∧Rel (E.X ss st) (if ok then .tup [Et.sv ((sfind Kt Et kx es).getD z),.bool (sfind Kt Et kx es).isSome] else Et.sv ((sfind Kt Et kx es).getD z)) u:=by
 have hm':=sev_rel hs m
 rw[hm] at hm'
 obtain⟨hi,hm'⟩:=hm'
 obtain⟨vs,b1,b2,_⟩:=hX.box i _ hb
 have hkv:=decV_rel hX.I hkx (sev_rel hs k) hkt
 have hkey:=(skey_same hk hkv hkv).1
 rw[Option.bind_eq_some_iff] at hz
 obtain⟨z0,hz0,hz⟩:=hz
 obtain⟨zv,e1,e2⟩:=szero_rel (X:=E.X ss st) hz0
 have htok:z0.toks=[]:=by
  unfold szero at hz0
  cases hw:(P.info? et).bind (·.zero) with
  | none=>rw[hw] at hz0;simp at hz0
  | some w=>rw[hw] at hz0;simp only[Option.map_some,Option.some.injEq] at hz0;subst hz0;exact toks_const 3 w
 have hze:=decV_rel hX.I hz e2 (by rw[htok];simp)
 have hf:=sfind_rel hk hkv b2
 have hent:entriesB st (ev S m)=some vs:=by rw[hm'];simp only[entriesB,b1]
 cases hq:sfind Kt Et kx es with
 | none =>
  rw[hq] at hf
  refine⟨if ok then .tup [zv,.bool false] else zv,?_,?_⟩
  · simp only[lookupK,hu,hkey,hent,if_true,hf,e1,Option.map_some]
  · cases ok
    · exact sv_rel Et hze
    · exact⟨_,rfl,_,_,rfl,sv_rel Et hze,RelL.one rfl⟩
 | some v =>
  rw[hq] at hf
  obtain⟨w,f1,f2⟩:=hf
  refine⟨if ok then .tup [w,.bool true] else w,?_,?_⟩
  · simp only[lookupK,hu,hkey,hent,if_true,f1]
  · cases ok
    · exact sv_rel Et f2
    · exact⟨_,rfl,_,_,rfl,sv_rel Et f2,RelL.one rfl⟩
theorem update_rel (hX:XR E ss st) {s:List SV} {S:List V} (hs:RelL (E.X ss st) s S) {t:TypeId} {m k x:Operand} {kt et:TypeId} {i:Nat} {Kt Et:Ty} {es:List (Kt.den×Et.den)} {kx:Kt.den} {vx:Et.den}
 (hu:P.underlying t=some (.map kt et)) (hm:sev s m=.mapr i) (hb:ss.boxes[i]? = some (.mapo Kt Et true es)) (hk:skey P kt Kt=true) (hkx:decV Kt (sev s k)=some kx) (hvx:decV Et (sev s x)=some vx) (hkt:(sev s k).toks=[]) :
 ∃st',updateK P st t (ev S m) (ev S k) (ev S x)=some st'∧XR E { (ss.retire (sev s x).toks) with boxes:=ss.boxes.set i (.mapo Kt Et true (sputM Kt Et kx vx es)) } st' ∧
  Tr E ss st E { (ss.retire (sev s x).toks) with boxes:=ss.boxes.set i (.mapo Kt Et true (sputM Kt Et kx vx es)) } st'∧st'.kills=st.kills:=by
 have hX2:=hX.retire (sev s x).toks
 have tr2:Tr E ss st E (ss.retire (sev s x).toks) st:=Tr.retire _
 have hs2:=hs.stay0 tr2.stay0
 have hm':=sev_rel hs m
 rw[hm] at hm'
 obtain⟨hi,hm'⟩:=hm'
 have hb2:(ss.retire (sev s x).toks).boxes[i]? = some (.mapo Kt Et true es):=by rw[retire_eq];exact hb
 obtain⟨vs,b1,b2,b3⟩:=hX2.box i _ hb2
 have hkv:=decV_rel hX2.I hkx (sev_rel hs2 k) (by rw[hkt];simp)
 have hxv:=decV_rel hX2.I hvx (sev_rel hs2 x) (ret_of _)
 have hkey:=(skey_same hk hkv hkv).1
 obtain⟨us,f1,f2⟩:=sputM_rel hk hkv hxv b2
 have hlen:E.mu i<st.heap.length:=(List.getElem?_eq_some_iff.1 b1).1
 obtain⟨g1,g2⟩:=boxes_set (X:=E.X (ss.retire (sev s x).toks) st) hX2 (b':=.mapo Kt Et true (sputM Kt Et kx vx es)) (bx:=.mapo us) hb2 rfl rfl ⟨us,by simp[hlen],f2,b3⟩
 refine⟨{ st with heap:=st.heap.set (E.mu i) (.mapo us) },?_,?_,?_,rfl⟩
 · simp only[updateK,hu,hm',hkey,if_true,b1,f1,setMapB]
   rw[if_pos (b3 rfl)]
 · have:=g1
   rw[retire_eq] at this
   rw[retire_eq]
   exact this
 · have:=tr2.trans g2
   rw[retire_eq] at this
   rw[retire_eq]
   exact this
theorem aop_assert_nil {S:List V} {o:Oper} {x:Operand} {t0 t:TypeId} (hop:o.op=.typeAssert x t0 t true) (he:ev S x=.nili) (hn:P.underlying t=none→False) (hi:∀m,P.underlying t=some (.interface m)→False) :
 aop P S o st=mk S st ((zeroB P t).map fun z=>.tup [z,.bool false]):=by
 simp only[aop,hop,he]
theorem aop_assert {S:List V} {o:Oper} {x:Operand} {t0 t t':TypeId} {v:V} (hop:o.op=.typeAssert x t0 t true) (he:ev S x=.iface t' v) (hn:P.underlying t=none→False) (hi:∀m,P.underlying t=some (.interface m)→False) :
 aop P S o st=if t'=t then mk S st (some (.tup [v,.bool true])) else mk S st ((zeroB P t).map fun z=>.tup [z,.bool false]):=by
 simp only[aop,hop,he]
theorem sop_rel (hX:XR E ss st) {s:List SV} {S:List V} (hs:RelL (E.X ss st) s S) {o:Oper} {K:SV→List SV→SS→Option ρ} {call:FuncId→List SV→SS→(SV→SS→Option ρ)→Option ρ}
 (h:sop P s o ss K call=some r):OpOk E ss S st (aop P S o st) K r ∨
  (∃g args A,aop P S o st=some (.call g A)∧g<P.funcs.size∧RelL (E.X ss st) args A∧call g args { ss with kills:=[],y:=none } (fun v ss'=>K v (skillAll ss'.kills s) { ss' with kills:=ss'.kills++ss.kills,y:=ss.y })=some r) ∨
  ∃k args A,E.yk=some k∧aop P S o st=some (.call (P.funcs.size+k) A)∧RelL (E.X ss st) args A∧call P.funcs.size args ss (fun v ss'=>K v (skillAll ss'.kills s) { ss' with kills:=ss'.kills++ss.kills,y:=ss.y })=some r:=by
 have still:∀{u:V} {z:SV},aop P S o st=some (.val u S st)→Rel (E.X ss st) z u→K z s ss=some r→OpOk E ss S st (aop P S o st) K r:=fun a b c=>OpOk.still hX hs a b c
 unfold sop at h
 simp only[kOpt] at h
 split at h<;>rename_i hop
 · exact .inl (still (by simp only[aop,hop,mk,Option.map_some]) (sev_rel hs _) h)
 · exact .inl (still (by simp only[aop,hop,mk,Option.map_some]) (sev_rel hs _) h)
 ·
  rename_i c a b
  have hc:=sev_rel hs c
  split at h
  · rename_i q hq
    rw[hq] at hc
    simp only[Rel] at hc
    split at h
    · rename_i hq';subst hq'
      exact .inl (still (by simp only[aop,hop,hc,mk,Option.map_some]) (sev_rel hs a) h)
    · rename_i hq'
      have:q=false:=by simpa using hq'
      subst this
      exact .inl (still (by simp only[aop,hop,hc,mk,Option.map_some]) (sev_rel hs b) h)
  · simp at h
 ·
  rename_i t
  split at h
  · rename_i cs hcs
    cases hz:szero P t with
    | none=>rw[hz] at hcs;simp at hcs
    | some z =>
     rw[hz] at hcs
     obtain⟨v,e1,e2⟩:=szero_rel (X:=E.X ss st) hz
     obtain⟨vs,e3,e4⟩:=e2.flat hcs
     have tr:=Tr.alloc (E:=E) (ss:=ss) (st:=st) (.cells t true cs) (.cells t vs)
     have hX':=XR.alloc (E:=E) hX (b:=.cells t true cs) (bx:=.cells t vs) ⟨vs,by simp,e4.stay0 tr.stay0,fun _=>hX.lo⟩
     refine .inl ⟨_,_,s,_,.ptr st.heap.length 0,S,_,?_,?_,hs.stay0 tr.stay0,hX',tr,fun _=>rfl,h⟩
     · simp only[aop,hop,e1,Option.bind_some,e3,Option.map_some]
     · exact⟨by simp,by simp[GE.box]⟩
  · simp at h
 ·
  rename_i t x
  split at h
  · rename_i cs hcs
    obtain⟨vs,e3,e4⟩:=(sev_rel hs x).flat hcs
    have tr:=Tr.alloc (E:=E) (ss:=ss) (st:=st) (.cells t true cs) (.cells t vs)
    have hX':=XR.alloc (E:=E) hX (b:=.cells t true cs) (bx:=.cells t vs) ⟨vs,by simp,e4.stay0 tr.stay0,fun _=>hX.lo⟩
    refine .inl ⟨_,_,s,_,.ptr st.heap.length 0,S,_,?_,?_,hs.stay0 tr.stay0,hX',tr,fun _=>rfl,h⟩
    · simp only[aop,hop,e3,Option.map_some]
    · exact⟨by simp,by simp[GE.box]⟩
  · simp at h
 ·
  rename_i t parts
  split at h
  · rename_i z hz
    obtain⟨u,e1,e2⟩:=sbuild_rel hz (PR.of hs parts.toList)
    exact .inl (still (by simp only[aop,hop,e2,mk,Option.map_some]) e1 h)
  · simp at h
 · rename_i t n parts
   have:=sbuildSlice_rel hX hs (PR.of hs parts.toList) h
   exact .inl (by simpa only[aop,hop] using this)
 ·
  rename_i t a
  split at h
  · rename_i z hz
    obtain⟨u,e1,e2⟩:=sload_rel hX hz (sev_rel hs a)
    exact .inl (still (by simp only[aop,hop,e1,mk,Option.map_some]) e2 h)
  · simp at h
 ·
  rename_i t a x
  obtain⟨s',ss',S',st',e1,e2,e3,e4,e5,e6⟩:=sstore_rel hX hs h (sev_rel hs a) (sev_rel hs x)
  exact .inl ⟨E,.tup [],s',ss',.tup [],S',st',by simp only[aop,hop,e1,Option.map_some],⟨[],rfl,rfl⟩,e2,e3,e4,e5,e6⟩
 ·
  rename_i x
  have hx:=sev_rel hs x
  split at h
  · rename_i i off hq
    rw[hq] at hx
    have hx':=hx
    obtain⟨hi,e⟩:=hx
    exact .inl (still (z:=.ptr i off) (u:=.ptr (E.mu i) off) (by simp only[aop,hop,e,mk,Option.map_some]) ⟨hi,rfl⟩ h)
  · rename_i T t m off e hq
    rw[hq] at hx
    obtain⟨t0,idx,w,e1,h1,h2⟩:=hx
    exact .inl (still (z:=.elem T t m off e) (u:=.eptr t0 idx off w) (by simp only[aop,hop,e1,mk,Option.map_some]) ⟨t0,idx,w,rfl,h1,h2⟩ h)
  · rename_i f a b hq
    rw[hq] at hx
    obtain⟨va,vb,e1,h1,h2⟩:=hx
    exact .inl (still (z:=.func f a b) (u:=.func (.func f) va vb) (by simp only[aop,hop,e1,mk,Option.map_some]) ⟨va,vb,rfl,h1,h2⟩ h)
  · simp at h
 ·
  rename_i op t x y ty
  obtain⟨z,u,e1,e2,e3⟩:=sbin_rel h (sev_rel hs x) (sev_rel hs y)
  exact .inl (still (by simp only[aop,hop,e3,mk,Option.map_some]) e1 e2)
 ·
  rename_i op t x
  have hx:=sev_rel hs x
  split at h
  · rename_i b hq
    rw[hq] at hx
    simp only[Rel] at hx
    exact .inl (still (z:=.bool !b) (by simp only[aop,hop,hx,mk,Option.map_some]) rfl h)
  · rename_i k n hq
    rw[hq] at hx
    simp only[Rel] at hx
    exact .inl (still (z:=.int k (k.wrap (0-n))) (by simp only[aop,hop,hx,mk,Option.map_some]) rfl h)
  · simp at h
 ·
  rename_i a b x
  obtain⟨E',z,ss',u,st',e1,e2,e3,e4,e5,e6⟩:=sconv_rel (K:=fun v ss=>K v s ss) hX (sev_rel hs x) h
  exact .inl ⟨E',z,s,ss',u,S,st',by simp only[aop,hop,e1,mkS,Option.map_some],e2,hs.stay0 e4.stay0,e3,e4,e5,e6⟩
 ·
  rename_i t x
  split at h
  · simp at h
  · rename_i d hd hu
    exact .inl (still (z:=.iface t (sev s x)) (by
     simp only[aop,hop]
     rw[hu]
     cases d<;>first | rfl | exact (hd _ rfl).elim) ⟨_,rfl,sev_rel hs x⟩ h)
  · simp at h
 ·
  rename_i fn first cap
  exact .inl (still (z:=.func fn (first.toList.map (sev s)) (cap.toList.map (sev s))) (by simp only[aop,hop,mk,Option.map_some]) ⟨_,_,rfl,hs.ops _,hs.ops _⟩ h)
 ·
  rename_i t l c
  have hl:=sev_rel hs l
  have hc:=sev_rel hs c
  split at h
  · rename_i n m elem hq1 hq2 hu
    rw[hq1] at hl
    rw[hq2] at hc
    simp only[Rel] at hl hc
    split at h
    · rename_i by_ q z T h1 h2 h3 h4
      split at h
      · rename_i hcond
        split at h
        · rename_i zt hzt
          obtain⟨g1,g2⟩:=grd_elim h
          obtain⟨v,e1,e2⟩:=szero_rel (X:=E.X ss st) h3
          have htok:z.toks=[]:=by
           unfold szero at h3
           cases hw:(P.info? elem).bind (·.zero) with
           | none=>rw[hw] at h3;simp at h3
           | some w=>rw[hw] at h3;simp only[Option.map_some,Option.some.injEq] at h3;subst h3;exact toks_const 3 w
          have hze:=decV_rel hX.I hzt e2 (by rw[htok];simp)
          obtain⟨j1,j2⟩:=row_new (E:=E) hX (T:=T) (ty:=elem) (wr:=true) (c:=some st.fams.length) (fams':=st.fams++[⟨0,n.toNat,q+1,elem,true⟩]) (by simp) (fun _ _ h=>getElem?_app_old h)
           (by rintro F rfl';cases rfl';exact⟨rfl,⟨0,n.toNat,q+1,elem,true⟩,by simp,hcond.1.symm,rfl,rfl,by simp⟩) (by simp)
          refine .inl ⟨_,_,s,_,.list (.own st.fams.length 0) 0 (q+1) (List.replicate n.toNat v),S,{ st with fams:=st.fams++[⟨0,n.toNat,q+1,elem,true⟩] },?_,?_,hs.stay0 j2.stay0,j1,j2,fun _=>rfl,g2⟩
          · simp only[aop,hop,hl,hc,hu,h1,h2,e1]
            have hz2:v.flat.map List.length=some (q+1):=by
             have:=hcond.2
             rw[e1] at this
             simpa using this
            rw[if_pos ⟨g1.1,g1.2.1,g1.2.2.1,g1.2.2.2,hz2⟩]
          · exact Rel.newList (g:=⟨0,n.toNat,q+1,elem,true⟩) (ty:=elem) (wr:=true) (by simp[SS.newRow]) (row_at _ _ _) (by simp) rfl (by simp) hcond.1.symm ((All2.rep hze n.toNat).mono fun a b r=>r.mono (Tr.np j2))
        · simp at h
      · simp at h
    · simp at h
  · simp at h
 ·
  rename_i t x lo hi mx
  split at h
  · obtain⟨z,u,e1,e2,e3⟩:=sslice_rel h (sev_rel hs x) (OR.map hs lo) (OR.map hs hi)
    exact .inl (still (by simp only[aop,hop,e3,mk,Option.map_some]) e1 e2)
  · simp at h
 ·
  rename_i t x f
  split at h
  · rename_i z hz
    obtain⟨u,e1,e2⟩:=sfieldAddr_rel hz (sev_rel hs x)
    exact .inl (still (by simp only[aop,hop,e2,mk,Option.map_some]) e1 h)
  · simp at h
 · rename_i t x f
   split at h
   · rename_i z hz
     obtain⟨u,e1,e2⟩:=sfield_rel hz (sev_rel hs x)
     exact .inl (still (by simp only[aop,hop,e2,mk,Option.map_some]) e1 h)
   · simp at h
 ·
  rename_i t x i
  have hi:=sev_rel hs i
  split at h
  · rename_i k n hq
    rw[hq] at hi
    simp only[Rel] at hi
    obtain⟨z,u,e1,e2,e3⟩:=sindexAddr_rel h (sev_rel hs x)
    exact .inl (still (by simp only[aop,hop,hi,e3,mk,Option.map_some]) e1 e2)
  · simp at h
 · rename_i t x i
   have hi:=sev_rel hs i
   split at h
   · rename_i k n hq
     rw[hq] at hi
     simp only[Rel] at hi
     obtain⟨z,u,e1,e2,e3⟩:=sindex_rel h (sev_rel hs x)
     exact .inl (still (by simp only[aop,hop,hi,e3,mk,Option.map_some]) e1 e2)
   · simp at h
 ·
  rename_i x t0 t ok
  have hx:=sev_rel hs x
  split at h
  · simp at h
  · simp at h
  · rename_i hq hn hi
    rw[hq] at hx
    simp only[Rel] at hx
    split at h
    · rename_i z hz
      simp only[Option.map_eq_some_iff] at hz
      obtain⟨z0,hz0,rfl⟩:=hz
      obtain⟨v,e1,e2⟩:=szero_rel (X:=E.X ss st) hz0
      exact .inl (still (z:=.tup [z0,.bool false]) (u:=.tup [v,.bool false]) (by rw[aop_assert_nil hop hx hn hi,e1];rfl) ⟨_,rfl,_,_,rfl,e2,RelL.one rfl⟩ h)
    · simp at h
  · rename_i t' v0 hq hn hi
    rw[hq] at hx
    obtain⟨w,e0,hw⟩:=hx
    split at h
    · rename_i hte
      exact .inl (still (z:=.tup [v0,.bool true]) (u:=.tup [w,.bool true]) (by rw[aop_assert hop e0 hn hi,if_pos hte];rfl) ⟨_,rfl,_,_,rfl,hw,RelL.one rfl⟩ h)
    · rename_i hte
      split at h
      · rename_i z hz
        simp only[Option.map_eq_some_iff] at hz
        obtain⟨z0,hz0,rfl⟩:=hz
        obtain⟨v,e1,e2⟩:=szero_rel (X:=E.X ss st) hz0
        exact .inl (still (z:=.tup [z0,.bool false]) (u:=.tup [v,.bool false]) (by rw[aop_assert hop e0 hn hi,if_neg hte,e1];rfl) ⟨_,rfl,_,_,rfl,e2,RelL.one rfl⟩ h)
      · simp at h
  · simp at h
 ·
  rename_i x i
  have hx:=sev_rel hs x
  split at h
  · rename_i vs hq
    rw[hq] at hx
    obtain⟨us,e1,hx⟩:=hx
    split at h
    · rename_i z hz
      obtain⟨u,e2,e3⟩:=hx.get hz
      exact .inl (still (by simp only[aop,hop,e1,e2,mk,Option.map_some]) e3 h)
    · simp at h
  · simp at h
 ·
  rename_i t
  split at h
  · rename_i kt et hu
    split at h
    · rename_i Kt Et h1 h2
      have tr:=Tr.alloc (E:=E) (ss:=ss) (st:=st) (.mapo Kt Et true []) (.mapo [])
      have hX':=XR.alloc (E:=E) hX (b:=.mapo Kt Et true []) (bx:=.mapo []) ⟨[],by simp,trivial,fun _=>hX.lo⟩
      refine .inl ⟨_,.mapr ss.boxes.length,s,_,.mapr st.heap.length,S,_,?_,?_,hs.stay0 tr.stay0,hX',tr,fun _=>rfl,h⟩
      · simp only[aop,hop]
      · exact⟨by simp,by simp[GE.box]⟩
    · simp at h
  · simp at h
 ·
  rename_i t m k ok
  split at h
  · rename_i kt et hu
    split at h
    · rename_i i hm
      split at h
      · rename_i Kt Et w0 es hb
        split at h
        · rename_i kx z hk hkx hz
          obtain⟨u,e1,e2⟩:=lookup_rel (ok:=ok) hX hs hu hm hb hk hkx hz (by rw[key_toks hk hkx];simp)
          cases ok with
          | true=>exact .inl (still (by simp only[aop,hop,e1,mk,Option.map_some]) e2 h)
          | false=>exact .inl (still (by simp only[aop,hop,e1,mk,Option.map_some]) e2 h)
        · simp at h
      · simp at h
    · simp at h
  · simp at h
 · rename_i t m k x
   split at h
   · rename_i kt et hu
     split at h
     · rename_i i hm
       split at h
       · rename_i Kt Et es hb
         split at h
         · rename_i kx vx hk hkx hvx
           obtain⟨st',e1,e2,e3,e4⟩:=update_rel hX hs hu hm hb hk hkx hvx (key_toks hk hkx)
           exact .inl ⟨E,.tup [],s,_,.tup [],S,st',by simp only[aop,hop,e1,Option.map_some],⟨[],rfl,rfl⟩,hs.stay0 e3.stay0,e2,e3,fun _=>by rw[e4],h⟩
         · simp at h
       · simp at h
     · simp at h
   · simp at h
 · rename_i t m k x
   split at h
   · rename_i kt et hu
     split at h
     · rename_i i hm
       split at h
       · rename_i Kt Et es hb
         split at h
         · rename_i kx vx hk hkx hvx
           obtain⟨st',e1,e2,e3,e4⟩:=update_rel hX hs hu hm hb hk hkx hvx (key_toks hk hkx)
           exact .inl ⟨E,.tup [],s,_,.tup [],S,st',by simp only[aop,hop,e1,Option.map_some],⟨[],rfl,rfl⟩,hs.stay0 e3.stay0,e2,e3,fun _=>by rw[e4],h⟩
         · simp at h
       · simp at h
     · simp at h
   · simp at h
 ·
  rename_i c
  split at h
  · rename_i b hc
    have:=sbuiltin_rel hX hs (hs.ops c.args.toList) h
    exact .inl (by simpa only[aop,hop,hc] using this)
  · rename_i f hc
    have hf:=sev_rel hs f
    split at h
    · rename_i g first cap hq
      rw[hq] at hf
      obtain⟨va,vb,e1,h1,h2⟩:=hf
      split at h
      · rename_i hcb
        exact .inr (.inl ⟨g,_,va++c.args.toList.map (ev S)++vb,by simp only[aop,hop,hc,e1,hcb,if_true],callable_lt hcb,(h1.app (hs.ops _)).app h2,h⟩)
      · simp at h
    · rename_i hq
      rw[hq] at hf
      obtain⟨k,e1,e2⟩:=hf
      exact .inr (.inr ⟨k,_,c.args.toList.map (ev S),e1,by simp only[aop,hop,hc,e2],hs.ops _,h⟩)
    · simp at h
  · simp at h
 · simp at h
end
end Go.Abs

namespace Go.Abs
open Go
section
variable {X X1 X':XC} {rows:List SRow} {rsh:List RSh} {nb:Nat}
theorem Ex.join_some {a b:Option Ex} {x:Ex} (h:Ex.join a b=some x):∃p q,a=some p∧b=some q∧x=p.app q:=by
 unfold Ex.join at h
 split at h
 · rename_i p q
   simp only[Option.some.injEq] at h
   exact⟨p,q,rfl,rfl,h.symm⟩
 · simp at h
structure Cut (X1 X':XC) (rsh:List RSh) (nb:Nat) (x:Ex):Prop where
 I:XI X1
 rows':X'.rows=rsh.map (·.row)
 np:∀F,X1.np F→X'.np F
 ro:∀f∈x.ro,Ret X1 f
 nbs:X'.nb=nb
 mu:X'.mu=X1.mu
 fams:X'.fams=X1.fams
 chi:∀f∈x.owns,X'.chi f=X1.chi f
 born:∀f∈x.born,X'.chi f=none
 yk:X'.yk=X1.yk
theorem Cut.left {p q:Ex} (C:Cut X1 X' rsh nb (p.app q)):Cut X1 X' rsh nb p :=
 ⟨C.I,C.rows',C.np,fun f h=>C.ro f (by simp[Ex.app,h]),C.nbs,C.mu,C.fams,fun f h=>C.chi f (by simp[Ex.app,h]),fun f h=>C.born f (by simp[Ex.app,h]),C.yk⟩
theorem Cut.right {p q:Ex} (C:Cut X1 X' rsh nb (p.app q)):Cut X1 X' rsh nb q :=
 ⟨C.I,C.rows',C.np,fun f h=>C.ro f (by simp[Ex.app,h]),C.nbs,C.mu,C.fams,fun f h=>C.chi f (by simp[Ex.app,h]),fun f h=>C.born f (by simp[Ex.app,h]),C.yk⟩
theorem ex_inj (hrows:∀i:Nat,(X1.rows[i]?).map (fun r=>(r.T,r.cur))=(rows[i]?).map (fun r=>(r.T,r.cur))):∀(h:SSh) {xs:List SV} {x:Ex} {vs:List V},h.ex rows nb xs=some x→RelL X1 xs vs→Cut X1 X' rsh nb x →
 ∀{p k:List Dyn} {ys:List SV} {p' k':List Dyn},h.inj rsh (x.pay++p) (x.keep++k)=some (ys,p',k')→p'=p∧k'=k∧RelL X' ys vs:=by
 intro h
 induction h with
 | any =>
  intro xs x vs hx hr C p k ys p' k' hi
  unfold SSh.ex at hx
  split at hx
  · simp only[Option.some.injEq] at hx;subst hx
    simp only[SSh.inj,Option.some.injEq,Prod.mk.injEq] at hi
    obtain⟨rfl,rfl,rfl⟩:=hi
    obtain⟨v,vs',rfl,_,h2⟩:=hr
    simp only[RelL] at h2;subst h2
    exact⟨rfl,rfl,RelL.one trivial⟩
  · simp at hx
 | ty T =>
  intro xs x vs hx hr C p k ys p' k' hi
  unfold SSh.ex at hx
  split at hx
  · rename_i v
    split at hx
    · rename_i y hy
      simp only[Option.some.injEq] at hx;subst hx
      simp only[SSh.inj,List.cons_append,List.nil_append,Option.some.injEq,Prod.mk.injEq] at hi
      obtain⟨rfl,rfl,rfl⟩:=hi
      obtain⟨w,vs',rfl,h1,h2⟩:=hr
      simp only[RelL] at h2;subst h2
      exact⟨rfl,rfl,RelL.one (sv_rel T ((decV_rel C.I hy h1 C.ro).mono C.np))⟩
    · simp at hx
  · simp at hx
 | keep T =>
  intro xs x vs hx hr C p k ys p' k' hi
  unfold SSh.ex at hx
  split at hx
  · rename_i v
    split at hx
    · rename_i y hy
      simp only[Option.some.injEq] at hx;subst hx
      simp only[SSh.inj,List.cons_append,List.nil_append,Option.some.injEq,Prod.mk.injEq] at hi
      obtain⟨rfl,rfl,rfl⟩:=hi
      obtain⟨w,vs',rfl,h1,h2⟩:=hr
      simp only[RelL] at h2;subst h2
      exact⟨rfl,rfl,RelL.one (sv_rel T ((decV_rel C.I hy h1 C.ro).mono C.np))⟩
    · simp at hx
  · simp at hx
 | own T f z =>
  intro xs x vs hx hr C p k ys p' k' hi
  unfold SSh.ex at hx
  split at hx
  · split at hx
    · rename_i hz
      simp only[Option.some.injEq] at hx;subst hx
      simp only[SSh.inj,List.cons_append,List.nil_append] at hi
      split at hi
      · rename_i r hrr
        split at hi
        · rename_i hT
          simp only[Option.some.injEq,Prod.mk.injEq] at hi
          obtain⟨rfl,rfl,rfl⟩:=hi
          obtain⟨w,vs',rfl,⟨q,rfl⟩,h2⟩:=hr
          simp only[RelL] at h2;subst h2
          refine⟨rfl,rfl,RelL.one ⟨_,_,_,_,rfl,⟨fun _=>rfl,r.row,by rw[C.rows'];simp[hrr],hT.2,Nat.le_refl _,.inl ⟨.inl rfl,rfl,.inl (C.born f (by simp))⟩⟩,trivial⟩⟩
        · simp at hi
      · simp at hi
    · simp at hx
  · rename_i T' f' e z' t l
    split at hx
    · rename_i hc
      obtain⟨rfl,rfl,rfl,rfl,hcur,hTr⟩:=hc
      simp only[Option.some.injEq] at hx;subst hx
      simp only[SSh.inj,List.cons_append,List.nil_append] at hi
      split at hi
      · rename_i r hrr
        split at hi
        · rename_i hT
          simp only[Option.some.injEq,Prod.mk.injEq] at hi
          obtain⟨rfl,rfl,rfl⟩:=hi
          obtain⟨w,vs',rfl,⟨t0,off,q,xs0,rfl,⟨h0,r0,hr0,hT0,hle,h4⟩,h3⟩,h2⟩:=hr
          simp only[RelL] at h2;subst h2
          have hcur0:e=r0.cur:=by
           have:=hrows f'
           rw[hr0] at this
           cases hq:rows[f']? with
           | none=>rw[hq] at this;simp at this
           | some q0 =>
            rw[hq] at this hcur
            simp only[Option.map_some,Option.some.injEq,Prod.mk.injEq] at this hcur
            omega
          have hchi:=C.chi f' (by simp)
          refine⟨rfl,rfl,RelL.one ⟨_,_,_,_,rfl,⟨h0,r.row,by rw[C.rows'];simp[hrr],hT.2,Nat.le_refl _,?_⟩,h3.mono fun a b r=>r.mono C.np⟩⟩
          rcases h4 with ⟨a,b,c⟩ | ⟨F,ep,a,b,c,d⟩
          · refine .inl ⟨a,b,.inl ?_⟩
            rcases c with c | c
            · rw[hchi];exact c
            · omega
          · refine .inr ⟨F,ep,a,b,by rw[hchi];exact c,fun _=>?_⟩
            rw[C.fams]
            exact d hcur0
        · simp at hi
      · simp at hi
    · simp at hx
  · simp at hx
 | nill =>
  intro xs x vs hx hr C p k ys p' k' hi
  unfold SSh.ex at hx
  split at hx
  · simp only[Option.some.injEq] at hx;subst hx
    simp only[SSh.inj,Option.some.injEq,Prod.mk.injEq] at hi
    obtain⟨rfl,rfl,rfl⟩:=hi
    obtain⟨v,vs',rfl,h1,h2⟩:=hr
    simp only[RelL] at h2;subst h2
    exact⟨rfl,rfl,RelL.one h1⟩
  · simp at hx
 | ptr i o =>
  intro xs x vs hx hr C p k ys p' k' hi
  unfold SSh.ex at hx
  split at hx
  · split at hx
    · rename_i hc
      obtain⟨rfl,rfl,hlt⟩:=hc
      simp only[Option.some.injEq] at hx;subst hx
      simp only[SSh.inj,Option.some.injEq,Prod.mk.injEq] at hi
      obtain⟨rfl,rfl,rfl⟩:=hi
      obtain⟨v,vs',rfl,⟨h0,rfl⟩,h2⟩:=hr
      simp only[RelL] at h2;subst h2
      exact⟨rfl,rfl,RelL.one ⟨by rw[C.nbs];exact hlt,by rw[C.mu]⟩⟩
    · simp at hx
  · simp at hx
 | adr i o =>
  intro xs x vs hx hr C p k ys p' k' hi
  unfold SSh.ex at hx
  split at hx
  · split at hx
    · rename_i hlt
      simp only[Option.some.injEq] at hx;subst hx
      simp only[SSh.inj,Option.some.injEq,Prod.mk.injEq] at hi
      obtain⟨rfl,rfl,rfl⟩:=hi
      obtain⟨v,vs',rfl,h0,h2⟩:=hr
      simp only[RelL] at h2;subst h2
      simp only[Rel] at h0;subst h0
      exact⟨rfl,rfl,RelL.one ⟨by rw[C.nbs];exact hlt,.inl rfl⟩⟩
    · simp at hx
  · split at hx
    · rename_i hc
      obtain⟨rfl,rfl,hlt⟩:=hc
      simp only[Option.some.injEq] at hx;subst hx
      simp only[SSh.inj,Option.some.injEq,Prod.mk.injEq] at hi
      obtain⟨rfl,rfl,rfl⟩:=hi
      obtain⟨v,vs',rfl,⟨h0,rfl⟩,h2⟩:=hr
      simp only[RelL] at h2;subst h2
      exact⟨rfl,rfl,RelL.one ⟨by rw[C.nbs];exact hlt,.inr (by rw[C.mu])⟩⟩
    · simp at hx
  · split at hx
    · rename_i hc
      obtain⟨rfl,rfl,hlt⟩:=hc
      simp only[Option.some.injEq] at hx;subst hx
      simp only[SSh.inj,Option.some.injEq,Prod.mk.injEq] at hi
      obtain⟨rfl,rfl,rfl⟩:=hi
      obtain⟨v,vs',rfl,⟨h0,h1⟩,h2⟩:=hr
      simp only[RelL] at h2;subst h2
      exact⟨rfl,rfl,RelL.one ⟨by rw[C.nbs];exact hlt,by rw[C.mu];exact h1⟩⟩
    · simp at hx
  · simp at hx
 | mapr i =>
  intro xs x vs hx hr C p k ys p' k' hi
  unfold SSh.ex at hx
  split at hx
  · split at hx
    · rename_i hc
      obtain⟨rfl,hlt⟩:=hc
      simp only[Option.some.injEq] at hx;subst hx
      simp only[SSh.inj,Option.some.injEq,Prod.mk.injEq] at hi
      obtain⟨rfl,rfl,rfl⟩:=hi
      obtain⟨v,vs',rfl,⟨h0,rfl⟩,h2⟩:=hr
      simp only[RelL] at h2;subst h2
      exact⟨rfl,rfl,RelL.one ⟨by rw[C.nbs];exact hlt,by rw[C.mu]⟩⟩
    · simp at hx
  · simp at hx
 | nilp | nilm | nilf | nili =>
  intro xs x vs hx hr C p k ys p' k' hi
  unfold SSh.ex at hx
  split at hx
  · simp only[Option.some.injEq] at hx;subst hx
    simp only[SSh.inj,Option.some.injEq,Prod.mk.injEq] at hi
    obtain⟨rfl,rfl,rfl⟩:=hi
    obtain⟨v,vs',rfl,h1,h2⟩:=hr
    simp only[RelL] at h2;subst h2
    exact⟨rfl,rfl,RelL.one h1⟩
  · simp at hx
 | yld =>
  intro xs x vs hx hr C p k ys p' k' hi
  unfold SSh.ex at hx
  split at hx
  · simp only[Option.some.injEq] at hx;subst hx
    simp only[SSh.inj,Option.some.injEq,Prod.mk.injEq] at hi
    obtain⟨rfl,rfl,rfl⟩:=hi
    obtain⟨v,vs',rfl,⟨k0,h1,rfl⟩,h2⟩:=hr
    simp only[RelL] at h2;subst h2
    exact⟨rfl,rfl,RelL.one ⟨k0,C.yk.trans h1,rfl⟩⟩
  · simp at hx
 | int kd n =>
  intro xs x vs hx hr C p k ys p' k' hi
  unfold SSh.ex at hx
  split at hx
  · split at hx
    · rename_i hc
      obtain⟨rfl,rfl⟩:=hc
      simp only[Option.some.injEq] at hx;subst hx
      simp only[SSh.inj,Option.some.injEq,Prod.mk.injEq] at hi
      obtain⟨rfl,rfl,rfl⟩:=hi
      obtain⟨v,vs',rfl,h1,h2⟩:=hr
      simp only[RelL] at h2;subst h2
      exact⟨rfl,rfl,RelL.one h1⟩
    · simp at hx
  · simp at hx
 | bool b =>
  intro xs x vs hx hr C p k ys p' k' hi
  unfold SSh.ex at hx
  split at hx
  · split at hx
    · rename_i hc
      subst hc
      simp only[Option.some.injEq] at hx;subst hx
      simp only[SSh.inj,Option.some.injEq,Prod.mk.injEq] at hi
      obtain⟨rfl,rfl,rfl⟩:=hi
      obtain⟨v,vs',rfl,h1,h2⟩:=hr
      simp only[RelL] at h2;subst h2
      exact⟨rfl,rfl,RelL.one h1⟩
    · simp at hx
  · simp at hx
 | func fn a b iha ihb =>
  intro xs x vs hx hr C p k ys p' k' hi
  unfold SSh.ex at hx
  split at hx
  · split at hx
    · rename_i hc
      subst hc
      obtain⟨e1,e2,h1,h2,rfl⟩:=Ex.join_some hx
      obtain⟨v,vs',rfl,⟨va,vb,rfl,g1,g2⟩,h3⟩:=hr
      simp only[RelL] at h3;subst h3
      simp only[SSh.inj] at hi
      split at hi
      · rename_i x1 p1 k1 hi1
        split at hi
        · rename_i x2 p2 k2 hi2
          simp only[Option.some.injEq,Prod.mk.injEq] at hi
          obtain⟨rfl,rfl,rfl⟩:=hi
          simp only[Ex.app,List.append_assoc] at hi1
          obtain⟨rfl,rfl,j1⟩:=iha h1 g1 C.left hi1
          obtain⟨rfl,rfl,j2⟩:=ihb h2 g2 C.right hi2
          exact⟨rfl,rfl,RelL.one ⟨_,_,rfl,j1,j2⟩⟩
        · simp at hi
      · simp at hi
    · simp at hx
  · simp at hx
 | agg r ih =>
  intro xs x vs hx hr C p k ys p' k' hi
  unfold SSh.ex at hx
  split at hx
  · obtain⟨v,vs',rfl,⟨va,rfl,g1⟩,h3⟩:=hr
    simp only[RelL] at h3;subst h3
    simp only[SSh.inj] at hi
    split at hi
    · rename_i x1 p1 k1 hi1
      simp only[Option.some.injEq,Prod.mk.injEq] at hi
      obtain⟨rfl,rfl,rfl⟩:=hi
      obtain⟨rfl,rfl,j1⟩:=ih hx g1 C hi1
      exact⟨rfl,rfl,RelL.one ⟨_,rfl,j1⟩⟩
    · simp at hi
  · simp at hx
 | tup r ih =>
  intro xs x vs hx hr C p k ys p' k' hi
  unfold SSh.ex at hx
  split at hx
  · obtain⟨v,vs',rfl,⟨va,rfl,g1⟩,h3⟩:=hr
    simp only[RelL] at h3;subst h3
    simp only[SSh.inj] at hi
    split at hi
    · rename_i x1 p1 k1 hi1
      simp only[Option.some.injEq,Prod.mk.injEq] at hi
      obtain⟨rfl,rfl,rfl⟩:=hi
      obtain⟨rfl,rfl,j1⟩:=ih hx g1 C hi1
      exact⟨rfl,rfl,RelL.one ⟨_,rfl,j1⟩⟩
    · simp at hi
  · simp at hx
 | iface t r ih =>
  intro xs x vs hx hr C p k ys p' k' hi
  unfold SSh.ex at hx
  split at hx
  · split at hx
    · rename_i hc
      subst hc
      obtain⟨v,vs',rfl,⟨w,rfl,g1⟩,h3⟩:=hr
      simp only[RelL] at h3;subst h3
      simp only[SSh.inj] at hi
      split at hi
      · rename_i x1 p1 k1 hi1
        simp only[Option.some.injEq,Prod.mk.injEq] at hi
        obtain⟨rfl,rfl,rfl⟩:=hi
        obtain⟨rfl,rfl,j1⟩:=ih hx (RelL.one g1) C hi1
        obtain⟨w',ws,e,j2,_⟩:=j1
        simp only[List.cons.injEq] at e
        obtain⟨rfl,_⟩:=e
        exact⟨rfl,rfl,RelL.one ⟨_,rfl,j2⟩⟩
      · simp at hi
    · simp at hx
  · simp at hx
 | nil =>
  intro xs x vs hx hr C p k ys p' k' hi
  unfold SSh.ex at hx
  split at hx
  · simp only[Option.some.injEq] at hx;subst hx
    simp only[SSh.inj,Option.some.injEq,Prod.mk.injEq] at hi
    obtain⟨rfl,rfl,rfl⟩:=hi
    exact⟨rfl,rfl,hr⟩
  · simp at hx
 | cons a b iha ihb =>
  intro xs x vs hx hr C p k ys p' k' hi
  unfold SSh.ex at hx
  split at hx
  · obtain⟨e1,e2,h1,h2,rfl⟩:=Ex.join_some hx
    obtain⟨v,vs',rfl,g1,g2⟩:=hr
    simp only[SSh.inj] at hi
    split at hi
    · rename_i x1 p1 k1 hi1
      split at hi
      · rename_i x2 p2 k2 hi2
        simp only[Option.some.injEq,Prod.mk.injEq] at hi
        obtain⟨rfl,rfl,rfl⟩:=hi
        simp only[Ex.app,List.append_assoc] at hi1
        obtain⟨rfl,rfl,j1⟩:=iha h1 (RelL.one g1) C.left hi1
        obtain⟨rfl,rfl,j2⟩:=ihb h2 g2 C.right hi2
        obtain⟨w',ws,e,j3,_⟩:=j1
        simp only[List.cons.injEq] at e
        obtain⟨rfl,_⟩:=e
        exact⟨rfl,rfl,⟨_,_,rfl,j3,j2⟩⟩
      · simp at hi
    · simp at hi
  · simp at hx
theorem exBoxes_inj {lo:Nat} {heap:List Box} {mu:Nat→Nat} (hrows:∀i:Nat,(X1.rows[i]?).map (fun r=>(r.T,r.cur))=(rows[i]?).map (fun r=>(r.T,r.cur))) :
 ∀(hs:List BSh) {bs:List SBox} {x:Ex} {n:Nat},exBoxes rows nb hs bs=some x→(∀i b,bs[i]? = some b→BR X1 lo heap (mu (n+i)) b)→Cut X1 X' rsh nb x →
 ∀{p k:List Dyn} {ys:List SBox},injBoxes rsh hs (x.pay++p) (x.keep++k)=some ys →
  (∀(i:Nat) (b:SBox),ys[i]? = some b→BR X' lo heap (mu (n+i)) b)∧ys.length=hs.length∧(∀(i:Nat) (b:SBox),ys[i]? = some b→b.live=true→∃b':SBox,bs[i]? = some b'∧b'.live=true)
 | [],bs,x,n,hx,hb,C,p,k,ys,hi=>by
  simp only[injBoxes,Option.some.injEq] at hi;subst hi
  simp
 | .gone::hs,b::bs,x,n,hx,hb,C,p,k,ys,hi=>by
  simp only[exBoxes] at hx
  simp only[injBoxes,Option.map_eq_some_iff] at hi
  obtain⟨ys',hi,rfl⟩:=hi
  obtain⟨h1,h2,h3⟩:=exBoxes_inj (n:=n+1) hrows hs hx (fun i b' h=>by have:=hb (i+1) b' h;rwa [show n+(i+1)=n+1+i by omega] at this) C hi
  refine⟨fun i c hc=>?_,by simp[h2],fun i c hc hl=>?_⟩
  · cases i with
    | zero=>simp at hc;subst hc;trivial
    | succ i=>simp at hc;have:=h1 i c hc;rwa [show n+1+i=n+(i+1) by omega] at this
  · cases i with
    | zero=>simp at hc;subst hc;simp[SBox.live] at hl
    | succ i=>simp at hc ⊢;exact h3 i c hc hl
 | .cells t w h::hs,.cells t' w' cs::bs,x,n,hx,hb,C,p,k,ys,hi=>by
  simp only[exBoxes] at hx
  split at hx
  · rename_i hc
    obtain⟨rfl,rfl⟩:=hc
    obtain⟨e1,e2,g1,g2,rfl⟩:=Ex.join_some hx
    simp only[injBoxes] at hi
    split at hi
    · rename_i cs' p1 k1 hi1
      simp only[Option.map_eq_some_iff] at hi
      obtain⟨ys',hi,rfl⟩:=hi
      obtain⟨vs,b1,b2,b3⟩:=hb 0 _ rfl
      simp only[Ex.app,List.append_assoc] at hi1
      obtain⟨rfl,rfl,j1⟩:=ex_inj hrows h g1 b2 C.left hi1
      obtain⟨h1,h2,h3⟩:=exBoxes_inj (n:=n+1) hrows hs g2 (fun i b' h=>by have:=hb (i+1) b' h;rwa [show n+(i+1)=n+1+i by omega] at this) C.right hi
      refine⟨fun i c hc=>?_,by simp[h2],fun i c hc hl=>?_⟩
      · cases i with
        | zero=>simp at hc;subst hc;exact⟨vs,b1,j1,b3⟩
        | succ i=>simp at hc;have:=h1 i c hc;rwa [show n+1+i=n+(i+1) by omega] at this
      · cases i with
        | zero=>exact⟨_,rfl,rfl⟩
        | succ i=>simp at hc ⊢;exact h3 i c hc hl
    · simp at hi
  · simp at hx
 | .mapo K T w::hs,.mapo K' T' w' es::bs,x,n,hx,hb,C,p,k,ys,hi=>by
  simp only[exBoxes] at hx
  split at hx
  · rename_i hc
    obtain⟨rfl,rfl,rfl⟩:=hc
    obtain⟨e1,e2,g1,g2,rfl⟩:=Ex.join_some hx
    simp only[Option.some.injEq] at g1;subst g1
    simp only[Ex.app,List.cons_append,List.nil_append,injBoxes,dynMap,Option.map_eq_some_iff] at hi
    obtain⟨ys',hi,rfl⟩:=hi
    obtain⟨vs,b1,b2,b3⟩:=hb 0 _ rfl
    obtain⟨h1,h2,h3⟩:=exBoxes_inj (n:=n+1) hrows hs g2 (fun i b' h=>by have:=hb (i+1) b' h;rwa [show n+(i+1)=n+1+i by omega] at this) C.right hi
    refine⟨fun i c hc=>?_,by simp[h2],fun i c hc hl=>?_⟩
    · cases i with
      | zero=>simp at hc;subst hc;exact⟨vs,b1,b2.mono fun a b r=>⟨r.1.mono C.np,r.2.mono C.np⟩,b3⟩
      | succ i=>simp at hc;have:=h1 i c hc;rwa [show n+1+i=n+(i+1) by omega] at this
    · cases i with
      | zero=>exact⟨_,rfl,rfl⟩
      | succ i=>simp at hc ⊢;exact h3 i c hc hl
  · simp at hx
 | .gone::hs,[],x,n,hx,hb,C,p,k,ys,hi=>by simp[exBoxes] at hx
 | .cells t w h::hs,[],x,n,hx,hb,C,p,k,ys,hi=>by simp[exBoxes] at hx
 | .mapo K T w::hs,[],x,n,hx,hb,C,p,k,ys,hi=>by simp[exBoxes] at hx
 | .cells t w h::hs,.mapo ..::bs,x,n,hx,hb,C,p,k,ys,hi=>by simp[exBoxes] at hx
 | .cells t w h::hs,.gone::bs,x,n,hx,hb,C,p,k,ys,hi=>by simp[exBoxes] at hx
 | .mapo K T w::hs,.cells ..::bs,x,n,hx,hb,C,p,k,ys,hi=>by simp[exBoxes] at hx
 | .mapo K T w::hs,.gone::bs,x,n,hx,hb,C,p,k,ys,hi=>by simp[exBoxes] at hx
end
section
variable {E E0:GE} {ss ss0:SS} {st st0:St}
theorem wr_made {a b:Bool} (h:(!a || b)=true):a=true→b=true:=by cases a<;>simp_all
theorem rowsOk_spec {n0:Nat} {back:Bool} {x:Ex}:∀{hs:List RSh} {rows:List SRow} {i:Nat},rowsOk n0 back x i hs rows=true →
 ∀(j:Nat) (h:RSh),hs[j]? = some h→(i+j∈x.born∧((h.row.wr=true→h.row.made=true)∧h.row.made=nbT h.row.T)∧(rows.length≤j∨n0≤i+j)) ∨
  (i+j ∉ x.born∧∃q,rows[j]? = some q∧q.T=h.row.T∧(q.ty=h.row.ty∧q.made=h.row.made)∧(h.row.wr=true→q.wr=true∧i+j ∉ x.ro) ∧
   (if h.mod=true then (if back=true then h.row.cur≤q.cur else q.cur<h.row.cur) else q.cur=h.row.cur))
 | [],_,_,_,j,h,hj=>by simp at hj
 | h0::hs,[],i,ho,j,h,hj=>by
  simp only[rowsOk,Bool.and_eq_true,Bool.not_eq_true',List.contains_eq_mem,decide_eq_true_eq] at ho
  cases j with
  | zero=>simp at hj;subst hj;exact .inl ⟨ho.1.1.1,⟨wr_made ho.1.1.2,by simpa using ho.1.2⟩,.inl (by simp)⟩
  | succ j =>
   simp at hj
   have:=rowsOk_spec ho.2 j h hj
   rw[show i+(j+1)=i+1+j by omega]
   rcases this with ⟨a,b,c⟩ | ⟨a,q,b,_⟩
   · exact .inl ⟨a,b,.inl (by simp)⟩
   · simp at b
 | h0::hs,q::rows,i,ho,j,h,hj=>by
  simp only[rowsOk,Bool.and_eq_true] at ho
  cases j with
  | zero =>
   simp at hj;subst hj
   obtain⟨ho,_⟩:=ho
   split at ho
   · rename_i hb
     simp only[List.contains_eq_mem,decide_eq_true_eq] at hb
     simp only[Bool.and_eq_true,Bool.not_eq_true',decide_eq_true_eq] at ho
     exact .inl ⟨hb,⟨wr_made ho.1.2,by simpa using ho.2⟩,.inr ho.1.1⟩
   · rename_i hb
     simp only[List.contains_eq_mem,decide_eq_true_eq] at hb
     simp only[Bool.and_eq_true,decide_eq_true_eq,Bool.or_eq_true,Bool.not_eq_true',List.contains_eq_mem,decide_eq_false_iff_not] at ho
     obtain⟨⟨⟨h1,h2⟩,h3⟩,h4⟩:=ho
     refine .inr ⟨hb,q,rfl,h1,h2,fun hw=>?_,?_⟩
     · rcases h3 with h3 | h3
       · rw[hw] at h3;simp at h3
       · exact h3
     · cases hm:h0.mod<;>cases back<;>simp[hm] at h4 ⊢<;>exact h4
  | succ j =>
   simp at hj
   have:=rowsOk_spec ho.2 j h hj
   rw[show i+(j+1)=i+1+j by omega]
   rcases this with ⟨a,b,c⟩ | ⟨a,q,b,c⟩
   · refine .inl ⟨a,b,?_⟩
     rcases c with c | c
     · exact .inl (by simp;exact c)
     · exact .inr c
   · exact .inr ⟨a,q,by simpa using b,c⟩
theorem exBoxes_len {rsh:List RSh}:∀{hs:List BSh} {p k:List Dyn} {ys:List SBox},injBoxes rsh hs p k=some ys→ys.length=hs.length
 | [],p,k,ys,h=>by simp only[injBoxes,Option.some.injEq] at h;subst h;rfl
 | .gone::hs,p,k,ys,h=>by
  simp only[injBoxes,Option.map_eq_some_iff] at h
  obtain⟨ys',h,rfl⟩:=h
  simp[exBoxes_len h]
 | .cells t w r::hs,p,k,ys,h=>by
  simp only[injBoxes] at h
  split at h
  · simp only[Option.map_eq_some_iff] at h
    obtain⟨ys',h,rfl⟩:=h
    simp[exBoxes_len h]
  · simp at h
 | .mapo K T w::hs,[],k,ys,h=>by simp[injBoxes] at h
 | .mapo K T w::hs,d::p,k,ys,h=>by
  simp only[injBoxes] at h
  split at h
  · simp only[Option.map_eq_some_iff] at h
    obtain⟨ys',h,rfl⟩:=h
    simp[exBoxes_len h]
  · simp at h
theorem setWr_ne (rows:List SRow) {f g:Nat} (h:f≠g):(setWr rows g)[f]? = rows[f]? := by
 unfold setWr
 split
 · split
   · rw[List.getElem?_set,if_neg (fun e=>h e.symm)]
   · rfl
 · rfl
theorem foldWr_ne:∀(l:List Nat) (rows:List SRow) (f:Nat),f ∉ l→(l.foldl setWr rows)[f]? = rows[f]?
 | [],rows,f,_=>rfl
 | g::l,rows,f,h=>by
  simp only[List.mem_cons,not_or] at h
  rw[List.foldl_cons,foldWr_ne l _ f h.2,setWr_ne rows h.1]
theorem retire_keep (ss:SS) (l:List Nat) (f:Nat) (hf:f ∉ l) (q:SRow) (hq:ss.rows[f]? = some q) (hw:q.wr=true) (q':SRow) (h:(ss.retire l).rows[f]? = some q'):q'.wr=true:=by
 cases l with
 | nil=>rw[show (ss.retire []).rows=ss.rows from rfl,hq] at h;cases h;exact hw
 | cons g l =>
  rw[show (ss.retire (g::l)).rows=(g::l).foldl setWr ss.rows from rfl,foldWr_ne _ _ _ hf,hq] at h
  cases h;exact hw
theorem cut_ok (hX:XR E ss st) {s:List SV} {S:List V} (hs:RelL (E.X ss st) s S) (tr:Tr E0 ss0 st0 E ss st) (hI0:st0.flo≤st0.fams.length) {h:Sh} {back:Bool} {x:Ex} (hx:h.ex ss0.boxes.length ss0.rows.length back s ss=some x)
 (hb:back=true→∀(f:Nat) (r0:SRow) (hr:RSh),ss0.rows[f]? = some r0→h.rows[f]? = some hr→hr.mod=true→r0.cur<hr.row.cur)
 {ρ:Type} {r:ρ} {K:List SV→SS→Option ρ} (hi:h.inj x.pay x.keep (fun s1 ss1=>K s1 { ss1 with y:=ss0.y })=some r) :
 ∃E' s' ss',RelL (E'.X ss' st) s' S∧XR E' ss' st∧Tr E0 ss0 st0 E' ss' st∧ss'.rows=h.rows.map (·.row)∧K s' ss'=some r:=by
 unfold Sh.ex at hx
 split at hx
 · rename_i x1 hj
   split at hx
   · rename_i hc
     simp only[Option.some.injEq] at hx;subst hx
     obtain⟨hown,hb0,hn0,hrows,hkills⟩:=hc
     obtain⟨xs,xb,hxs,hxb,rfl⟩:=Ex.join_some hj
     unfold Sh.inj at hi
     split at hi
     · rename_i s1 p1 k1 hi1
       split at hi
       · rename_i bs1 hi2
         have hX1:=hX.retire (xs.app xb).ro
         have tr1:Tr E ss st E (ss.retire (xs.app xb).ro) st:=Tr.retire _
         have hs1:=hs.stay0 tr1.stay0
         have hle:=retire_le ss (xs.app xb).ro
         have hspec:=rowsOk_spec hrows
         simp only[Nat.zero_add] at hspec
         let E':GE:={ E with chi:=fun i=>if i∈(xs.app xb).born then none else E.chi i }
         let ss':SS:=⟨bs1,h.rows.map (·.row),h.kills,ss0.y⟩
         have hchi1:∀f,f∈(xs.app xb).born→E'.chi f=none:=fun f hf=>by simp only[E'];rw[if_pos hf]
         have hchi2:∀f,f ∉ (xs.app xb).born→E'.chi f=E.chi f:=fun f hf=>by simp only[E'];rw[if_neg hf]
         have hchi3:∀f F,E'.chi f=some F→f ∉ (xs.app xb).born∧E.chi f=some F:=by
          intro f F hF
          by_cases hf:f∈(xs.app xb).born
          · rw[hchi1 f hf] at hF;simp at hF
          · exact⟨hf,by rw[←hchi2 f hf];exact hF⟩
         have hrow':∀(f:Nat) (r':SRow),ss'.rows[f]? = some r'→∃hr,h.rows[f]? = some hr∧hr.row=r':=by
          intro f r' hr'
          simp only[ss',List.getElem?_map,Option.map_eq_some_iff] at hr'
          exact hr'
         have hnb:bs1.length=h.boxes.length:=(exBoxes_len hi2)
         have hgo:∀(f:Nat) (r':SRow),ss'.rows[f]? = some r'→f ∉ (xs.app xb).born→∃hr q,h.rows[f]? = some hr∧hr.row=r'∧ss.rows[f]? = some q∧q.T=r'.T∧(q.ty=r'.ty∧q.made=r'.made)∧(r'.wr=true→q.wr=true∧f ∉ (xs.app xb).ro) ∧
          (if hr.mod=true then (if back=true then r'.cur≤q.cur else q.cur<r'.cur) else q.cur=r'.cur):=by
          intro f r' hr' hf
          obtain⟨hr,e1,rfl⟩:=hrow' f r' hr'
          rcases hspec f hr e1 with ⟨a,_⟩ | ⟨_,q,b1,b2,b3,b4,b5⟩
          · exact absurd a hf
          · exact⟨hr,q,e1,rfl,b1,b2,b3,b4,b5⟩
         have hW:∀F,(E'.X ss' st).W F→(E.X (ss.retire (xs.app xb).ro) st).W F:=by
          rintro F ⟨f,r',h1,h2,h3⟩
          obtain⟨hf,hF⟩:=hchi3 f F h3
          obtain⟨hr,q,g1,g2,g3,g4,g5,g6,_⟩:=hgo f r' h1 hf
          obtain⟨q',e1,e2,e3,e4,e5⟩:=hle.some g3
          refine⟨f,q',e1,?_,hF⟩
          have:=g6 h2
          exact retire_keep ss (xs.app xb).ro f this.2 q g3 this.1 q' e1
         have hnp:∀F,(E.X (ss.retire (xs.app xb).ro) st).np F→(E'.X ss' st).np F:=by
          rintro F (h1 | ⟨h1,h2,h3⟩)
          · exact .inl h1
          · exact .inr ⟨h1,h2,fun hw=>h3 (hW F hw)⟩
         have C:Cut (E.X (ss.retire (xs.app xb).ro) st) (E'.X ss' st) h.rows h.boxes.length (xs.app xb) :=
          ⟨hX1.I,rfl,hnp,ret_of _,hnb,rfl,rfl,fun f hf=>hchi2 f (by
           rw[List.all_eq_true] at hown
           have:=hown f hf
           simpa using this),hchi1,rfl⟩
         have hrw:∀i:Nat,((ss.retire (xs.app xb).ro).rows[i]?).map (fun r=>(r.T,r.cur))=(ss.rows[i]?).map (fun r=>(r.T,r.cur)):=by
          intro i
          have:=hle i
          cases ha:ss.rows[i]?<;>cases hb:(ss.retire (xs.app xb).ro).rows[i]?<;>rw[ha,hb] at this<;>simp_all
         obtain⟨rfl,rfl,j1⟩:=ex_inj (X1:=E.X (ss.retire (xs.app xb).ro) st) hrw h.slots hxs hs1 C.left hi1
         have hbox1:∀(i:Nat) (b:SBox),ss.boxes[i]? = some b→BR (E.X (ss.retire (xs.app xb).ro) st) st.lo st.heap (E.mu (0+i)) b:=by
          intro i b hb'
          rw[Nat.zero_add]
          exact hX1.box i b (by rw[retire_eq];exact hb')
         obtain⟨j2,j3,j4⟩:=exBoxes_inj (X1:=E.X (ss.retire (xs.app xb).ro) st) (mu:=E.mu) (n:=0) hrw h.boxes hxb hbox1 C.right (p:=[]) (k:=[]) (by rw[List.append_nil,List.append_nil];exact hi2)
         simp only[Nat.zero_add] at j2
         refine⟨E',s1,ss',j1,⟨⟨?_,?_,?_,?_,hX.I.nlo,hX.I.flo⟩,j2,?_,hX.lo,?_,?_⟩,⟨tr.flo,tr.lo,tr.N,tr.fams,tr.heap,by rw[hnb];exact hb0,tr.mu,?_,?_,tr.kill,?_,⟨tr.yy.1,rfl,tr.yy.2.2⟩⟩,rfl,hi⟩
         rotate_right
         · intro f r' F h1 h2
           obtain⟨hf,hF⟩:=hchi3 f F h2
           obtain⟨_,q,_,_,g3,_⟩:=hgo f r' h1 hf
           exact tr.fresh f q F g3 hF
         · intro f r' F hr' hF
           obtain⟨hf,hF⟩:=hchi3 f F hF
           obtain⟨hr,q,g1,g2,g3,g4,g5,g6,_⟩:=hgo f r' hr' hf
           obtain⟨g,k1,k2,k3,k4,k5,k6,k7⟩:=hX.I.rows f q F g3 hF
           exact⟨g,k1,k2,by rw[k3,g4],by rw[k4,g5.1],fun hw=>k5 (g6 hw).1,by rw[k6,g5.2],k7⟩
         · intro f f' r1 r2 F h1 h2 h3 h4
           obtain⟨hf,hF⟩:=hchi3 f F h3
           obtain⟨hf',hF'⟩:=hchi3 f' F h4
           obtain⟨_,q,_,_,g3,_⟩:=hgo f r1 h1 hf
           obtain⟨_,q',_,_,g3',_⟩:=hgo f' r2 h2 hf'
           exact hX.I.inj f f' q q' F g3 g3' hF hF'
         · intro f r' hr' hF
           by_cases hf:f∈(xs.app xb).born
           · obtain⟨hr,e1,rfl⟩:=hrow' f r' hr'
             rcases hspec f hr e1 with ⟨_,b,_⟩ | ⟨a,_⟩
             · exact b.1
             · exact absurd hf a
           · obtain⟨_,q,_,_,g3,_,g5,g6,_⟩:=hgo f r' hr' hf
             intro hw
             rw[←g5.2]
             exact hX.I.nwr f q g3 ((hchi2 f hf).symm.trans hF) (g6 hw).1
         · intro f r' hr' hF
           by_cases hf:f∈(xs.app xb).born
           · obtain⟨hr,e1,rfl⟩:=hrow' f r' hr'
             rcases hspec f hr e1 with ⟨_,b,_⟩ | ⟨a,_⟩
             · exact b.2
             · exact absurd hf a
           · obtain⟨_,q,_,_,g3,g4,g5,_⟩:=hgo f r' hr' hf
             rw[←g5.2,←g4]
             exact hX.I.nmk f q g3 ((hchi2 f hf).symm.trans hF)
         · intro i j b b' h1 h2 h3 h4 h5
           obtain⟨c,c1,c2⟩:=j4 i b h1 h2
           obtain⟨c',c3,c4⟩:=j4 j b' h3 h4
           exact hX.binj i j c c' c1 c2 c3 c4 h5
         · intro F hF
           refine⟨(hX.kill F hF).1,fun f r' hr' hc'=>?_⟩
           obtain⟨hf,hF'⟩:=hchi3 f F hc'
           obtain⟨_,q,_,_,g3,_⟩:=hgo f r' hr' hf
           have:=(hX.kill F hF).2 f q g3 hF'
           rw[List.all_eq_true] at hkills
           simpa using hkills f this
         · intro hk
           refine hX.kill0 ?_
           rw[List.all_eq_true] at hkills
           cases hkk:ss.kills with
           | nil=>rfl
           | cons a l =>
            have:=hkills a (by rw[hkk];simp)
            rw[show h.kills=[] from hk] at this
            simp at this
         · intro F hF
           obtain⟨f,r',h1,h2,h3⟩:=hW F hF
           obtain⟨q,e1,_,_,_,e5,_⟩:=hle.inv h1
           exact tr.W F ⟨f,q,e1,e5 h2,h3⟩
         · intro f r0 hr0
           have hfn:f<ss0.rows.length:=(List.getElem?_eq_some_iff.1 hr0).1
           obtain⟨q,t1,t2,t3,t4,t5⟩:=tr.rows f r0 hr0
           have hfl:f<h.rows.length:=Nat.lt_of_lt_of_le hfn hn0
           obtain⟨hr,hhr⟩:∃hr,h.rows[f]? = some hr:=⟨h.rows[f],by simp[hfl]⟩
           have hnb':f ∉ (xs.app xb).born:=by
            intro hf
            rcases hspec f hr hhr with ⟨_,_,c⟩ | ⟨a,_⟩
            · rcases c with c | c
              · have:=(List.getElem?_eq_some_iff.1 t1).1;omega
              · omega
            · exact a hf
           obtain⟨hr2,q2,g1,g2,g3,g4,g5,g6,g7⟩:=hgo f hr.row (by simp[ss',hhr]) hnb'
           rw[hhr] at g1;cases g1
           rw[t1] at g3;cases g3
           refine⟨hr.row,by simp[ss',hhr],g4.symm.trans t2,?_,?_,?_⟩
           · split at g7
             · rename_i hm
               split at g7
               · rename_i hbk
                 exact Nat.le_of_lt (hb hbk f r0 hr hr0 hhr hm)
               · omega
             · omega
           · rw[hchi2 f hnb']
             rcases t4 with t4 | ⟨t4,t4'⟩
             · exact .inl t4
             · refine .inr ⟨t4,?_⟩
               split at g7
               · rename_i hm
                 split at g7
                 · rename_i hbk
                   exact hb hbk f r0 hr hr0 hhr hm
                 · omega
               · omega
           · intro hcur
             refine t5 ?_
             split at g7
             · rename_i hm
               split at g7
               · rename_i hbk
                 have:=hb hbk f r0 hr hr0 hhr hm
                 omega
               · omega
             · omega
       · simp at hi
     · simp at hi
   · simp at hx
 · simp at hx
theorem toHL_of:∀{Ts:List Ty} {p:List Dyn} {y:HL Ts},toHL Ts p=some y→ofHL Ts y=p:=by
 intro Ts
 induction Ts with
 | nil =>
  intro p y h
  cases p with
  | nil=>rfl
  | cons a p=>simp[toHL] at h
 | cons T r ih =>
  intro p y h
  cases r with
  | nil =>
   match p,h with
   | [],h=>simp[toHL] at h
   | [⟨T',x⟩],h =>
    simp only[toHL] at h
    split at h
    · rename_i hT
      subst hT
      simp only[castD,Option.some.injEq] at h;subst h;rfl
    · simp at h
   | a::b::p,h=>simp[toHL] at h
  | cons U r =>
   match p,h with
   | [],h=>simp[toHL] at h
   | ⟨T',x⟩::p,h =>
    simp only[toHL] at h
    split at h
    · rename_i hT
      subst hT
      split at h
      · rename_i z hz
        simp only[castD,Option.some.injEq] at h;subst h
        simp only[ofHL,ih hz]
      · simp at h
    · simp at h
theorem grdKeep_elim {ρ:Type} {r:ρ} {w:List Nat}:∀{a b:List Dyn} {i:Nat} {K:Option ρ},grdKeep w i a b K=some r→a=b∧K=some r
 | [],[],i,K,h=>⟨rfl,h⟩
 | ⟨T,x⟩::a,⟨T',y⟩::b,i,K,h=>by
  simp only[grdKeep] at h
  split at h
  · rename_i hT
    subst hT
    unfold grdEq at h
    split at h
    · rename_i hxy
      obtain⟨hab,h'⟩:=grdKeep_elim h
      subst hab
      simp only[castD] at hxy
      subst hxy
      exact⟨rfl,h'⟩
    · simp at h
  · simp at h
 | [],_::_,i,K,h=>by simp[grdKeep] at h
 | _::_,[],i,K,h=>by simp[grdKeep] at h
theorem mkOut_go {τ:Type} {t:τ} {w:List Nat} {s0:List SV} {ss0:SS} {e:AExit} {s:List SV} {ss:SS}:∀{outs:List (AExit×Sh)} {K:OutT outs→Option τ},mkOut w s0 ss0 e s ss outs K=some t →
 ∃(y:OutT outs) (h:Sh) (x:Ex),K y=some t∧h.ex ss0.boxes.length ss0.rows.length false s ss=some x∧∀{ρ:Type} (K2:AExit→List SV→SS→Option ρ),goOut s0 ss0 K2 outs y=h.inj x.pay x.keep fun s ss=>K2 e s { ss with y:=ss0.y }
 | [],K,h=>by simp[mkOut,stop] at h
 | [(e',sh)],K,h=>by
  simp only[mkOut] at h
  split at h
  · rename_i he
    subst he
    split at h
    · rename_i x hx
      obtain⟨hk,h⟩:=grdKeep_elim h
      split at h
      · rename_i y hy
        exact⟨y,sh,x,h,hx,fun K2=>by simp only[goOut,toHL_of hy,hk]⟩
      · simp at h
    · simp[stop] at h
  · simp[stop] at h
 | (e',sh)::o::r,K,h=>by
  simp only[mkOut] at h
  split at h
  · rename_i he
    subst he
    split at h
    · rename_i x hx
      obtain⟨hk,h⟩:=grdKeep_elim h
      split at h
      · rename_i y hy
        exact⟨.inl y,sh,x,h,hx,fun K2=>by simp only[goOut,toHL_of hy,hk]⟩
      · simp at h
    · simp[stop] at h
  · obtain⟨y,h',x,h1,h2,h3⟩:=mkOut_go h
    exact⟨.inr y,h',x,h1,h2,fun K2=>by simp only[goOut];exact h3 K2⟩
end
end Go.Abs

namespace Go.Abs
open Go
def RV (N:Nat→Prop):(rs:List Ty)→HL rs→V→Prop
 | [],y,v=>v=.tup []
 | [T],y,v=>ERe N T y v
 | T::U::r,y,v=>∃vs,v=.tup vs∧EL N (T::U::r) y vs
def Told (C:Cfg) (P:Program) (g:FuncId) (ps rs:List Ty) (F:HL ps→Option (HL rs)):Prop :=
 ∀(N:Nat→Prop) (x:HL ps) (y:HL rs) (A:List V) (st:St),F x=some y→EL N ps x A→(∀G,N G→G<st.fams.length) →
  ∃v,Runs C P (.call g A st) (.ret v st)∧RV N rs y v
structure GOk (G:SCfg) (P:Program) (C:Cfg):Prop where
 pure:∀g ps rs F,G.fn g=.pure ps rs F→Told C P g ps rs F
 inl:∀g,G.fn g=.inl→C.keep g=true∧C.ext g=none
 keep:C.keep=G.keep
 bcopy:∀g tb,G.fn g=.bcopy tb→∀(i o T:Nat) (cs:List V) (st:St),st.lo≤i→st.heap[i]? = some (.cells T cs)→(cs[o]? = some .nilp∨cs[o]? = some (.ptr i o))→liesAt P P.depth T (cs.length / P.cellsOf T) o tb 1=true →
  Runs C P (.call g [.ptr i o] st) (.ret (.tup []) { st with heap:=st.heap.set i (.cells T (cs.set o (.ptr i o))) })
 bstr:∀g t8,G.fn g=.bstr t8→∀(i o T:Nat) (cs:List V) (s:List UInt8) (tk:Tok) (q:Nat) (st:St),st.heap[i]? = some (.cells T cs)→cs[o+1]? = some (.list tk 0 q (s.map fun b=>V.int .u8 (b.toNat:Int))) →
  (tk=.nil∧s=[]∨∃F ep,tk=.own F ep∧q=1∧st.fams[F]? = some ⟨ep,s.length,1,t8,false⟩∧st.flo≤F∧s≠[])→s.length≤9223372036854775807→Runs C P (.call g [.ptr i o] st) (.ret (.str s) st)
section
variable {E:GE} {ss:SS} {st:St} {P:Program} {C:Cfg} {G:SCfg}
theorem RV.rel {X:XC}:∀{rs:List Ty} {y:HL rs} {v:V},RV X.np rs y v→Rel X (oneV (svL rs y)) v
 | [],y,v,h=>by simp only[RV] at h;subst h;exact⟨[],rfl,rfl⟩
 | [T],y,v,h=>sv_rel T h
 | [T,U],y,v,h=>by
  obtain⟨vs,rfl,h⟩:=h
  exact⟨vs,rfl,h.svL⟩
 | T::U::W::r,y,v,h=>by
  obtain⟨vs,rfl,h⟩:=h
  exact⟨vs,rfl,h.svL⟩
theorem XR.nokill (hX:XR E ss st):XR E { ss with kills:=[],y:=none } { st with kills:=[],y:=none } :=
 ⟨hX.I,hX.box,hX.binj,hX.lo,by simp,by simp⟩
mutual
theorem Rel.yk {X:XC} {o:Option Nat}:∀{x:SV} {v:V},x.noYld=true→Rel X x v→Rel { X with yk:=o } x v
 | .int ..,_,_,h=>h
 | .bool _,_,_,h=>h
 | .str _,_,_,h=>h
 | .list T tk l,v,_,h=>by
  obtain⟨t,off,q,xs,h1,h2,h3⟩:=h
  refine⟨t,off,q,xs,h1,?_,h3⟩
  cases tk<;>exact h2
 | .nill,_,_,h=>h
 | .agg cs,v,hn,h=>by
  obtain⟨vs,rfl,h⟩:=h
  exact⟨vs,rfl,RelL.yk (by simpa[SV.noYld] using hn) h⟩
 | .tup cs,v,hn,h=>by
  obtain⟨vs,rfl,h⟩:=h
  exact⟨vs,rfl,RelL.yk (by simpa[SV.noYld] using hn) h⟩
 | .ptr ..,_,_,h=>h
 | .adr ..,_,_,h=>h
 | .elem T tk m off x,v,_,h=>by
  obtain⟨t,idx,e,h1,h2,h3⟩:=h
  refine⟨t,idx,e,h1,?_,h3⟩
  cases tk<;>exact h2
 | .nilp,_,_,h=>h
 | .func g a b,v,hn,h=>by
  obtain⟨va,vb,rfl,h1,h2⟩:=h
  simp only[SV.noYld,Bool.and_eq_true] at hn
  exact⟨va,vb,rfl,RelL.yk hn.1 h1,RelL.yk hn.2 h2⟩
 | .nilf,_,_,h=>h
 | .iface t x,v,hn,h=>by
  obtain⟨w,rfl,h⟩:=h
  exact⟨w,rfl,Rel.yk (by simpa[SV.noYld] using hn) h⟩
 | .nili,_,_,h=>h
 | .mapr _,_,_,h=>h
 | .nilm,_,_,h=>h
 | .yld,_,hn,_=>by simp[SV.noYld] at hn
 | .any,_,_,_=>trivial
theorem RelL.yk {X:XC} {o:Option Nat}:∀{xs:List SV} {vs:List V},SV.noYlds xs=true→RelL X xs vs→RelL { X with yk:=o } xs vs
 | [],_,_,h=>h
 | x::xs,vs,hn,h=>by
  obtain⟨v,vs',rfl,h1,h2⟩:=h
  simp only[SV.noYlds,Bool.and_eq_true] at hn
  exact⟨v,vs',rfl,Rel.yk hn.1 h1,RelL.yk hn.2 h2⟩
end
theorem BR.yk {X:XC} {o:Option Nat} {lo:Nat} {heap:List Box} {b:Nat} {x:SBox} (hn:x.noYld=true) (h:BR X lo heap b x):BR { X with yk:=o } lo heap b x:=by
 cases x with
 | gone=>trivial
 | cells t w cs =>
  obtain⟨vs,h1,h2,h3⟩:=h
  exact⟨vs,h1,h2.yk hn,h3⟩
 | mapo K T w es=>exact h
theorem XR.yk (hX:XR E ss st) (hn:ss.boxes.all SBox.noYld=true) (o:Option Nat) (oy:Option SY) (ks:List Nat) (vy:Option YC) (n:Nat) (vk:List Nat) (hk:∀F∈vk,F<st.fams.length∧∀f r,ss.rows[f]? = some r→E.chi f=some F→f∈ks) (hk0:ks=[]→vk=[]) :
 XR { E with yk:=o } { ss with kills:=ks,y:=oy } { st with kills:=vk,y:=vy,ny:=n }:=by
 refine⟨⟨hX.I.rows,hX.I.inj,hX.I.nwr,hX.I.nmk,hX.I.nlo,hX.I.flo⟩,fun i b hb=>?_,hX.binj,hX.lo,hk,hk0⟩
 have hb1:=hX.box i b hb
 rw[List.all_eq_true] at hn
 exact BR.yk (X:=E.X ss st) (hn b (List.mem_of_getElem? hb)) hb1
def YX (E:GE) (ss:SS) (st:St):Prop :=
 ∀sy,ss.y=some sy→∃k S0 E0 ss0 st0,st.y=some ⟨k,sy.ps,sy.assign,sy.body,S0⟩∧E.yk=some k∧RelL (GE.X E0 ss0 st0) sy.s0 S0∧XI (GE.X E0 ss0 st0)∧st0.kills=[]∧Tr E0 ss0 st0 E ss st
theorem YX.none (h:ss.y=none):YX E ss st:=fun sy hy=>by rw[h] at hy;simp at hy
theorem YX.tr {E':GE} {ss':SS} {st':St} (h:YX E ss st) (t:Tr E ss st E' ss' st'):YX E' ss' st':=by
 intro sy hy
 obtain⟨k,S0,E0,ss0,st0,h1,h2,h3,h4,h5,h6⟩:=h sy (t.yy.2.1▸hy)
 exact⟨k,S0,E0,ss0,st0,t.yy.1.trans h1,t.yy.2.2.trans h2,h3,h4,h5,h6.trans t⟩
theorem Tr.leave {E':GE} {ss':SS} {st':St} (t:Tr E ss st E' ss' st'):Tr E ss st E' (ss.leave ss') (st.leave st') where
 flo:=t.flo
 lo:=t.lo
 N:=t.N
 fams:=t.fams
 heap:=t.heap
 nb:=t.nb
 mu:=t.mu
 W:=t.W
 rows:=t.rows
 kill F hF:=t.kill F (List.mem_filter.1 hF).1
 fresh:=t.fresh
 yy:=t.yy
theorem XR.leave {E':GE} {ss':SS} {st':St} (h:XR E' ss' st') (t:Tr E ss st E' ss' st') (h0:st.kills=[]):XR E' (ss.leave ss') (st.leave st') where
 I:=h.I
 box:=h.box
 binj:=h.binj
 lo:=h.lo
 kill F hF:=by
  obtain⟨hm,hl⟩:=List.mem_filter.1 hF
  rw[h0] at hl
  simp only[List.contains_nil,Bool.or_false,decide_eq_true_eq] at hl
  refine⟨(h.kill F hm).1,fun f r hr hc=>List.mem_filter.2 ⟨(h.kill F hm).2 f r hr hc,?_⟩⟩
  rcases t.fresh f r F hr hc with ⟨r0,hr0,_⟩ | hge
  · have:=(List.getElem?_eq_some_iff.1 hr0).1
    simp[this]
  · omega
 kill0 hn:=by
  refine List.filter_eq_nil_iff.2 fun F hm hl=>?_
  rw[h0] at hl
  simp only[List.contains_nil,Bool.or_false,decide_eq_true_eq] at hl
  rcases t.kill F hm with hk | hw | hge
  · rw[h0] at hk;simp at hk
  · obtain⟨f,r,hr,_,hc⟩:=hw
    obtain⟨r',hr',_,_,hch,_⟩:=t.rows f r hr
    have hc':E'.chi f=some F:=by
     rcases hch with e | ⟨e,_⟩
     · rw[e];exact hc
     · have hc2:E.chi f=some F:=hc
       rw[e] at hc2;cases hc2
    have hf:=(h.kill F hm).2 f r' hr' hc'
    have hlt:=(List.getElem?_eq_some_iff.1 hr).1
    have hmem:f∈(ss.leave ss').kills:=List.mem_filter.2 ⟨hf,by simp at hlt ⊢;exact .inl hlt⟩
    rw[hn] at hmem
    simp at hmem
  · omega
theorem Tr.back {E':GE} {ss':SS} {st':St} (k4:Tr E { ss with kills:=[],y:=none } { st with kills:=[],y:=none } E' ss' st'):Tr E ss st E' { ss' with kills:=ss'.kills++ss.kills,y:=ss.y } { st' with kills:=st'.kills++st.kills,y:=st.y }:=by
 refine⟨k4.flo,k4.lo,k4.N,k4.fams,k4.heap,k4.nb,k4.mu,k4.W,k4.rows,fun F hF=>?_,k4.fresh,⟨rfl,rfl,k4.yy.2.2⟩⟩
 rcases List.mem_append.1 hF with hF | hF
 · rcases k4.kill F hF with h | h | h
   · simp at h
   · exact .inr (.inl h)
   · exact .inr (.inr h)
 · exact .inl hF
theorem XR.back {E':GE} {ss':SS} {st':St} (hX:XR E ss st) (k3:XR E' ss' st') (hf:st.fams.length≤st'.fams.length) (hfr:∀f r' F,ss'.rows[f]? = some r'→E'.chi f=some F→(∃r,ss.rows[f]? = some r∧E.chi f=some F)∨st.fams.length≤F) (oy:Option SY) (vy:Option YC) :
 XR E' { ss' with kills:=ss'.kills++ss.kills,y:=oy } { st' with kills:=st'.kills++st.kills,y:=vy }:=by
 refine⟨k3.I,k3.box,k3.binj,k3.lo,fun F hF=>?_,fun hk=>?_⟩
 · rcases List.mem_append.1 hF with hF | hF
   · exact⟨(k3.kill F hF).1,fun f r' h1 h2=>List.mem_append_left _ ((k3.kill F hF).2 f r' h1 h2)⟩
   · have hlt:=(hX.kill F hF).1
     refine⟨Nat.lt_of_lt_of_le hlt hf,fun f r' h1 h2=>List.mem_append_right _ ?_⟩
     rcases hfr f r' F h1 h2 with ⟨q,e1,e2⟩ | h
     · exact (hX.kill F hF).2 f q e1 e2
     · omega
 · simp only[List.append_eq_nil_iff] at hk ⊢
   exact⟨k3.kill0 hk.1,hX.kill0 hk.2⟩
def Post {ρ:Type} (E:GE) (ss:SS) (st:St) (K:List SV→SS→Option ρ) (r:ρ):List V→St→Prop:=fun S' st' =>
 ∃E' s' ss',RelL (E'.X ss' st') s' S'∧XR E' ss' st'∧Tr E ss st E' ss' st'∧K s' ss'=some r
theorem sput_rel {X:XC} {s:List SV} {S:List V} {z:SV} {v:V} (h:RelL X s S) (hz:Rel X z v) (dst:Option Tmp):RelL X (sput s dst z) (putS S dst v):=by
 cases dst with
 | none=>exact h
 | some d=>exact h.set d hz
theorem set_self {α:Type} {l:List α} {i:Nat} {a:α} (h:l[i]? = some a):l.set i a=l:=by
 apply List.ext_getElem?
 intro j
 rw[List.getElem?_set]
 split
 · rename_i e;subst e
   split
   · exact h.symm
   · rename_i hn;exact absurd (List.getElem?_eq_some_iff.1 h).1 hn
 · rfl
def CallOk {ρ:Type} (C:Cfg) (P:Program) (call:FuncId→List SV→SS→(SV→SS→Option ρ)→Option ρ):Prop :=
 (∀g args ss K r,g<P.funcs.size→call g args ss K=some r→∀E st A,RelL (E.X ss st) args A→XR E ss st→YX E ss st→st.kills=[] →
  ∃E' z ss' v st',Runs C P (.call g A st) (.ret v st')∧Rel (E'.X ss' st') z v∧XR E' ss' st'∧Tr E ss st E' ss' st'∧K z ss'=some r) ∧
 (∀args ss K r,call P.funcs.size args ss K=some r→∀E st A k,E.yk=some k→RelL (E.X ss st) args A→XR E ss st→YX E ss st →
  ∃E' z ss' v st',Runs C P (.call (P.funcs.size+k) A st) (.ret v st')∧Rel (E'.X ss' st') z v∧XR E' ss' st'∧Tr E { ss with kills:=[],y:=none } { st with kills:=[],y:=none } E' ss' st'∧K z ss'=some r)
def CallOkW {ρ:Type} (b:Bool) (C:Cfg) (P:Program) (call:FuncId→List SV→SS→(SV→SS→Option ρ)→Option ρ):Prop :=
 (∀g args ss K r,g<P.funcs.size→call g args ss K=some r→∀E st A,RelL (E.X ss st) args A→XR E ss st→st.kills=[]→st.y=none→ss.y=none →
  ∃E' z ss' v st',RunsW b C P g A st v st'∧Rel (E'.X ss' st') z v∧XR E' ss' st'∧Tr E ss st E' ss' st'∧K z ss'=some r) ∧
 (∀args ss K r,call P.funcs.size args ss K=some r→∀E st A k,E.yk=some k→RelL (E.X ss st) args A→XR E ss st→YX E ss st →
  ∃E' z ss' v st',RunsW b C P (P.funcs.size+k) A st v st'∧Rel (E'.X ss' st') z v∧XR E' ss' st'∧Tr E { ss with kills:=[],y:=none } { st with kills:=[],y:=none } E' ss' st'∧K z ss'=some r)
theorem CallOk.W {ρ:Type} {call:FuncId→List SV→SS→(SV→SS→Option ρ)→Option ρ} (h:CallOk C P call):CallOkW false C P call:=by
 refine⟨fun g args ss K r hlt hc E st A h1 h2 h3 h4 h5=>?_,fun args ss K r hc E st A k h0 h1 h2 h3=>?_⟩
 · obtain⟨E',z,ss',v,st',k1,k2⟩:=h.1 g args ss K r hlt hc E st A h1 h2 (YX.none h5) h3
   exact⟨E',z,ss',v,st',.of k1,k2⟩
 · obtain⟨E',z,ss',v,st',k1,k2⟩:=h.2 args ss K r hc E st A k h0 h1 h2 h3
   exact⟨E',z,ss',v,st',.of k1,k2⟩
theorem unlock_len:∀(a b:List SBox),a.length≤b.length→(unlockBs a b).length=b.length
 | [],b,_=>by unfold unlockBs;rfl
 | x::a,[],h=>by simp at h
 | x::a,y::b,h=>by
  have:=unlock_len a b (by simpa using h)
  unfold unlockBs
  cases x<;>cases y<;>simp[this]
theorem unlock_get:∀(a b:List SBox) (i:Nat) (x:SBox),(unlockBs a b)[i]? = some x→∃y,b[i]? = some y∧y.live=x.live∧(x=y ∨
 ((∃t w w' cs cs' t',a[i]? = some (.cells t' w cs')∧y=.cells t w' cs∧x=.cells t w cs))∨(∃K T w w' es K' T' es',a[i]? = some (.mapo K' T' w es')∧y=.mapo K T w' es∧x=.mapo K T w es))
 | [],b,i,x,h=>⟨x,by unfold unlockBs at h;exact h,rfl,.inl rfl⟩
 | z::a,[],i,x,h=>by
  unfold unlockBs at h
  cases z<;>simp at h
 | z::a,y::b,0,x,h=>by
  unfold unlockBs at h
  cases z with
  | cells t' w cs'=>cases y with
   | cells t w' cs=>simp at h;subst h;exact⟨_,rfl,rfl,.inr (.inl ⟨t,w,w',cs,cs',t',rfl,rfl,rfl⟩)⟩
   | _=>simp at h;subst h;exact⟨_,rfl,rfl,.inl rfl⟩
  | mapo K' T' w es'=>cases y with
   | mapo K T w' es=>simp at h;subst h;exact⟨_,rfl,rfl,.inr (.inr ⟨K,T,w,w',es,K',T',es',rfl,rfl,rfl⟩)⟩
   | _=>simp at h;subst h;exact⟨_,rfl,rfl,.inl rfl⟩
  | gone=>simp at h;subst h;exact⟨_,rfl,rfl,.inl rfl⟩
 | z::a,y::b,i+1,x,h=>by
  have h':(unlockBs a b)[i]? = some x:=by
   unfold unlockBs at h
   cases z<;>cases y<;>simpa using h
  simpa using unlock_get a b i x h'
theorem lock_X (E:GE) (ss:SS) (st:St):E.X ss.lock { st with lo:=st.heap.length,y:=none }=E.X ss st:=by simp[GE.X,SS.lock]
theorem lock_XR {E:GE} {ss:SS} {st:St} (h:XR E ss st) (hy:st.y=none):XR E ss.lock { st with lo:=st.heap.length,y:=none }:=by
 have hb:∀(i:Nat) (b:SBox),ss.lock.boxes[i]? = some b→∃b0:SBox,ss.boxes[i]? = some b0∧b=lockB b0:=by
  intro i b hi
  simp only[SS.lock,List.getElem?_map] at hi
  obtain⟨b0,h1,h2⟩:=Option.map_eq_some_iff.1 hi
  exact⟨b0,h1,h2.symm⟩
 refine⟨by rw[lock_X];exact h.I,fun i b hi=>?_,fun i j b b' hi hl hj hl' e=>?_,Nat.le_refl _,h.kill,h.kill0⟩
 · obtain⟨b0,h1,rfl⟩:=hb i b hi
   have:=h.box i b0 h1
   rw[lock_X]
   cases b0 with
   | cells t w cs=>obtain⟨vs,g1,g2,_⟩:=this;exact⟨vs,g1,g2,by simp⟩
   | mapo K T w es=>obtain⟨vs,g1,g2,_⟩:=this;exact⟨vs,g1,g2,by simp⟩
   | gone=>trivial
 · obtain⟨b0,h1,rfl⟩:=hb i b hi
   obtain⟨b1,h2,rfl⟩:=hb j b' hj
   exact h.binj i j b0 b1 h1 (by cases b0<;>first | rfl | simp[lockB,SBox.live] at hl) h2 (by cases b1<;>first | rfl | simp[lockB,SBox.live] at hl') e
theorem lock_back {E E':GE} {ss ss':SS} {st st':St} (h:XR E ss st) (hy:st.y=none) (hsy:ss.y=none) (h2:XR E' ss' st') (t:Tr E ss.lock { st with lo:=st.heap.length,y:=none } E' ss' st') :
 E'.X (ss.unlock ss') { st' with lo:=st.lo,y:=st.y }=E'.X ss' st'∧XR E' (ss.unlock ss') { st' with lo:=st.lo,y:=st.y }∧Tr E ss st E' (ss.unlock ss') { st' with lo:=st.lo,y:=st.y }:=by
 have hnb:ss.boxes.length≤ss'.boxes.length:=by have:=t.nb;simpa[SS.lock] using this
 have hX:E'.X (ss.unlock ss') { st' with lo:=st.lo,y:=st.y }=E'.X ss' st':=by simp[GE.X,SS.unlock,unlock_len _ _ hnb]
 have hlo:st'.lo=st.heap.length:=t.lo
 have hmu:∀i,i<ss.boxes.length→E'.mu i=E.mu i:=fun i hi=>t.mu i (by simpa[SS.lock] using hi)
 have hle:=h.lo
 refine⟨hX,⟨by rw[hX];exact h2.I,fun i b hi=>?_,fun i j b b' hi hl hj hl' e=>?_,Nat.le_trans h.lo t.heap,h2.kill,h2.kill0⟩,?_⟩
 · obtain⟨y,h3,_,h4⟩:=unlock_get _ _ i b hi
   have hbr:=h2.box i y h3
   rw[hX]
   rcases h4 with rfl | ⟨T,w,w',cs,cs',t',h4,rfl,rfl⟩ | ⟨K,T,w,w',es,K',T',es',h4,rfl,rfl⟩
   · cases b with
     | cells t w cs=>obtain⟨vs,g1,g2,g3⟩:=hbr;exact⟨vs,g1,g2,fun hw=>by have:=g3 hw;simp only;omega⟩
     | mapo K T w es=>obtain⟨vs,g1,g2,g3⟩:=hbr;exact⟨vs,g1,g2,fun hw=>by have:=g3 hw;simp only;omega⟩
     | gone=>trivial
   · obtain⟨vs,g1,g2,_⟩:=hbr
     refine⟨vs,g1,g2,fun hw=>?_⟩
     obtain⟨_,_,_,g3⟩:=h.box i _ h4
     rw[hmu i (List.getElem?_eq_some_iff.1 h4).1]
     exact g3 hw
   · obtain⟨vs,g1,g2,_⟩:=hbr
     refine⟨vs,g1,g2,fun hw=>?_⟩
     obtain⟨_,_,_,g3⟩:=h.box i _ h4
     rw[hmu i (List.getElem?_eq_some_iff.1 h4).1]
     exact g3 hw
 · obtain⟨y,h3,h4,_⟩:=unlock_get _ _ i b hi
   obtain⟨y',h3',h4',_⟩:=unlock_get _ _ j b' hj
   exact h2.binj i j y y' h3 (h4.trans hl) h3' (h4'.trans hl') e
 · refine⟨t.flo,rfl,t.N,t.fams,t.heap,by simp only[SS.unlock,unlock_len _ _ hnb];exact hnb,hmu,fun F hF=>?_,t.rows,fun F hF=>?_,t.fresh,⟨rfl,rfl,t.yy.2.2⟩⟩
   · rw[hX] at hF
     have:=t.W F hF
     rwa [lock_X] at this
   · have:=t.kill F hF
     rwa [lock_X] at this
theorem CallOk.L {ρ:Type} {keep:FuncId→Bool} {call:FuncId→List SV→SS→(SV→SS→Option ρ)→Option ρ} (hk:C.keep=keep) (h:CallOk C P call) :
 CallOkW true C P fun g args ss K=>if (keep g&&decide (g<P.funcs.size))=true then call g args ss.lock fun v ss'=>K v (ss.unlock ss') else call g args ss K:=by
 subst hk
 refine⟨fun g args ss K r hlt hc E st A h1 h2 h3 h4 h5=>?_,fun args ss K r hc E st A k h0 h1 h2 h3=>?_⟩
 · simp only at hc
   split at hc
   · rename_i hkp
     obtain⟨E',z,ss',v,st',k1,k2,k3,k4,k5⟩:=h.1 g args ss.lock _ r hlt hc E { st with lo:=st.heap.length,y:=none } A (by rw[lock_X];exact h1) (lock_XR h2 h4) (YX.none rfl) h3
     obtain⟨e1,e2,e3⟩:=lock_back h2 h4 h5 k3 k4
     exact⟨E',z,ss.unlock ss',v,_,.low hkp k1,by rw[e1];exact k2,e2,e3,k5⟩
   · rename_i hkp
     obtain⟨E',z,ss',v,st',k1,k2⟩:=h.1 g args ss K r hlt hc E st A h1 h2 (YX.none h5) h3
     exact⟨E',z,ss',v,st',.pure (by simpa using hkp) k1,k2⟩
 · simp only at hc
   rw[if_neg (by simp)] at hc
   obtain⟨E',z,ss',v,st',k1,k2⟩:=h.2 args ss K r hc E st A k h0 h1 h2 h3
   exact⟨E',z,ss',v,st',.pure (by simp) k1,k2⟩
theorem lastB_call {all:Array Oper} {o:Oper} {S:List V} {f:FuncId} {args:List V} (h:aop P S o st=some (.call f args)):lastB all o=false:=by
 have hs:storeOp o=false:=by
  unfold storeOp
  cases hop:o.op with
  | store t p v =>
   unfold aop at h
   rw[hop] at h
   simp only at h
   exfalso
   revert h
   generalize storeB P S st t _ _=x
   intro h
   cases x<;>simp at h
  | _=>rfl
 unfold lastB
 rw[hs]
 simp
theorem sops_sound {ρ:Type} {r:ρ} {d b:Bool} {all:Array Oper} {call:Nat→FuncId→List SV→SS→(SV→SS→Option ρ)→Option ρ} (hcall:∀i,CallOkW b C P (call i)) :
 ∀{l:List Oper} {i:Nat} {s:List SV} {ss:SS} {K:List SV→SS→Option ρ} {E:GE} {S:List V} {st:St},sops P call d all i l s ss K=some r→RelL (E.X ss st) s S→XR E ss st→YX E ss st →
  ROpsW b C P d all l S st (Post E ss st K r):=by
 intro l
 induction l with
 | nil =>
  intro i s ss K E S st h hs hX hY
  exact ROpsW.nil ⟨E,s,ss,hs,hX,Tr.refl,h⟩
 | cons o l ih =>
  intro i s ss K E S st h hs hX hY
  have go:∀(s:List SV),RelL (E.X ss st) s S→wantedB all S o=some true →
   sop P s o ss (fun v s' ss'=>if (d&&ss'.kills.length != ss.kills.length&&!lastB all o)=true then none else sops P call d all (i+1) l (sput s' o.dst v) ss' K) (call i)=some r→ROpsW b C P d all (o::l) S st (Post E ss st K r):=by
   intro s hs hw h
   rcases sop_rel hX hs h with ⟨E',z,s',ss',u,S',st',h1,h2,h3,h4,h5,h6,h7⟩ | ⟨g,args,A,h1,hlt,h2,h3⟩ | ⟨k,args,A,hyk,h1,h2,h3⟩
   · simp only at h7
     split at h7
     · simp at h7
     · rename_i hd
       refine ROpsW.val1 hw h1 ?_ ((ih h7 (sput_rel h3 h2 o.dst) h4 (hY.tr h5)).mono ?_)
       · cases d with
         | false=>exact .inl rfl
         | true =>
          cases hl:lastB all o with
          | true=>exact .inr (.inr rfl)
          | false =>
           refine .inr (.inl (h6 ?_))
           rw[hl] at hd
           simpa using hd
       · rintro S2 st2 ⟨E2,s2,ss2,g1,g2,g3,g4⟩
         exact⟨E2,s2,ss2,g1,g2,h5.trans g3,g4⟩
   · obtain⟨E',z,ss',v,st',k1,k2,k3,k4,k5⟩:=(hcall i).1 g args _ _ r hlt h3 E { st with kills:=[],y:=none } A h2 hX.nokill rfl rfl rfl
     simp only at k5
     split at k5
     · simp at k5
     · rename_i hd
       have hstay:=k4.stay hX.nokill.I k3 rfl
       have hs2:RelL (E'.X ss' st') (skillAll ss'.kills s) (killAll st'.kills S):=by
        rw[skillAll_eq,killAll_eq]
        exact RelL.stay hstay hs
       have tr2:Tr E ss st E' { ss' with kills:=ss'.kills++ss.kills,y:=ss.y } { st' with kills:=st'.kills++st.kills,y:=st.y }:=k4.back
       have hX2:XR E' { ss' with kills:=ss'.kills++ss.kills,y:=ss.y } { st' with kills:=st'.kills++st.kills,y:=st.y }:=XR.back hX k3 tr2.fams k4.fresh _ _
       have hkd:d=false∨st'.kills=[]:=by
        cases d with
        | false=>exact .inl rfl
        | true =>
         refine .inr (k3.kill0 ?_)
         rw[lastB_call h1] at hd
         simp only[Bool.true_and,Bool.not_false,Bool.and_true,bne_iff_ne,ne_eq,Decidable.not_not,List.length_append] at hd
         exact List.length_eq_zero_iff.1 (by omega)
       obtain⟨S2,st2,r1,E2,s2,ss2,g1,g2,g3,g4⟩:=ih (st:={ st' with kills:=st'.kills++st.kills,y:=st.y }) k5 (sput_rel (X:=E'.X ss' st') hs2 k2 o.dst) hX2 (hY.tr tr2)
       exact ROpsW.call1 (by rw[if_neg (Nat.not_le.2 hlt)]) hw h1 k1 hkd ⟨S2,st2,r1,E2,s2,ss2,g1,g2,tr2.trans g3,g4⟩
   · obtain⟨E',z,ss',v,st',k1,k2,k3,k4,k5⟩:=(hcall i).2 args _ _ r h3 E st A k hyk h2 hX hY
     simp only at k5
     split at k5
     · simp at k5
     · rename_i hd
       have hstay:=k4.stay hX.nokill.I k3 rfl
       have hs2:RelL (E'.X ss' st') (skillAll ss'.kills s) (killAll st'.kills S):=by
        rw[skillAll_eq,killAll_eq]
        exact RelL.stay hstay hs
       have tr2:Tr E ss st E' { ss' with kills:=ss'.kills++ss.kills,y:=ss.y } { st' with kills:=st'.kills++st.kills,y:=st.y }:=k4.back
       have hX2:XR E' { ss' with kills:=ss'.kills++ss.kills,y:=ss.y } { st' with kills:=st'.kills++st.kills,y:=st.y }:=XR.back hX k3 tr2.fams k4.fresh _ _
       have hkd:d=false∨st'.kills=[]:=by
        cases d with
        | false=>exact .inl rfl
        | true =>
         refine .inr (k3.kill0 ?_)
         rw[lastB_call h1] at hd
         simp only[Bool.true_and,Bool.not_false,Bool.and_true,bne_iff_ne,ne_eq,Decidable.not_not,List.length_append] at hd
         exact List.length_eq_zero_iff.1 (by omega)
       obtain⟨S2,st2,r1,E2,s2,ss2,g1,g2,g3,g4⟩:=ih (st:={ st' with kills:=st'.kills++st.kills,y:=st.y }) k5 (sput_rel (X:=E'.X ss' st') hs2 k2 o.dst) hX2 (hY.tr tr2)
       exact ROpsW.call1 (by rw[if_pos (Nat.le_add_right _ _)]) hw h1 k1 hkd ⟨S2,st2,r1,E2,s2,ss2,g1,g2,tr2.trans g3,g4⟩
  have skip:∀(s:List SV),RelL (E.X ss st) s S→wantedB all S o=some false→sops P call d all (i+1) l (sput s o.dst (.tup [])) ss K=some r→ROpsW b C P d all (o::l) S st (Post E ss st K r):=by
   intro s hs hw h
   exact ROpsW.skip1 hw (ih h (sput_rel hs (show Rel (E.X ss st) (.tup []) (.tup []) from ⟨[],rfl,rfl⟩) o.dst) hX hY)
  simp only[sops] at h
  split at h
  · rename_i hg
    exact go s hs (by simp[wantedB,hg]) h
  · rename_i j want hg
    split at h
    · rename_i q hq
      split at h
      · rename_i b hb
        obtain⟨v,e1,e2⟩:=hs.get hb
        simp only[Rel] at e2;subst e2
        have hset:∀b',b=b'→RelL (E.X ss st) (s.set q (.bool b')) S:=by
         rintro b' rfl
         have:=hs.set q (x:=.bool b) (v:=.bool b) rfl
         rwa [set_self e1] at this
        split at h
        · rename_i hbw
          exact go _ (hset want hbw) (by simp only[wantedB,hg,hq,e1,hbw,beq_self_eq_true]) h
        · rename_i hbw
          have hb':b=!want:=by cases b<;>cases want<;>simp_all
          exact skip _ (hset _ hb') (by simp only[wantedB,hg,hq,e1,hb'];cases want<;>rfl) h
      · rename_i hb
        obtain⟨v,e1,e2⟩:=hs.get hb
        obtain⟨vs,rfl,e2⟩:=e2
        simp only[RelL] at e2;subst e2
        exact skip s hs (by simp only[wantedB,hg,hq,e1]) h
      · simp at h
    · simp at h
def resOne (P:Program) (st:St) (S:List V):ResultVar→Option V
 | .tmp t=>some (S.getD t .any)
 | .cell a t=>loadB P st t (S.getD a .any)
theorem resB_eq {S:List V} {rs:Array ResultVar}:resB P st S rs=(match rs.toList.mapM (resOne P st S) with | some [v]=>some v | some vs=>some (.tup vs) | none=>none):=rfl
def sresOne (P:Program) (ss:SS) (s:List SV):ResultVar→Option SV
 | .tmp t=>some (s.getD t .any)
 | .cell a t=>sload P ss t (s.getD a .any)
theorem sres_eq {s:List SV} {rs:Array ResultVar}:sres P ss s rs=(match rs.toList.mapM (sresOne P ss s) with | some [v]=>some v | some vs=>some (.tup vs) | none=>none):=rfl
theorem sres_rel (hX:XR E ss st) {s:List SV} {S:List V} (hs:RelL (E.X ss st) s S) {rs:Array ResultVar} {z:SV} (h:sres P ss s rs=some z):∃v,resB P st S rs=some v∧Rel (E.X ss st) z v:=by
 have key:∀(l:List ResultVar) (zs:List SV),l.mapM (sresOne P ss s)=some zs→∃vs,l.mapM (resOne P st S)=some vs∧RelL (E.X ss st) zs vs:=by
  intro l
  induction l with
  | nil=>intro zs h;simp at h;subst h;exact⟨[],rfl,rfl⟩
  | cons a l ih =>
   intro zs h
   rw[List.mapM_cons] at h
   simp only[Option.bind_eq_bind,Option.bind_eq_some_iff,Option.pure_def,Option.some.injEq] at h
   obtain⟨z,hz,zs',hzs,rfl⟩:=h
   obtain⟨vs,e1,e2⟩:=ih zs' hzs
   cases a with
   | tmp t =>
    simp only[sresOne,Option.some.injEq] at hz;subst hz
    exact⟨S.getD t .any::vs,by rw[List.mapM_cons,e1];rfl,_,_,rfl,hs.getD t,e2⟩
   | cell a t =>
    obtain⟨w,e3,e4⟩:=sload_rel hX hz (hs.getD a)
    exact⟨w::vs,by rw[List.mapM_cons,e1];simp only[resOne,e3];rfl,_,_,rfl,e4,e2⟩
 rw[sres_eq] at h
 rw[resB_eq]
 cases hm:rs.toList.mapM (sresOne P ss s) with
 | none=>rw[hm] at h;simp at h
 | some zs =>
  obtain⟨vs,e1,e2⟩:=key _ _ hm
  rw[hm] at h
  rw[e1]
  have hlen:=e2.len
  match zs,vs,hlen,e2,h with
  | [],[],_,e2,h=>simp only[Option.some.injEq] at h;subst h;exact⟨_,rfl,[],rfl,rfl⟩
  | [z1],[v1],_,e2,h =>
   simp only[Option.some.injEq] at h;subst h
   obtain⟨v,vs',e,e3,_⟩:=e2
   simp only[List.cons.injEq] at e
   obtain⟨rfl,_⟩:=e
   exact⟨_,rfl,e3⟩
  | z1::z2::zs,v1::v2::vs,_,e2,h=>simp only[Option.some.injEq] at h;subst h;exact⟨_,rfl,_,rfl,e2⟩
theorem loopS_iter {σ τ:Type} {step:σ→Option (σ ⊕ τ)} {x:σ} {y:τ} (h:loopS step x=some y):∃n,iterS step n x=some y:=by
 unfold loopS at h
 split at h
 · rename_i z hz
   simp only[Option.some.injEq] at h
   rw[←h]
   exact⟨_,hz⟩
 split at h
 · rename_i hx
   simp only[Option.some.injEq] at h
   rw[←h]
   exact Classical.choose_spec hx
 · simp at h
theorem entry_mod {h:Sh} {b0:Nat} {s:List SV} {x:Ex} (hx:h.ex b0 ss.rows.length false s ss=some x) (f:Nat) (r0:SRow) (hr:RSh) (h1:ss.rows[f]? = some r0) (h2:h.rows[f]? = some hr) (hm:hr.mod=true):r0.cur<hr.row.cur:=by
 unfold Sh.ex at hx
 split at hx
 · split at hx
   · rename_i hc
     simp only[Option.some.injEq] at hx;subst hx
     have hlt:=(List.getElem?_eq_some_iff.1 h1).1
     rcases rowsOk_spec hc.2.2.2.1 f hr h2 with ⟨_,_,c⟩ | ⟨_,q,b1,_,_,_,b5⟩
     · omega
     · rw[h1] at b1;cases b1
       simpa[hm] using b5
   · simp at hx
 · simp at hx
theorem liveS_spec {ss:SS} {i:Nat} (h:liveS ss i=true):∃b,ss.boxes[i]? = some b∧b.live=true:=by
 unfold liveS at h
 cases hb:ss.boxes[i]? with
 | none=>rw[hb] at h;simp at h
 | some b =>
  refine⟨b,rfl,?_⟩
  rw[hb] at h
  cases b<;>first | rfl | (simp at h;done)
theorem sfar_rel {E:GE} {s:List SV} {S:List V} {ss:SS} {st:St} (hs:RelL (E.X ss st) s S) (hX:XR E ss st) {x y:Nat} (h:sfar s ss x y=true):farB S x y=true:=by
 have hx:=sev_rel hs (.tmp x)
 have hy:=sev_rel hs (.tmp y)
 unfold sfar at h
 unfold farB
 simp only[sev,ev] at hx hy
 split at h
 · rename_i i o1 j o2 e1 e2
   rw[e1] at hx;rw[e2] at hy
   simp only[Rel] at hx hy
   rw[hx.2,hy.2]
   simp only[Bool.and_eq_true,bne_iff_ne] at h ⊢
   obtain⟨b1,c1,c2⟩:=liveS_spec h.1.2
   obtain⟨b2,c3,c4⟩:=liveS_spec h.2
   exact fun e=>h.1.1 (hX.binj i j b1 b2 c1 c2 c3 c4 e)
 · rename_i T tk m off w e1
   rw[e1] at hx
   simp only[Rel] at hx
   obtain⟨t,idx,e,hv,_⟩:=hx
   rw[hv]
 · rename_i T tk m off w e2 _
   rw[e2] at hy
   simp only[Rel] at hy
   obtain⟨t,idx,e,hv,_⟩:=hy
   rw[hv]
   split
   · rename_i h1 h2;cases h2
   · rfl
 · simp at h
def PostE {ρ:Type} (E:GE) (ss:SS) (st:St) (K:AExit→List SV→SS→Option ρ) (r:ρ):AExit→List V→St→Prop:=fun e S' st'=>Post E ss st (K e) r S' st'
theorem PostE.from {ρ:Type} {E E1:GE} {ss ss1:SS} {st st1:St} {K:AExit→List SV→SS→Option ρ} {r:ρ} (t:Tr E ss st E1 ss1 st1) {e:AExit} {S:List V} {st2:St} (h:PostE E1 ss1 st1 K r e S st2):PostE E ss st K r e S st2:=by
 obtain⟨E2,s2,ss2,g1,g2,g3,g4⟩:=h
 exact⟨E2,s2,ss2,g1,g2,t.trans g3,g4⟩
theorem run_sound (hG:GOk G P C):∀n:Nat,
 (∀{ρ:Type} (path:List Nat) (pos:Nat) (c:Code) (s:List SV) (ss:SS) (K:AExit→List SV→SS→Option ρ) (r:ρ),runK G P n path pos c s ss K=some r→∀(E:GE) (S:List V) (st:St),RelL (E.X ss st) s S→XR E ss st→YX E ss st →
  Reach C P c S st (PostE E ss st K r)) ∧
 (∀{ρ:Type} (path:List Nat),CallOk (ρ:=ρ) C P (fun g args ss K=>callK G P n path g args ss K)):=by
 intro n
 induction n with
 | zero =>
  exact⟨fun path pos c s ss K r h=>by simp[runK] at h,fun path=>⟨fun g args ss K r _ h=>by simp[callK] at h,fun args ss K r h=>by simp[callK] at h⟩⟩
 | succ n ih =>
  obtain⟨ihr,ihc⟩:=ih
  constructor
  · intro ρ path pos c s ss K r h E S st hs hX hY
    unfold runK at h
    have thn:∀{a b:Code} {pos':Nat} {K1:AExit→List SV→SS→Option ρ},(∀s ss,K1 .normal s ss=runK G P n path pos' b s ss K)→(∀e s ss,e≠.normal→K1 e s ss=K e s ss) →
     Reach C P a S st (PostE E ss st K1 r)→Reach C P (.seq a b) S st (PostE E ss st K r):=by
     intro a b pos' K1 hn ho h1
     refine Reach.seq (h1.mono ?_)
     intro e S1 st1 hp
     obtain⟨E1,s1,ss1,g1,g2,g3,g4⟩:=hp
     cases e with
     | normal =>
      rw[hn] at g4
      exact (ihr path pos' b s1 ss1 K r g4 E1 S1 st1 g1 g2 (hY.tr g3)).mono fun e S2 st2 h=>h.from g3
     | ret=>exact⟨E1,s1,ss1,g1,g2,g3,by rw[←ho _ _ _ (by simp)];exact g4⟩
     | exit i=>exact⟨E1,s1,ss1,g1,g2,g3,by rw[←ho _ _ _ (by simp)];exact g4⟩
    cases c with
    | skip=>exact Reach.skip ⟨E,s,ss,hs,hX,Tr.refl,h⟩
    | label l=>exact Reach.label ⟨E,s,ss,hs,hX,Tr.refl,h⟩
    | ret=>exact Reach.ret ⟨E,s,ss,hs,hX,Tr.refl,h⟩
    | exit i=>exact Reach.exit ⟨E,s,ss,hs,hX,Tr.refl,h⟩
    | scope c=>exact Reach.scope (ihr path _ c s ss K r h E S st hs hX hY)
    | seq a b =>
     simp only at h
     split at h
     · rename_i an han
       simp only[bndW] at h
       obtain⟨y,h1,h2⟩:=bnd_elim h
       have h3:=ihr path _ a s ss _ y h1 E S st hs hX hY
       refine thn (pos':=pos+1+csize a) (K1:=fun e s ss=>match e with | .normal=>runK G P n path (pos+1+csize a) b s ss K | e=>K e s ss) (fun _ _=>rfl) (fun e _ _ he=>by cases e<;>simp_all) (h3.mono ?_)
       intro e S1 st1 hp
       obtain⟨E1,s1,ss1,g1,g2,g3,g4⟩:=hp
       obtain⟨y',sh,x,e1,e2,e3⟩:=mkOut_go g4
       simp only[Option.some.injEq] at e1;subst e1
       rw[e3] at h2
       obtain⟨E2,s2,ss2,k1,k2,k3,_,k4⟩:=cut_ok (K:=fun s ss=>match e with | .normal=>runK G P n path (pos+1+csize a) b s ss K | e=>K e s ss) g2 g1 g3 hX.I.flo e2 (by simp) h2
       exact⟨E2,s2,ss2,k1,k2,k3,k4⟩
     · exact thn (pos':=pos+1+csize a) (K1:=fun e s ss=>match e with | .normal=>runK G P n path (pos+1+csize a) b s ss K | e=>K e s ss) (fun _ _=>rfl) (fun e _ _ he=>by cases e<;>simp_all) (ihr path _ a s ss _ r h E S st hs hX hY)
    | cond t x y =>
     simp only at h
     have ht:=sev_rel hs t
     split at h
     · rename_i q hq
       rw[hq] at ht
       simp only[Rel] at ht
       split at h
       · rename_i hq';subst hq'
         exact Reach.cond_t ht (ihr path _ x s ss K r h E S st hs hX hY)
       · rename_i hq'
         have:q=false:=by simpa using hq'
         subst this
         exact Reach.cond_f ht (ihr path _ y s ss K r h E S st hs hX hY)
     · simp at h
    | block id c =>
     simp only at h
     refine Reach.block ((ihr path _ c s ss _ r h E S st hs hX hY).mono ?_)
     intro e S1 st1 hp
     obtain⟨E1,s1,ss1,g1,g2,g3,g4⟩:=hp
     cases e with
     | normal=>exact⟨E1,s1,ss1,g1,g2,g3,g4⟩
     | ret=>exact⟨E1,s1,ss1,g1,g2,g3,g4⟩
     | exit i =>
      simp only at g4
      simp only[Blk]
      split at g4
      · rename_i hi;rw[if_pos hi];exact⟨E1,s1,ss1,g1,g2,g3,g4⟩
      · rename_i hi;rw[if_neg hi];exact⟨E1,s1,ss1,g1,g2,g3,g4⟩
    | loop c =>
     simp only at h
     split at h
     ·
      rename_i hd outs han
      split at h
      · rename_i x0 hx0
        split at h
        · rename_i x hx
          simp only[bndW] at h
          obtain⟨y,h1,h2⟩:=bnd_elim h
          obtain⟨k,hk⟩:=loopS_iter h1
          clear h1 h
          have head:∀(k:Nat) (x:HL hd.tys) (S1:List V) (st1:St),
           (∀{τ:Type} (K:List SV→SS→Option τ) (t:τ),hd.inj (ofHL hd.tys x) x0.keep (fun s1 ss1=>K s1 { ss1 with y:=ss.y })=some t→∃E1 s1 ss1,RelL (E1.X ss1 st1) s1 S1∧XR E1 ss1 st1∧Tr E ss st E1 ss1 st1∧K s1 ss1=some t) →
           iterS (fun x=>hd.inj (ofHL hd.tys x) x0.keep fun s1 ss1=>runK G P n path (pos+1) c s1 { ss1 with y:=ss.y } fun e s2 ss2=>match e with
            | .normal=>(match hd.ex ss.boxes.length ss.rows.length true s2 ss2 with
             | some x2=>grdKeep (1::pos::path) 0 x2.keep x0.keep (match toHL hd.tys x2.pay with | some y=>some (Sum.inl (β:=OutT outs) y) | none=>none)
             | none=>stop (1::pos::path) s2 ss2)
            | e=>mkOut (pos::path) s ss e s2 ss2 outs fun y=>some (Sum.inr (α:=HL hd.tys) y)) k x=some y →
           Reach C P (.loop c) S1 st1 (PostE E ss st K r):=by
           intro k
           induction k with
           | zero=>intro x S1 st1 _ hk;simp[iterS] at hk
           | succ k ihk =>
            intro x S1 st1 hat hk
            unfold iterS at hk
            have body:∀t,(hd.inj (ofHL hd.tys x) x0.keep fun s1 ss1=>runK G P n path (pos+1) c s1 { ss1 with y:=ss.y } fun e s2 ss2=>match e with
             | .normal=>(match hd.ex ss.boxes.length ss.rows.length true s2 ss2 with
              | some x2=>grdKeep (1::pos::path) 0 x2.keep x0.keep (match toHL hd.tys x2.pay with | some y=>some (Sum.inl (β:=OutT outs) y) | none=>none)
              | none=>stop (1::pos::path) s2 ss2)
             | e=>mkOut (pos::path) s ss e s2 ss2 outs fun y=>some (Sum.inr (α:=HL hd.tys) y))=some t →
             Reach C P c S1 st1 (PostE E ss st (fun e s2 ss2=>match e with
             | .normal=>(match hd.ex ss.boxes.length ss.rows.length true s2 ss2 with
              | some x2=>grdKeep (1::pos::path) 0 x2.keep x0.keep (match toHL hd.tys x2.pay with | some y=>some (Sum.inl (β:=OutT outs) y) | none=>none)
              | none=>stop (1::pos::path) s2 ss2)
             | e=>mkOut (pos::path) s ss e s2 ss2 outs fun y=>some (Sum.inr (α:=HL hd.tys) y)) t):=by
             intro t ht
             obtain⟨E1,s1,ss1,g1,g2,g3,g4⟩:=hat (fun s1 ss1=>runK G P n path (pos+1) c s1 ss1 _) t ht
             exact (ihr path _ c s1 ss1 _ t g4 E1 S1 st1 g1 g2 (hY.tr g3)).mono fun e S2 st2 h=>h.from g3
            split at hk
            ·
             rename_i y1 ht
             obtain⟨e,S2,st2,hrun,E2,s2,ss2,g1,g2,g3,g4⟩:=body _ ht
             cases e with
             | normal =>
              simp only at g4
              split at g4
              · rename_i x2 hx2
                obtain⟨hkeep,g4⟩:=grdKeep_elim g4
                split at g4
                · rename_i y2 hy2
                  simp only[Option.some.injEq,Sum.inl.injEq] at g4;subst g4
                  have hat2:∀{τ:Type} (K:List SV→SS→Option τ) (t:τ),hd.inj (ofHL hd.tys y2) x0.keep (fun s1 ss1=>K s1 { ss1 with y:=ss.y })=some t→∃E1 s1 ss1,RelL (E1.X ss1 st2) s1 S2∧XR E1 ss1 st2∧Tr E ss st E1 ss1 st2∧K s1 ss1=some t:=by
                   intro τ K t hi
                   rw[toHL_of hy2,←hkeep] at hi
                   obtain⟨E3,s3,ss3,k1,k2,k3,_,k4⟩:=cut_ok (K:=K) g2 g1 g3 hX.I.flo hx2 (fun _ f r0 hr a b c=>entry_mod hx0 f r0 hr a b c) hi
                   exact⟨E3,s3,ss3,k1,k2,k3,k4⟩
                  obtain⟨e3,S3,st3,hrun3,hp3⟩:=ihk y2 S2 st2 hat2 hk
                  exact⟨e3,S3,st3,Runs.loop_next hrun hrun3,hp3⟩
                · simp at g4
              · simp[stop] at g4
             | ret =>
              obtain⟨y',sh,x',e1,_⟩:=mkOut_go g4
              simp at e1
             | exit i =>
              obtain⟨y',sh,x',e1,_⟩:=mkOut_go g4
              simp at e1
            ·
             rename_i y1 ht
             simp only[Option.some.injEq] at hk;subst hk
             obtain⟨e,S2,st2,hrun,E2,s2,ss2,g1,g2,g3,g4⟩:=body _ ht
             have out:∀e,e≠.normal→mkOut (pos::path) s ss e s2 ss2 outs (fun y=>some (Sum.inr (α:=HL hd.tys) y))=some (.inr y1)→PostE E ss st K r e S2 st2:=by
              intro e he g4
              obtain⟨y',sh,x',e1,e2,e3⟩:=mkOut_go g4
              simp only[Option.some.injEq,Sum.inr.injEq] at e1;subst e1
              rw[e3] at h2
              obtain⟨E3,s3,ss3,k1,k2,k3,_,k4⟩:=cut_ok (K:=K e) g2 g1 g3 hX.I.flo e2 (by simp) h2
              exact⟨E3,s3,ss3,k1,k2,k3,k4⟩
             cases e with
             | normal =>
              simp only at g4
              split at g4
              · obtain⟨_,g4⟩:=grdKeep_elim g4
                split at g4<;>simp at g4
              · simp[stop] at g4
             | ret=>exact⟨_,S2,st2,Runs.loop_out hrun (by simp),out .ret (by simp) g4⟩
             | exit i=>exact⟨_,S2,st2,Runs.loop_out hrun (by simp),out (.exit i) (by simp) g4⟩
            · simp at hk
          refine head k x S st ?_ hk
          intro τ K t hi
          rw[toHL_of hx] at hi
          obtain⟨E3,s3,ss3,k1,k2,k3,_,k4⟩:=cut_ok (K:=K) hX hs Tr.refl hX.I.flo hx0 (by simp) hi
          exact⟨E3,s3,ss3,k1,k2,k3,k4⟩
        · simp at h
      · simp[stop] at h
     ·
      obtain⟨e,S1,st1,hrun,E1,s1,ss1,g1,g2,g3,g4⟩:=ihr path _ c s ss _ r h E S st hs hX hY
      cases e with
      | normal =>
       obtain⟨e2,S2,st2,hrun2,hp2⟩:=ihr _ _ (.loop c) s1 ss1 K r g4 E1 S1 st1 g1 g2 (hY.tr g3)
       exact⟨e2,S2,st2,Runs.loop_next hrun hrun2,hp2.from g3⟩
      | ret=>exact⟨_,S1,st1,Runs.loop_out hrun (by simp),E1,s1,ss1,g1,g2,g3,g4⟩
      | exit i=>exact⟨_,S1,st1,Runs.loop_out hrun (by simp),E1,s1,ss1,g1,g2,g3,g4⟩
     · simp[stop] at h
    | region id ops d =>
     simp only at h
     split at h
     · rename_i hd
       have hops:=sops_sound (C:=C) (b:=true) (fun i=>CallOk.L hG.keep (call:=fun g args ss K=>callK G P n (g::i::pos::path) g args ss K) ⟨fun g args ss K r hlt h=>(ihc (g::i::pos::path)).1 g args ss K r hlt h,fun args ss K r h=>(ihc (P.funcs.size::i::pos::path)).2 args ss K r h⟩) h hs hX hY
       have hd1:d=true:=by
        cases d with
        | true=>rfl
        | false=>simp at hd
       subst hd1
       have hdb:drawB C P ops=false:=by
        have:drawB ⟨G.keep,fun _=>none⟩ P ops=false:=by simpa using hd
        rw[←hG.keep] at this
        exact this
       refine Reach.regionF hdb (hops.mono fun S1 st1 hp=>?_)
       obtain⟨E1,s1,ss1,g1,g2,g3,g4⟩:=hp
       simp only at g4
       split at g4
       · rename_i hf
         refine⟨?_,E1,s1,ss1,g1,g2,g3,g4⟩
         have:=drawG_mono (fun x y=>sfar_rel g1 g2) hf
         rw[←hG.keep] at this
         exact this
       · simp at g4
     · rename_i hd
       have hops:=(sops_sound (C:=C) (b:=false) (fun i=>CallOk.W (call:=fun g args ss K=>callK G P n (g::i::pos::path) g args ss K) ⟨fun g args ss K r hlt h=>(ihc (g::i::pos::path)).1 g args ss K r hlt h,fun args ss K r h=>(ihc (P.funcs.size::i::pos::path)).2 args ss K r h⟩) h hs hX hY).rops
       cases d with
       | false=>exact Reach.region hops
       | true =>
        refine Reach.regionD ?_ hops
        have:drawB ⟨G.keep,fun _=>none⟩ P ops=true:=by simpa using hd
        rw[←hG.keep] at this
        exact this
    | rangeFunc f ps a b =>
     simp only at h
     have hf:=sev_rel hs f
     split at h
     rotate_left
     · simp at h
     rename_i g first cap hy0 hq
     rw[hq] at hf
     obtain⟨va,vb,e1,f1,f2⟩:=hf
     split at h
     rotate_left
     · simp at h
     rename_i hcnd
     simp only[Bool.and_eq_true] at hcnd
     obtain⟨⟨⟨⟨⟨⟨⟨hcb,hkp⟩,hna⟩,hnb⟩,hns⟩,hnf⟩,hnc⟩,hnx⟩:=hcnd
     rw[←hG.keep] at hkp
     have hX1:XR { E with yk:=some st.ny } { ss with kills:=[],y:=some ⟨path,pos,ps,a,b,s⟩ } { st with kills:=[],y:=some ⟨st.ny,ps,a,b,S⟩,ny:=st.ny+1 }:=hX.yk hnx _ _ _ _ _ _ (by simp) (by simp)
     have hY1:YX { E with yk:=some st.ny } { ss with kills:=[],y:=some ⟨path,pos,ps,a,b,s⟩ } { st with kills:=[],y:=some ⟨st.ny,ps,a,b,S⟩,ny:=st.ny+1 }:=by
      intro sy hsy
      simp only[Option.some.injEq] at hsy
      subst hsy
      exact⟨st.ny,S,{ E with yk:=some st.ny },{ ss with kills:=[],y:=some ⟨path,pos,ps,a,b,s⟩ },{ st with kills:=[],y:=some ⟨st.ny,ps,a,b,S⟩,ny:=st.ny+1 },rfl,rfl,RelL.yk (X:=E.X ss st) hns hs,hX1.I,rfl,Tr.refl⟩
     have hargs:RelL (GE.X { E with yk:=some st.ny } { ss with kills:=[],y:=some ⟨path,pos,ps,a,b,s⟩ } { st with kills:=[],y:=some ⟨st.ny,ps,a,b,S⟩,ny:=st.ny+1 }) (first++[.yld]++cap) (va++[.func (.yield st.ny) [] []]++vb) :=
      ((RelL.yk (X:=E.X ss st) (o:=some st.ny) hnf f1).app (by exact⟨_,_,rfl,⟨st.ny,rfl,rfl⟩,rfl⟩:RelL { E.X ss st with yk:=some st.ny } [.yld] [.func (.yield st.ny) [] []])).app (RelL.yk (X:=E.X ss st) (o:=some st.ny) hnc f2)
     obtain⟨E2,z,ss2,v,st2,k1,k2,k3,k4,k5⟩:=(ihc (g::0::pos::path)).1 g _ _ _ r (callable_lt hcb) h _ _ _ hargs hX1 hY1 rfl
     split at k5
     rotate_left
     · simp at k5
     rename_i hn2
     have hrun:=Runs.rangeFunc (s:=S) (st:=st) e1 hcb hkp hna hnb k1
     have tr1:Tr E { ss with kills:=[] } { st with kills:=[] } { E2 with yk:=E.yk } { ss2 with y:=ss.y } { st2 with y:=st.y } :=
      ⟨k4.flo,k4.lo,k4.N,k4.fams,k4.heap,k4.nb,k4.mu,k4.W,k4.rows,k4.kill,k4.fresh,⟨rfl,rfl,rfl⟩⟩
     have hXb:XR { E2 with yk:=E.yk } { ss2 with kills:=ss2.kills,y:=ss.y } { st2 with kills:=st2.kills,y:=st.y,ny:=st2.ny }:=k3.yk hn2 _ _ _ _ _ _ k3.kill k3.kill0
     have hX2:XR { E2 with yk:=E.yk } { ss2 with kills:=ss2.kills++ss.kills,y:=none } { st2 with kills:=st2.kills++st.kills,y:=st.y }:=XR.back hX hXb k4.fams k4.fresh _ _
     have tr2:Tr E ss st { E2 with yk:=E.yk } { ss2 with kills:=ss2.kills++ss.kills,y:=none } { st2 with kills:=st2.kills++st.kills,y:=st.y }:=by
      refine⟨k4.flo,k4.lo,k4.N,k4.fams,k4.heap,k4.nb,k4.mu,k4.W,k4.rows,fun F hF=>?_,k4.fresh,⟨rfl,hy0.symm,rfl⟩⟩
      rcases List.mem_append.1 hF with hF | hF
      · rcases k4.kill F hF with h | h | h
        · simp at h
        · exact .inr (.inl h)
        · exact .inr (.inr h)
      · exact .inl hF
     have hs2:RelL (GE.X { E2 with yk:=E.yk } { ss2 with y:=ss.y } { st2 with y:=st.y }) (skillAll ss2.kills s) (killAll st2.kills S):=by
      rw[skillAll_eq,killAll_eq]
      exact RelL.stay (tr1.stay hX.I hXb rfl) hs
     exact⟨.normal,_,_,hrun,{ E2 with yk:=E.yk },skillAll ss2.kills s,{ ss2 with kills:=ss2.kills++ss.kills,y:=none },hs2,hX2,tr2,k5⟩
    | goto l=>simp at h
    | refuse w=>simp at h
  · intro ρ path
    refine⟨fun g args ss K r hlt h E st A hA hX hY hk=>?_,fun args ss K r h E st A k hyk hA hX hY=>?_⟩
    rotate_left
    ·
     unfold callK at h
     simp only at h
     rw[if_pos (Nat.le_refl _)] at h
     split at h
     rotate_left
     · simp at h
     rename_i sy hsy
     split at h
     rotate_left
     · simp at h
     rename_i hlen
     obtain⟨k0,S0,E0,ss0,st0,y1,y2,y3,y4,y5,y6⟩:=hY sy hsy
     rw[hyk] at y2
     cases y2
     have hs0:RelL (E.X ss st) (skillAll ss.kills sy.s0) (killAll st.kills S0):=by
      rw[skillAll_eq,killAll_eq]
      exact RelL.stay (y6.stay y4 hX y5) y3
     have hlay:∀(ps:List Tmp) (args:List SV) (A:List V) (s:List SV) (S:List V),RelL (E.X ss st) args A→RelL (E.X ss st) s S →
      RelL (E.X ss st) ((ps.zip args).foldl (fun s p=>s.set p.1 p.2) s) ((ps.zip A).foldl (fun s p=>s.set p.1 p.2) S):=by
      intro ps
      induction ps with
      | nil=>intro args A s S _ h;simpa using h
      | cons p ps ih =>
       intro args A s S ha h
       cases args with
       | nil=>simp only[RelL] at ha;subst ha;simpa using h
       | cons x args =>
        obtain⟨v,A',rfl,a1,a2⟩:=ha
        simp only[List.zip_cons_cons,List.foldl_cons]
        exact ih args A' _ _ a2 (h.set p a1)
     obtain⟨e,S1,st1,r1,E1,s1,ss1,g1,g2,g3,g4⟩:=ihr sy.path _ sy.assign _ { ss with kills:=[],y:=none } _ r h E (roundS (killAll st.kills S0) sy.ps A) { st with kills:=[],y:=none } (hlay sy.ps.toList args A _ _ hA hs0) hX.nokill (YX.none rfl)
     cases e with
     | ret=>simp at g4
     | exit i=>simp at g4
     | normal =>
      simp only at g4
      obtain⟨e2,S2,st2,r2,E2,s2,ss2,j1,j2,j3,j4⟩:=ihr sy.path _ sy.body s1 ss1 _ r g4 E1 S1 st1 g1 g2 (YX.none g3.yy.2.1)
      cases e2 with
      | ret=>simp at j4
      | exit i=>simp at j4
      | normal =>
       simp only at j4
       exact⟨E2,.bool true,ss2,.bool true,st2,Runs.yld y1 (by rw[←hA.len];exact hlen) r1 r2,rfl,j2,g3.trans j3,j4⟩
    unfold callK at h
    simp only at h
    rw[if_neg (Nat.not_le.2 hlt)] at h
    split at h
    ·
     rename_i ps rs F hg
     split at h
     · rename_i x hx
       obtain⟨y,h1,h2⟩:=bnd_elim h
       have hX2:=hX.retire (SV.toksL args)
       have tr2:Tr E ss st E (ss.retire (SV.toksL args)) st:=Tr.retire _
       have hel:=decL_rel hX2.I hx (hA.stay0 tr2.stay0) (ret_of _)
       obtain⟨v,e1,e2⟩:=hG.pure g ps rs F hg (E.X (ss.retire (SV.toksL args)) st).np x y A st h1 hel (by
        rintro F' (h | ⟨_,h,_⟩)
        · exact Nat.lt_of_lt_of_le (hX.I.nlo F' h) hX.I.flo
        · exact h)
       exact⟨E,_,_,v,st,e1,e2.rel,hX2,tr2,h2⟩
     · simp at h
    ·
     rename_i hg
     obtain⟨hkeep,hext⟩:=hG.inl g hg
     split at h
     · rename_i fn hf
       split at h
       · rename_i c hb
         split at h
         · rename_i hlen
           have hl:=hA.len
           have hstart:RelL (E.X ss st) (args++List.replicate (fn.ntmps-args.length) (.tup [])) (A++List.replicate (fn.ntmps-A.length) (.tup [])):=hA.app (by rw[hl];exact RelL.rep (X:=E.X ss st) (x:=.tup []) (v:=.tup []) ⟨[],rfl,rfl⟩ _)
           split at h
           ·
            rename_i an han
            simp only[bndW] at h
            obtain⟨y,h1,h2⟩:=bnd_elim h
            obtain⟨e,S1,st1,hrun,E1,s1,ss1,g1,g2,g3,g4⟩:=ihr path 0 c _ ss _ y h1 E (A++List.replicate (fn.ntmps-A.length) (.tup [])) st hstart hX hY
            have fin:(e=.normal∨e=.ret)→(match sres P ss1 s1 fn.results with
             | some v=>mkOut (2000000::path) [] ss .ret [v] ss1 an.outs some
             | none=>none)=some y→∃E' z ss' v st',Runs C P (.call g A st) (.ret v st')∧Rel (GE.X E' ss' st') z v∧XR E' ss' st'∧Tr E ss st E' ss' st'∧K z ss'=some r:=fun he g4=>by
             split at g4
             · rename_i z hz
               obtain⟨v,e1,e2⟩:=sres_rel g2 g1 hz
               obtain⟨y',sh,x,q1,q2,q3⟩:=mkOut_go g4
               simp only[Option.some.injEq] at q1;subst q1
               rw[q3] at h2
               obtain⟨E2,s2,ss2,k1,k2,k3,_,k4⟩:=cut_ok (K:=fun s ss3=>match s with | [v]=>K v (ss.leave ss3) | _=>none) g2 (RelL.one e2) g3 hX.I.flo q2 (by simp) h2
               split at k4
               · rename_i z2
                 obtain⟨v2,vs2,q4,q5,q6⟩:=k1
                 simp only[List.cons.injEq] at q4
                 obtain⟨rfl,rfl⟩:=q4
                 exact⟨E2,z2,ss.leave ss2,v,st.leave st1,Runs.call_keep hext hf hb (by rw[←hl];exact hlen) hkeep hrun he e1,q5,k2.leave k3 hk,k3.leave,k4⟩
               · simp at k4
             · simp at g4
            cases e with
            | exit i=>simp at g4
            | normal=>exact fin (.inl rfl) g4
            | ret=>exact fin (.inr rfl) g4
           · obtain⟨e,S1,st1,hrun,E1,s1,ss1,g1,g2,g3,g4⟩:=ihr path 0 c _ ss _ r h E (A++List.replicate (fn.ntmps-A.length) (.tup [])) st hstart hX hY
             cases e with
             | exit i=>simp at g4
             | normal =>
              simp only at g4
              split at g4
              · rename_i z hz
                obtain⟨v,e1,e2⟩:=sres_rel g2 g1 hz
                exact⟨E1,z,ss.leave ss1,v,st.leave st1,Runs.call_keep hext hf hb (by rw[←hl];exact hlen) hkeep hrun (.inl rfl) e1,e2,g2.leave g3 hk,g3.leave,g4⟩
              · simp at g4
             | ret =>
              simp only at g4
              split at g4
              · rename_i z hz
                obtain⟨v,e1,e2⟩:=sres_rel g2 g1 hz
                exact⟨E1,z,ss.leave ss1,v,st.leave st1,Runs.call_keep hext hf hb (by rw[←hl];exact hlen) hkeep hrun (.inr rfl) e1,e2,g2.leave g3 hk,g3.leave,g4⟩
              · simp at g4
         · simp at h
       · simp at h
     · simp at h
    ·
     rename_i tb hg
     split at h
     · rename_i i o
       obtain⟨v,A',rfl,⟨hi,rfl⟩,e⟩:=hA
       simp only[RelL] at e;subst e
       split at h
       · rename_i T cs hb
         split at h
         · rename_i hlies
           obtain⟨vs,b1,b2,b3⟩:=hX.box i _ hb
           have hlen:E.mu i<st.heap.length:=(List.getElem?_eq_some_iff.1 b1).1
           have hl2:liesAt P P.depth T (vs.length / P.cellsOf T) o tb 1=true:=by rw[←b2.len];exact hlies
           split at h
           · rename_i hc
             obtain⟨w,c1,c2⟩:=b2.get hc
             simp only[Rel] at c2;subst c2
             have hrun:=hG.bcopy g tb hg (E.mu i) o T vs st (b3 rfl) b1 (.inl c1) hl2
             obtain⟨g1,g2⟩:=boxes_set (X:=E.X ss st) hX (b':=.cells T true (cs.set o (.ptr i o))) (bx:=.cells T (vs.set o (.ptr (E.mu i) o))) hb rfl rfl
              ⟨_,by simp[hlen],b2.set o (show Rel (E.X ss st) (.ptr i o) (.ptr (E.mu i) o) from ⟨hi,rfl⟩),b3⟩
             exact⟨E,.tup [],_,.tup [],_,hrun,⟨[],rfl,rfl⟩,g1,g2,h⟩
           · rename_i i' o' hc
             split at h
             · rename_i he
               obtain⟨rfl,rfl⟩:=he
               obtain⟨w,c1,c2⟩:=b2.get hc
               obtain⟨_,rfl⟩:=c2
               have hrun:=hG.bcopy g tb hg (E.mu i') o' T vs st (b3 rfl) b1 (.inr c1) hl2
               rw[set_self c1,set_self b1] at hrun
               exact⟨E,.tup [],ss,.tup [],st,hrun,⟨[],rfl,rfl⟩,hX,Tr.refl,h⟩
             · simp at h
           · rename_i i' o' hc
             split at h
             · rename_i he
               obtain⟨rfl,rfl⟩:=he
               obtain⟨w,c1,c2⟩:=b2.get hc
               obtain⟨_,c2⟩:=c2
               have hrun:=hG.bcopy g tb hg (E.mu i') o' T vs st (b3 rfl) b1 (c2.imp (fun e=>by rw[c1,e]) (fun e=>by rw[c1,e])) hl2
               obtain⟨g1,g2⟩:=boxes_set (X:=E.X ss st) hX (b':=.cells T true (cs.set o' (.ptr i' o'))) (bx:=.cells T (vs.set o' (.ptr (E.mu i') o'))) hb rfl rfl
                ⟨_,by simp[hlen],b2.set o' (show Rel (E.X ss st) (.ptr i' o') (.ptr (E.mu i') o') from ⟨hi,rfl⟩),b3⟩
               exact⟨E,.tup [],_,.tup [],_,hrun,⟨[],rfl,rfl⟩,g1,g2,h⟩
             · simp at h
           · simp at h
         · simp at h
       · simp at h
     · simp at h
    ·
     rename_i t8 hg
     split at h
     · rename_i i o
       obtain⟨v,A',rfl,⟨hi,rfl⟩,e⟩:=hA
       simp only[RelL] at e;subst e
       split at h
       · rename_i T w0 cs hb
         obtain⟨vs,b1,b2,b3⟩:=hX.box i _ hb
         split at h
         · rename_i hc
           obtain⟨w,c1,q,rfl⟩:=b2.get hc
           have hrun:=hG.bstr g t8 hg (E.mu i) o T vs [] .nil q st b1 c1 (.inl ⟨rfl,rfl⟩) (by simp)
           exact⟨E,.str [],ss,.str [],st,hrun,rfl,hX,Tr.refl,h⟩
         · rename_i f e l hc
           obtain⟨w,c1,c2⟩:=b2.get hc
           obtain⟨t0,off,q,xs,rfl,⟨hz,r0,hr0,hT,hle,h4⟩,hl⟩:=c2
           have hoff:=hz rfl
           subst hoff
           split at h
           · rename_i r1 hr1
             rw[show (E.X ss st).rows[f]? = some r1 from hr1] at hr0;cases hr0
             split at h
             · rename_i hcond
               have hh:=grd_elim h
               clear h
               obtain⟨g1,h⟩:=hh
               have hh:=grd_elim h
               clear h
               obtain⟨g2,h⟩:=hh
               obtain⟨e1,e2,e3⟩:=hcond
               have hbytes:∀(l:List Int) (xs:List V),(∀n∈l,0≤n∧n<256)→All2 (ERe (E.X ss st).np (.int .u8)) l xs→xs=(l.map fun n=>UInt8.ofNat n.toNat).map fun b=>V.int .u8 (b.toNat:Int):=by
                intro l
                induction l with
                | nil=>intro xs _ h;rw[h.nil_left];rfl
                | cons n l ih =>
                 intro xs hn h
                 cases xs with
                 | nil=>simp[All2] at h
                 | cons v xs =>
                  obtain rfl:=ERe_int h.1
                  have hn0:=hn n (by simp)
                  simp only[List.map_cons,List.cons.injEq,V.int.injEq,true_and]
                  refine⟨?_,ih xs (fun m hm=>hn m (by simp[hm])) h.2⟩
                  simp only[UInt8.toNat_ofNat']
                  omega
               have hxs:=hbytes l xs g2 hl
               have hrun:=hG.bstr g t8 hg (E.mu i) o T vs (l.map fun n=>UInt8.ofNat n.toNat) t0 q st b1 (by rw[c1,hxs]) ?_ (by simpa using g1)
               · exact⟨E,.str (List.map (fun n:Int=>UInt8.ofNat n.toNat) l),ss,_,st,hrun,rfl,hX,Tr.refl,h⟩
               · rcases h4 with ⟨rfl | ⟨_,_,hnb⟩,rfl,_⟩ | ⟨F,ep,rfl,rfl,hF,hd⟩
                 · exact .inl ⟨rfl,rfl⟩
                 · simp[nbT] at hnb
                 · obtain⟨gg,d1,rfl,d3⟩:=hd e1.symm
                   obtain⟨g',j1,j2,j3,j4,j5,j6,j7⟩:=hX.I.rows f _ F hr1 hF
                   rw[d1] at j1;cases j1
                   have htip:=d3 rfl
                   have hwr:gg.wr=false:=j6.trans e2
                   have hpos:=j7 hwr
                   refine .inr ⟨F,gg.ep,rfl,rfl,?_,j2,?_⟩
                   · rw[show st.fams[F]? = some gg from d1]
                     obtain⟨a,b,c,d,e⟩:=gg
                     simp only at htip hwr j3 j4 ⊢
                     subst hwr
                     simp only[List.length_map,Option.some.injEq,Fam.mk.injEq,true_and]
                     refine⟨by omega,?_,by rw[j4,e3],trivial⟩
                     rw[j3,hT];rfl
                   · intro hnil
                     rw[List.map_eq_nil_iff] at hnil
                     subst hnil
                     simp at htip
                     omega
             · simp at h
           · simp at h
         · simp at h
       · simp at h
     · simp at h
    · simp at h
theorem res_ok {X:XC} (I:XI X) {N:Nat→Prop} {h f:Nat}:∀{rs:List Ty} {y:HL rs} {z:SV} {v:V},resHL rs z=some y→Rel X z v→(∀g∈z.toks,Ret X g)→(∀F,X.np F→F<f→N F) →
 v.under h=true∧RV N rs y (v.freeze f)
 | [T],y,z,v,hd,hz,ht,hn=>by
  have:=decV_rel I (show decV T z=some y from hd) hz ht
  exact⟨ERe.holds holds_under this,this.freeze fun cs q=>ERc.freeze hn T q⟩
 | [],y,z,v,hd,hz,ht,hn=>by
  cases z with
  | tup zs =>
   cases zs with
   | nil =>
    obtain⟨vs,rfl,e⟩:=hz
    simp only[RelL] at e;subst e
    exact⟨by simp[V.under,V.unders],by simp[RV,V.freeze,V.freezes]⟩
   | cons a zs=>simp[resHL] at hd
  | _=>simp[resHL] at hd
 | T::U::r,y,z,v,hd,hz,ht,hn=>by
  cases z with
  | tup zs =>
   obtain⟨vs,rfl,e⟩:=hz
   have:=decL_rel I (show decL (T::U::r) zs=some y from hd) e (by simpa[SV.toks] using ht)
   exact⟨by simpa[V.under,unders_all] using this.under,⟨_,by simp[V.freeze,freezes_map'],this.freeze hn⟩⟩
  | _=>simp[resHL] at hd
theorem told_of (hG:GOk G P C) {n g:Nat} {ps rs:List Ty} {F:HL ps→Option (HL rs)} (hx:C.ext g=none) (hk:C.keep g=false) (hF:∀x,fnK G P n g ps rs x=F x):Told C P g ps rs F:=by
 intro N x y A st hy hA hN
 rw[←hF] at hy
 unfold fnK at hy
 split at hy
 · rename_i fn hf
   split at hy
   · rename_i c hb
     split at hy
     · rename_i hlen
       let E:GE:=⟨fun _=>0,fun _=>none,N,none⟩
       have hX:XR E ⟨[],[],[],none⟩ st.enter:=by
        refine⟨⟨by simp,by simp,by simp,by simp,fun F h=>hN F h,Nat.le_refl _⟩,by simp,by simp,Nat.le_refl _,?_,fun _=>rfl⟩
        intro F h
        simp[St.enter] at h
       have hA1:EL (E.X ⟨[],[],[],none⟩ st.enter).np ps x A:=hA.mono fun F h=>.inl h
       have hl:=hA.len
       obtain⟨e,S1,st1,hrun,E1,s1,ss1,g1,g2,g3,g4⟩:=(run_sound hG n).1 [] 0 c _ ⟨[],[],[],none⟩ _ y hy E (A++List.replicate (fn.ntmps-A.length) (.tup [])) st.enter
        ((hA1.svL).app (by rw[hl];exact RelL.rep (X:=E.X ⟨[],[],[],none⟩ st.enter) (x:=.tup []) (v:=.tup []) ⟨[],rfl,rfl⟩ _)) hX (YX.none rfl)
       have hflo:st1.flo=st.fams.length:=g3.flo
       have fin:∀(z:SV) (v:V),sres P ss1 s1 fn.results=some z→resB P st1 S1 fn.results=some v→Rel (E1.X ss1 st1) z v →
        resHL rs z=some y→v.under st.heap.length=true∧RV N rs y (v.freeze st.fams.length):=by
        intro z v _ _ hz hd
        have hX2:=g2.retire z.toks
        have tr2:Tr E1 ss1 st1 E1 (ss1.retire z.toks) st1:=Tr.retire _
        have hz2:=hz.stay0 tr2.stay0
        have hnp:∀F,(E1.X (ss1.retire z.toks) st1).np F→F<st.fams.length→N F:=by
         rintro F (h | ⟨h,_⟩) hlt
         · have:E1.N=N:=g3.N
           rw[←this];exact h
         · have h':st1.flo≤F:=h
           omega
        exact res_ok hX2.I hd hz2 (ret_of _) hnp
       cases e with
       | exit i=>simp at g4
       | normal =>
        simp only at g4
        split at g4
        · rename_i z hz
          obtain⟨v,e1,e2⟩:=sres_rel g2 g1 hz
          obtain⟨f1,f2⟩:=fin z v hz e1 e2 g4
          exact⟨_,Runs.call_pure hx hf hb (by rw[hl];exact hlen) hk hrun (.inl rfl) e1 f1 rfl,f2⟩
        · simp at g4
       | ret =>
        simp only at g4
        split at g4
        · rename_i z hz
          obtain⟨v,e1,e2⟩:=sres_rel g2 g1 hz
          obtain⟨f1,f2⟩:=fin z v hz e1 e2 g4
          exact⟨_,Runs.call_pure hx hf hb (by rw[hl];exact hlen) hk hrun (.inr rfl) e1 f1 rfl,f2⟩
        · simp at g4
     · simp at hy
   · simp at hy
 · simp at hy
end
end Go.Abs

namespace Go.Abs
open Go
section
variable {σ τ ρ:Type} {step:σ→Option (σ ⊕ τ)}
theorem iterS_mono:∀{n m:Nat} {x:σ} {r:τ},n≤m→iterS step n x=some r→iterS step m x=some r
 | 0,_,_,_,_,h=>by simp[iterS] at h
 | n+1,0,_,_,hm,_=>by omega
 | n+1,m+1,x,r,hm,h=>by
  unfold iterS at h ⊢
  cases hs:step x with
  | none=>rw[hs] at h;simp at h
  | some t =>
   rw[hs] at h
   cases t with
   | inl y=>exact iterS_mono (n:=n) (m:=m) (by omega) h
   | inr y=>exact h
theorem loopS_of {n:Nat} {x:σ} {r:τ} (h:iterS step n x=some r):loopS step x=some r:=by
 have hx:∃r,∃n,iterS step n x=some r:=⟨r,n,h⟩
 unfold loopS
 split
 · rename_i z hz
   have h1:=iterS_mono (Nat.le_max_left n 1000000000000) h
   have h2:=iterS_mono (Nat.le_max_right n 1000000000000) hz
   rw[h1] at h2
   exact h2.symm
 rw[dif_pos hx]
 obtain⟨m,hm⟩:=Classical.choose_spec hx
 have h1:=iterS_mono (Nat.le_max_left n m) h
 have h2:=iterS_mono (Nat.le_max_right n m) hm
 rw[h1] at h2
 exact h2.symm
theorem loopS_next {x y:σ} (h:step x=some (.inl y)):loopS step x=loopS step y:=by
 cases hy:loopS step y with
 | some r =>
  obtain⟨n,hn⟩:=loopS_iter hy
  exact loopS_of (n:=n+1) (by simp[iterS,h,hn])
 | none =>
  cases hx:loopS step x with
  | none=>rfl
  | some r =>
   obtain⟨n,hn⟩:=loopS_iter hx
   cases n with
   | zero=>simp[iterS] at hn
   | succ n =>
    simp only[iterS,h] at hn
    rw[loopS_of hn] at hy
    simp at hy
theorem loopS_out {x:σ} {y:τ} (h:step x=some (.inr y)):loopS step x=some y:=loopS_of (n:=1) (by simp[iterS,h])
theorem grdEq_self {α:Type} [DecidableEq α] {x:α} {K:Option ρ}:grdEq x x K=K:=by simp[grdEq]
theorem natOf_pos {x:Int} {k:Nat→Option ρ} (h:0≤x):natOf x k=k x.toNat:=by simp[natOf,h]
theorem wrap_id {x:Int} (h1:-9223372036854775808≤x) (h2:x≤9223372036854775807):IntKind.i64.wrap x=x:=wrap64 h1 h2
end
end Go.Abs

namespace Go.Abs
open Go Go.RowKit Go.WideShapes Go.ChangeShapes Go.ChangeAt
def st0:St:=⟨[],[],0,0,[],0,none⟩
def N0:Nat→Prop:=fun _=>False
def E0:Env:=⟨fun _=>none,fun _=>0,fun _=>0,fun _=>none⟩
def wfd:(T:Ty)→T.den→Prop
 | .unit,_=>True
 | .int k,n=>k.min≤n∧n≤k.max
 | .bool,_=>True
 | .str,s=>s.length≤maxLen
 | .list t,l=>l.length≤maxLen∧∀x∈l,wfd t x
 | .cons a b,x=>wfd a x.1∧wfd b x.2
 | .agg a,x=>wfd a x
def wfL:(Ts:List Ty)→HL Ts→Prop
 | [],_=>True
 | [T],x=>wfd T x
 | T::U::r,x=>wfd T x.1∧wfL (U::r) x.2
def layF (P:Program) (ok:TypeId→Bool):List Field→Nat→Bool
 | [],_=>true
 | f::fs,o=>f.offset==o&&ok f.type&&layF P ok fs (o+P.cellsOf f.type)
def sumF (P:Program):List Field→Nat
 | []=>0
 | f::fs=>P.cellsOf f.type+sumF P fs
def lay (P:Program):Nat→TypeId→Bool
 | 0,_=>false
 | d+1,t=>match P.underlying t with
  | some (.slice e)=>lay P d e&&decide (0<P.cellsOf e)&&((tyOf P d e).map Ty.size==some (P.cellsOf e))
  | some (.struct fs)=>layF P (lay P d) fs.toList 0&&(P.cellsOf t==sumF P fs.toList)
  | some (.array n e)=>lay P d e&&decide (0<n)&&(P.cellsOf t==n*P.cellsOf e)
  | _=>true
def CR (W:World) (c:Value) (v:V):Prop:=VR E0 st0 W c v∧c.oneCell'=true
theorem app_mk {N:Nat→Prop}:∀(a b:Ty) (x:a.den) (y:b.den) (vs ws:List V),ERc N a x vs→ERc N b y ws→wfd a x→wfd b y →
 ∃z:(a.app b).den,ERc N (a.app b) z (vs++ws)∧wfd (a.app b) z∧(a.app b).size=a.size+b.size
 | .cons a1 a2,b,x,y,vs,ws,h1,h2,w1,w2=>by
  obtain⟨v1,v2,rfl,h3,h4⟩:=h1
  obtain⟨z,z1,z2,z3⟩:=app_mk a2 b x.2 y v2 ws h4 h2 w1.2 w2
  refine⟨(x.1,z),⟨v1,v2++ws,by simp,h3,z1⟩,⟨w1.1,z2⟩,?_⟩
  show a1.size+(a2.app b).size=a1.size+a2.size+b.size
  omega
 | .unit,b,x,y,vs,ws,h1,h2,w1,w2=>⟨(x,y),⟨vs,ws,rfl,h1,h2⟩,⟨w1,w2⟩,rfl⟩
 | .int k,b,x,y,vs,ws,h1,h2,w1,w2=>⟨(x,y),⟨vs,ws,rfl,h1,h2⟩,⟨w1,w2⟩,rfl⟩
 | .bool,b,x,y,vs,ws,h1,h2,w1,w2=>⟨(x,y),⟨vs,ws,rfl,h1,h2⟩,⟨w1,w2⟩,rfl⟩
 | .str,b,x,y,vs,ws,h1,h2,w1,w2=>⟨(x,y),⟨vs,ws,rfl,h1,h2⟩,⟨w1,w2⟩,rfl⟩
 | .list t,b,x,y,vs,ws,h1,h2,w1,w2=>⟨(x,y),⟨vs,ws,rfl,h1,h2⟩,⟨w1,w2⟩,rfl⟩
 | .agg a,b,x,y,vs,ws,h1,h2,w1,w2=>⟨(x,y),⟨vs,ws,rfl,h1,h2⟩,⟨w1,w2⟩,rfl⟩
theorem row_mk {N:Nat→Prop}:∀(a:Ty) (x:a.den) (vs:List V),ERc N a x vs→wfd a x→∃z:a.row.den,ERc N a.row z vs∧wfd a.row z∧a.row.size=a.size
 | .cons a1 a2,x,vs,h,w=>⟨x,h,w,rfl⟩
 | .unit,x,vs,h,w=>⟨x,h,w,rfl⟩
 | .int k,x,vs,h,w=>⟨x,h,w,rfl⟩
 | .bool,x,vs,h,w=>⟨x,h,w,rfl⟩
 | .str,x,vs,h,w=>⟨x,h,w,rfl⟩
 | .list t,x,vs,h,w=>⟨x,h,w,rfl⟩
 | .agg a,x,vs,h,w=>⟨x,h,w,rfl⟩
def Ty.leaf:Ty→Bool
 | .int _ | .bool | .str | .list _=>true
 | _=>false
theorem elem_mk {N:Nat→Prop}:∀(T:Ty),T.isAgg=true∨T.leaf=true→∀(x:T.den) (vs:List V),ERc N T x vs→∃v,ERe N T x v∧v.cells=vs∧(T.isAgg=true→v=.agg vs)∧(T.isAgg=false→vs=[v])
 | .unit,h,_,_,_=>by simp[Ty.isAgg,Ty.leaf] at h
 | .cons _ _,h,_,_,_=>by simp[Ty.isAgg,Ty.leaf] at h
 | .int k,_,x,vs,h=>⟨.int k x,⟨[.int k x],rfl,by simp[Ty.isAgg]⟩,by rw[show vs=[V.int k x] from h];rfl,by simp[Ty.isAgg],fun _=>h⟩
 | .bool,_,x,vs,h=>⟨.bool x,⟨[.bool x],rfl,by simp[Ty.isAgg]⟩,by rw[show vs=[V.bool x] from h];rfl,by simp[Ty.isAgg],fun _=>h⟩
 | .str,_,x,vs,h=>⟨.str x,⟨[.str x],rfl,by simp[Ty.isAgg]⟩,by rw[show vs=[V.str x] from h];rfl,by simp[Ty.isAgg],fun _=>h⟩
 | .list t,_,x,vs,h=>by
  obtain⟨tk,off,q,xs,rfl,h2⟩:=h
  exact⟨.list tk off q xs,⟨_,⟨tk,off,q,xs,rfl,h2⟩,by simp[Ty.isAgg]⟩,rfl,by simp[Ty.isAgg],fun _=>rfl⟩
 | .agg a,_,x,vs,h=>⟨.agg vs,⟨vs,h,by simp[Ty.isAgg]⟩,rfl,fun _=>rfl,by simp[Ty.isAgg]⟩
theorem rows_mk {α β:Type} (p:Nat→α→β→Prop):∀n:Nat,(∀i:Nat,i<n→∃(x:α) (v:β),p i x v)→∃(l:List α) (m:List β),l.length=n∧m.length=n∧∀i:Nat,i<n→∃(x:α) (v:β),l[i]? = some x∧m[i]? = some v∧p i x v
 | 0,_=>⟨[],[],rfl,rfl,fun i hi=>by omega⟩
 | n+1,h=>by
  obtain⟨l,m,h1,h2,h3⟩:=rows_mk p n (fun i hi=>h i (by omega))
  obtain⟨x,v,hx⟩:=h n (by omega)
  refine⟨l++[x],m++[v],by simp[h1],by simp[h2],fun i hi=>?_⟩
  by_cases hin:i<n
  · obtain⟨x',v',a,b,c⟩:=h3 i hin
    exact⟨x',v',by rw[List.getElem?_append_left (by omega)];exact a,by rw[List.getElem?_append_left (by omega)];exact b,c⟩
  · have:i=n:=by omega
    subst this
    exact⟨x,v,by rw[←h1];simp,by rw[←h2];simp,hx⟩
theorem All2.of_get {α β:Type} {R:α→β→Prop}:∀{l:List α} {m:List β},l.length=m.length→(∀(i:Nat) (x:α) (v:β),l[i]? = some x→m[i]? = some v→R x v)→All2 R l m
 | [],[],_,_=>trivial
 | [],_::_,h,_=>by simp at h
 | _::_,[],h,_=>by simp at h
 | a::l,b::m,h,k=>⟨k 0 a b rfl rfl,All2.of_get (by simpa using h) (fun i x v h1 h2=>k (i+1) x v (by simpa using h1) (by simpa using h2))⟩
theorem cell_add {w:World} {a:Addr} {m k:Nat} {v:Value} (h:w.cell? ((a.add m).add k)=some v):w.cell? (adr a.block (a.off+m+k))=some v∧(m=0→k=0→a.spot=none):=by
 obtain⟨b,o,s⟩:=a
 by_cases hm:m=0
 · subst hm
   by_cases hk:k=0
   · subst hk
     simp only[Addr.add,if_true] at h
     have hs:s=none:=by
      cases s with
      | none=>rfl
      | some s=>simp only[World.cell?] at h;split at h<;>simp at h
     subst hs
     exact⟨h,fun _ _=>rfl⟩
   · simp only[Addr.add,if_true,hk,if_false] at h
     exact⟨by simpa using h,fun _ h=>absurd h hk⟩
 · by_cases hk:k=0
   · subst hk
     simp only[Addr.add,if_true,hm,if_false] at h
     exact⟨by simpa using h,fun h=>absurd h hm⟩
   · simp only[Addr.add,hk,hm,if_false] at h
     exact⟨by simpa using h,fun h=>absurd h hm⟩
theorem tyOf_form {P:Program}:∀{d:Nat} {t:TypeId} {T:Ty},tyOf P d t=some T→T.isAgg=true∨T.leaf=true
 | 0,_,_,h=>by simp[tyOf] at h
 | d+1,t,T,h=>by
  unfold tyOf at h
  split at h
  · simp only[Option.some.injEq] at h;subst h;exact .inr rfl
  · simp only[Option.some.injEq] at h;subst h;exact .inr rfl
  · simp only[Option.some.injEq] at h;subst h;exact .inr rfl
  · obtain⟨a,_,rfl⟩:=Option.map_eq_some_iff.1 h;exact .inr rfl
  · obtain⟨a,_,rfl⟩:=Option.map_eq_some_iff.1 h;exact .inl rfl
  · obtain⟨a,_,rfl⟩:=Option.map_eq_some_iff.1 h;exact .inl rfl
  · simp at h
section
variable {H:Type} {enc:TypeId×Value→H} {P:Program} {W:World}
abbrev rd (enc:TypeId×Value→H) (P:Program) (W:World) (n:Nat) (t:TypeId) (cs:List Value):=DataW.trod enc P W 0 (fun _=>true) true n t cs
theorem open_fields {n:Nat} {Q:TypeId→Option Ty} {ok:TypeId→Bool}
 (hQ:∀t T,Q t=some T→ok t=true→∀cs y,rd enc P W n t cs=some y→∃(x:T.den) (vs:List V),ERc N0 T x vs∧wfd T x∧All2 (CR W) cs vs∧cs.length=T.size) :
 ∀(fs:List Field) (o:Nat) (R:Ty) (cs:List Value),rowOf (fs.map fun f=>Q f.type)=some R→layF P ok fs o=true→cs.length=o+sumF P fs →
  (∀f∈fs,∃y,rd enc P W n f.type ((cs.drop f.offset).take (P.cellsOf f.type))=some y) →
  ∃(x:R.den) (vs:List V),ERc N0 R x vs∧wfd R x∧All2 (CR W) (cs.drop o) vs∧(cs.drop o).length=R.size
 | [],_,_,_,h,_,_,_=>by simp[rowOf] at h
 | [f],o,R,cs,h,hl,hc,hf=>by
  simp only[List.map_cons,List.map_nil,rowOf] at h
  obtain⟨T,hT,rfl⟩:=Option.map_eq_some_iff.1 h
  simp only[layF,Bool.and_eq_true,beq_iff_eq] at hl
  obtain⟨y,hy⟩:=hf f (by simp)
  have hd:(cs.drop f.offset).take (P.cellsOf f.type)=cs.drop o:=by
   rw[hl.1.1]
   apply List.take_of_length_le
   simp only[List.length_drop,sumF] at hc ⊢
   omega
  rw[hd] at hy
  obtain⟨x,vs,h1,h2,h3,h4⟩:=hQ _ _ hT hl.1.2 _ _ hy
  obtain⟨z,z1,z2,z3⟩:=row_mk T x vs h1 h2
  exact⟨z,vs,z1,z2,h3,by rw[h4,z3]⟩
 | f::g::r,o,R,cs,h,hl,hc,hf=>by
  rw[List.map_cons] at h
  have hh:rowOf (Q f.type::(g::r).map (fun f=>Q f.type))=(match Q f.type,rowOf ((g::r).map fun f=>Q f.type) with | some a,some b=>some (a.row.app b) | _,_=>none):=rfl
  rw[hh] at h
  cases hT:Q f.type with
  | none=>rw[hT] at h;simp at h
  | some T =>
   cases hB:rowOf ((g::r).map fun f=>Q f.type) with
   | none=>rw[hT,hB] at h;simp at h
   | some B =>
    rw[hT,hB] at h
    simp only[Option.some.injEq] at h
    subst h
    rw[layF] at hl
    simp only[Bool.and_eq_true,beq_iff_eq] at hl
    rw[sumF] at hc
    obtain⟨x2,ws,k1,k2,k3,k4⟩:=open_fields hQ (g::r) (o+P.cellsOf f.type) B cs hB hl.2 (by omega) (fun f' h'=>hf f' (by simp only[List.mem_cons] at h' ⊢;exact .inr h'))
    obtain⟨y,hy⟩:=hf f (by simp)
    rw[hl.1.1] at hy
    obtain⟨x,vs,h1,h2,h3,h4⟩:=hQ _ _ hT hl.1.2 _ _ hy
    obtain⟨z,z1,z2,z3⟩:=row_mk T x vs h1 h2
    obtain⟨u,u1,u2,u3⟩:=app_mk T.row B z x2 vs ws z1 k1 z2 k2
    have hsplit:cs.drop o=(cs.drop o).take (P.cellsOf f.type)++cs.drop (o+P.cellsOf f.type):=by
     rw[←List.drop_drop,List.take_append_drop]
    refine⟨u,vs++ws,u1,u2,?_,?_⟩
    · rw[hsplit];exact h3.app k3
    · rw[hsplit,List.length_append,h4,k4,u3,z3]
def arrF (P:Program) (e:TypeId):Nat→Nat→List Field
 | 0,_=>[]
 | n+1,o=>⟨"", e,o,false, "", "", 0⟩::arrF P e n (o+P.cellsOf e)
theorem arrF_ty {P:Program} {e:TypeId} (Q:TypeId→Option Ty):∀(n o:Nat),(arrF P e n o).map (fun f=>Q f.type)=List.replicate n (Q e)
 | 0,_=>rfl
 | n+1,o=>by rw[arrF,List.map_cons,arrF_ty Q n,List.replicate_succ]
theorem arrF_lay {P:Program} {e:TypeId} {ok:TypeId→Bool} (h:ok e=true):∀(n o:Nat),layF P ok (arrF P e n o) o=true
 | 0,_=>rfl
 | n+1,o=>by
  rw[arrF,layF,h,arrF_lay h n]
  simp
theorem arrF_sum {P:Program} {e:TypeId}:∀(n o:Nat),sumF P (arrF P e n o)=n*P.cellsOf e
 | 0,_=>by simp[arrF,sumF]
 | n+1,o=>by rw[arrF,sumF,arrF_sum n,Nat.succ_mul,Nat.add_comm]
theorem arrF_mem {P:Program} {e:TypeId}:∀{n o:Nat} {f:Field},f∈arrF P e n o→∃i,i<n∧f.offset=o+i*P.cellsOf e∧f.type=e
 | 0,_,f,h=>by simp[arrF] at h
 | n+1,o,f,h=>by
  rw[arrF] at h
  rcases List.mem_cons.1 h with rfl | h
  · exact⟨0,by omega,by simp,rfl⟩
  · obtain⟨i,h1,h2,h3⟩:=arrF_mem h
    exact⟨i+1,by omega,by rw[h2,Nat.succ_mul];omega,h3⟩
theorem open_cells:∀(d:Nat) (t:TypeId) (T:Ty),tyOf P d t=some T→lay P d t=true→∀(n:Nat) (cs:List Value) (y:DataW H×List MemPlace),rd enc P W n t cs=some y →
 ∃(x:T.den) (vs:List V),ERc N0 T x vs∧wfd T x∧All2 (CR W) cs vs∧cs.length=T.size
 | 0,_,_,h,_,_,_,_,_=>by simp[tyOf] at h
 | d+1,t,T,h,hl,n,cs,y,hy=>by
  unfold tyOf at h
  split at h
  · rename_i k hu
    simp only[Option.some.injEq] at h;subst h
    obtain⟨m,rfl,_,hw⟩:=DataW.trod_int hu hy
    simp only[Lit.wf,Bool.and_eq_true,decide_eq_true_eq] at hw
    exact⟨m,[.int k m],rfl,hw,⟨⟨.int k m,rfl⟩,trivial⟩,rfl⟩
  · rename_i hu
    simp only[Option.some.injEq] at h;subst h
    obtain⟨b,rfl,_⟩:=DataW.trod_bool hu hy
    exact⟨b,[.bool b],rfl,trivial,⟨⟨.bool b,rfl⟩,trivial⟩,rfl⟩
  · rename_i hu
    simp only[Option.some.injEq] at h;subst h
    obtain⟨s,rfl,_,hw⟩:=DataW.trod_string hu hy
    exact⟨s.data.toList,[.str s.data.toList],rfl,by simpa[wfd] using hw,⟨⟨.str s,rfl⟩,trivial⟩,rfl⟩
  · rename_i e hu
    obtain⟨Te,hTe,rfl⟩:=Option.map_eq_some_iff.1 h
    unfold lay at hl
    rw[hu] at hl
    simp only[Bool.and_eq_true,decide_eq_true_eq,hTe,Option.map_some,beq_iff_eq,Option.some.injEq] at hl
    have hszz:=hl.2
    replace hl:=hl.1
    have hform:=tyOf_form hTe
    rcases Go.Deep.open_slice hu hy with ⟨rfl,_⟩ | ⟨a,len,cap,m,n',D,Pl,rfl,_,hlc,hm,hmc,_,hel⟩
    · exact⟨[],[.list .nil 0 0 []],⟨.nil,0,0,[],rfl,.inl ⟨rfl,rfl⟩,fun _ _ h=>by simp at h,trivial⟩,⟨by simp,fun x hx=>by simp at hx⟩,⟨⟨.nil 0 0,rfl⟩,trivial⟩,rfl⟩
    · replace hmc:m=cap:=by simpa using hmc
      subst hmc
      have each:∀i,i<len→∃(x:Te.den) (v:V),ERe N0 Te x v∧wfd Te x∧v.cells.length=Te.size∧P.cellsOf e=Te.size∧(∀k,k<Te.size→∃c,W.cell? ((a.add (i*P.cellsOf e)).add k)=some c∧CR W c (v.cells.getD k .dead)):=by
       intro i hi
       obtain⟨cs',hc1,hc2⟩:=hel i (by omega)
       obtain⟨x,vs,h1,h2,h3,h4⟩:=open_cells d e Te hTe hl.1 n' cs' _ hc2
       obtain⟨v,hv1,hv2,_⟩:=elem_mk Te hform x vs h1
       obtain⟨_,hlen,hcell⟩:=World.cells?_some hc1
       have hvl:vs.length=Te.size:=by rw[←h3.len,h4]
       refine⟨x,v,hv1,h2,by rw[hv2,hvl],by omega,fun k hk=>?_⟩
       have hk':k<cs'.length:=by omega
       obtain⟨w,hw1,hw2⟩:=h3.get (i:=k) (a:=cs'[k]) (by simp[hk'])
       refine⟨cs'[k],by rw[hcell k (by omega)];simp[hk'],?_⟩
       rw[hv2,List.getD_eq_getElem?_getD,hw1]
       exact hw2
      obtain⟨l,xs,hl1,hl2,hl3⟩:=rows_mk _ len each
      have hdiv:∀{j:Nat},j<len*P.cellsOf e→j / P.cellsOf e<len∧j % P.cellsOf e<P.cellsOf e∧j=j / P.cellsOf e*P.cellsOf e+j % P.cellsOf e:=by
       intro j hj
       refine⟨Nat.div_lt_of_lt_mul (by rw[Nat.mul_comm];exact hj),Nat.mod_lt _ hl.2,?_⟩
       rw[Nat.mul_comm];exact (Nat.div_add_mod j _).symm
      have hcellj:∀j,j<len*P.cellsOf e→∃c x v,l[j / P.cellsOf e]? = some x∧xs[j / P.cellsOf e]? = some v∧W.cell? (adr a.block (a.off+j))=some c∧CR W c (v.cells.getD (j % P.cellsOf e) .dead):=by
       intro j hj
       obtain⟨d1,d2,d3⟩:=hdiv hj
       obtain⟨x,v,g1,g2,g3,g4,g5,g6,g7⟩:=hl3 _ d1
       obtain⟨c,hc,hcr⟩:=g7 (j % P.cellsOf e) (by omega)
       have:=(cell_add hc).1
       exact⟨c,x,v,g1,g2,by rw[d3];rw[←Nat.add_assoc];exact this,hcr⟩
      refine⟨l,[.list .ro 0 (P.cellsOf e) xs],?_,⟨by omega,?_⟩,⟨⟨?_,rfl⟩,trivial⟩,rfl⟩
      · exact⟨.ro,0,P.cellsOf e,xs,rfl,.inr ⟨by simp,hszz.symm⟩,fun _ _ h=>by simp at h,All2.of_get (by omega) fun i x v q1 q2=>by
         have hi:i<len:=by have:=(List.getElem?_eq_some_iff.1 q1).1;omega
         obtain⟨x',v',g1,g2,g3,_⟩:=hl3 i hi
         rw[q1] at g1;rw[q2] at g2
         simp only[Option.some.injEq] at g1 g2
         subst g1 g2
         exact g3⟩
      · intro x hx
        obtain⟨i,hi⟩:=List.getElem?_of_mem hx
        have hi':i<len:=by have:=(List.getElem?_eq_some_iff.1 hi).1;omega
        obtain⟨x',v',g1,g2,g3,g4,_⟩:=hl3 i hi'
        rw[hi] at g1
        simp only[Option.some.injEq] at g1
        subst g1
        exact g4
      · have hv:=VR.list (E:=E0) (st:=st0) (w:=W) .ro 0 (P.cellsOf e) xs a m (fun j=>(W.cell? (adr a.block (a.off+j))).getD undef) (by simp) (by omega) ?_ (fun _=>hl.2) ?_ ?_ ?_ trivial ?_ ?_
        · rw[hl2] at hv;exact hv
        · intro h0
          obtain⟨x,v,g1,g2,g3,g4,g5,g6,g7⟩:=hl3 0 (by omega)
          obtain⟨c,hc,_⟩:=g7 0 (by omega)
          rw[Nat.zero_mul] at hc
          exact (cell_add hc).2 rfl rfl
        · intro j hj
          obtain⟨x,v,g1,g2,g3,g4,g5,g6,g7⟩:=hl3 j (by omega)
          rw[List.getD_eq_getElem?_getD,g2,Option.getD_some,g5,g6]
        · intro j hj
          obtain⟨c,x,v,_,_,hc,_⟩:=hcellj j (by rw[←hl2];exact hj)
          rw[hc];rfl
        · intro _
          exact⟨fun i hi=>by simp[st0] at hi,fun F f hF=>by simp[st0] at hF⟩
        · intro j hj
          obtain⟨c,x,v,_,_,hc,hcr⟩:=hcellj j (by rw[←hl2];exact hj)
          rw[hc];exact hcr.2
        · intro j k hj hk
          have hjk:j*P.cellsOf e+k<len*P.cellsOf e:=by
           have:(j+1)*P.cellsOf e≤len*P.cellsOf e:=Nat.mul_le_mul_right _ (by omega)
           rw[Nat.succ_mul] at this
           omega
          obtain⟨c,x,v,_,hxs,hc,hcr⟩:=hcellj _ hjk
          have e1:(j*P.cellsOf e+k) / P.cellsOf e=j:=by
           rw[Nat.mul_comm,Nat.mul_add_div hl.2,Nat.div_eq_of_lt hk];omega
          have e2:(j*P.cellsOf e+k) % P.cellsOf e=k:=by
           rw[Nat.mul_comm,Nat.mul_add_mod,Nat.mod_eq_of_lt hk]
          rw[e1] at hxs
          rw[e2] at hcr
          have hxd:xs.getD j .dead=v:=by rw[List.getD_eq_getElem?_getD,hxs];rfl
          rw[hc,hxd]
          exact hcr.1
  · rename_i fs hu
    obtain⟨R,hR,rfl⟩:=Option.map_eq_some_iff.1 h
    unfold lay at hl
    rw[hu] at hl
    simp only[Bool.and_eq_true,beq_iff_eq] at hl
    obtain⟨xs,n',rfl,rfl,hlen,hxl,hf⟩:=DataW.trod_struct hu hy
    obtain⟨x,vs,h1,h2,h3,h4⟩:=open_fields (enc:=enc) (W:=W) (n:=n') (Q:=fun t=>tyOf P d t) (ok:=lay P d) (fun t T q1 q2 cs y q3=>open_cells d t T q1 q2 n' cs y q3) fs.toList 0 R cs hR hl.1 (by rw[hlen,hl.2];omega) (fun f hf'=>by
     obtain⟨i,hi⟩:=List.getElem?_of_mem hf'
     have hi2:fs[i]? = some f:=by simpa using hi
     have:=hf i f hi2
     have hil:i<xs.length:=by rw[hxl];have:=(Array.getElem?_eq_some_iff.1 hi2).1;exact this
     rw[List.getElem?_eq_getElem hil] at this
     exact⟨_,this⟩)
    rw[List.drop_zero] at h3 h4
    exact⟨x,vs,h1,h2,h3,h4⟩
  · rename_i m e hu
    obtain⟨R,hR,rfl⟩:=Option.map_eq_some_iff.1 h
    unfold lay at hl
    rw[hu] at hl
    simp only[Bool.and_eq_true,decide_eq_true_eq,beq_iff_eq] at hl
    obtain⟨xs,n',rfl,rfl,hlen,hxl,hf⟩:=DataW.trod_array hu hy
    obtain⟨x,vs,h1,h2,h3,h4⟩:=open_fields (enc:=enc) (W:=W) (n:=n') (Q:=fun t=>tyOf P d t) (ok:=lay P d) (fun t T q1 q2 cs y q3=>open_cells d t T q1 q2 n' cs y q3) (arrF P e m 0) 0 R cs (by rw[arrF_ty (fun t=>tyOf P d t)];exact hR) (arrF_lay hl.1.1 m 0) (by rw[arrF_sum,hlen,hl.2];omega) (fun f hf'=>by
     obtain⟨i,hi,h1,h2⟩:=arrF_mem hf'
     have:=hf i hi
     rw[List.getElem?_eq_getElem (by omega)] at this
     rw[h1,h2,Nat.zero_add]
     exact⟨_,this⟩)
    rw[List.drop_zero] at h3 h4
    exact⟨x,vs,h1,h2,h3,h4⟩
  · simp at h
end
end Go.Abs

namespace Go.Abs
open Go Go.RowKit Go.WideShapes Go.ChangeShapes Go.ChangeAt
def tysOf (P:Program) (d:Nat):List TypeId→Option (List Ty)
 | []=>some []
 | t::ts=>match tyOf P d t,tysOf P d ts with
  | some T,some Ts=>some (T::Ts)
  | _,_=>none
section
variable {H:Type} {enc:TypeId×Value→H} {P:Program} {W:World}
theorem open_arg {d:Nat} {t:TypeId} {T:Ty} (hT:tyOf P d t=some T) (hl:lay P d t=true) {r:Go.Reach} {b0:Nat} {v:Value} {y:DataW H} {ps:List MemPlace} (hv:Value.okWide P W r b0 t v)
 (hd:DataW.Trod enc P W 0 (fun _=>true) true t v y ps):∃(x:T.den) (u:V),ERe N0 T x u∧wfd T x∧VR E0 st0 W v u:=by
 obtain⟨fuel,hf⟩:=hd
 obtain⟨x,vs,h1,h2,h3,h4⟩:=open_cells d t T hT hl fuel v.cells.toList _ hf
 obtain⟨u,hu1,hu2,hu3,hu4⟩:=elem_mk T (tyOf_form hT) x vs h1
 refine⟨x,u,hu1,h2,?_⟩
 cases hA:T.isAgg with
 | false =>
  have hvs:=hu4 hA
  subst hvs
  have hone:∃c,v.cells.toList=[c]∧CR W c u:=by
   have hlen:=h3.len
   match hc:v.cells.toList,hlen,h3 with
   | [c],_,h3 =>
    exact⟨c,rfl,h3.1⟩
  obtain⟨c,hc,hcr⟩:=hone
  have hvc:v=c:=by
   cases d with
   | zero=>simp[tyOf] at hT
   | succ d =>
    unfold tyOf at hT
    split at hT
    · rename_i k hk
      obtain⟨n,rfl⟩:=okWide_int hk hv
      simpa[Value.cells] using hc
    · rename_i hk
      obtain⟨n,rfl⟩:=okWide_bool hk hv
      simpa[Value.cells] using hc
    · rename_i hk
      obtain⟨n,rfl⟩:=okWide_string hk hv
      simpa[Value.cells] using hc
    · rename_i e hk
      obtain⟨a,l,cp,rfl⟩:=okWide_slice hk hv
      simpa[Value.cells] using hc
    · obtain⟨a,_,rfl⟩:=Option.map_eq_some_iff.1 hT;simp[Ty.isAgg] at hA
    · obtain⟨a,_,rfl⟩:=Option.map_eq_some_iff.1 hT;simp[Ty.isAgg] at hA
    · simp at hT
  rw[hvc]
  exact hcr.1
 | true =>
  have hu:=hu3 hA
  subst hu
  have hag:∃cs,v=.agg cs:=by
   cases d with
   | zero=>simp[tyOf] at hT
   | succ d =>
    unfold tyOf at hT
    split at hT
    · simp only[Option.some.injEq] at hT;subst hT;simp[Ty.isAgg] at hA
    · simp only[Option.some.injEq] at hT;subst hT;simp[Ty.isAgg] at hA
    · simp only[Option.some.injEq] at hT;subst hT;simp[Ty.isAgg] at hA
    · obtain⟨a,_,rfl⟩:=Option.map_eq_some_iff.1 hT;simp[Ty.isAgg] at hA
    · rename_i fs hk
      unfold Value.okWide at hv
      rw[hk] at hv
      obtain⟨cs,rfl,_⟩:=hv
      exact⟨cs,rfl⟩
    · rename_i n e hk
      unfold Value.okWide at hv
      rw[hk] at hv
      obtain⟨cs,rfl,_⟩:=hv
      exact⟨cs,rfl⟩
    · simp at hT
  obtain⟨cs,rfl⟩:=hag
  simp only[Value.cells] at h3
  have hlen:=h3.len
  have each:∀k,k<vs.length→CR W (cs.getD k undef) (vs.getD k .dead):=by
   intro k hk
   have hk':k<cs.toList.length:=by omega
   obtain⟨w,hw1,hw2⟩:=h3.get (i:=k) (a:=cs.toList[k]) (by simp[hk'])
   have e1:cs.getD k undef=cs.toList[k]:=by
    have:k<cs.size:=by simpa using hk'
    simp[Array.getD,this]
   rw[e1,List.getD_eq_getElem?_getD,hw1]
   exact hw2
  exact .agg cs vs (by simpa using hlen) (fun k hk=>(each k hk).2) (fun k hk=>(each k hk).1)
theorem open_args {d:Nat} {r:Go.Reach} {b0:Nat}:∀(ts:List TypeId) (Ts:List Ty),tysOf P d ts=some Ts→ts.all (lay P d)=true→∀(vs:List Value) (ds:List (DataW H)) (ps:List MemPlace),
 DataW.TrodAll enc P W 0 (fun _=>true) true ts vs ds ps→(∀(j:Nat) t v,ts[j]? = some t→vs[j]? = some v→Value.okWide P W r b0 t v) →
 ∃(x:HL Ts) (us:List V),EL N0 Ts x us∧wfL Ts x∧All2 (fun v u=>VR E0 st0 W v u) vs us∧ds.length=ts.length
 | [],Ts,hT,_,vs,ds,ps,h,_=>by
  simp only[tysOf,Option.some.injEq] at hT
  subst hT
  obtain⟨rfl,rfl,rfl⟩:=trodAll_nil h
  exact⟨(),[],rfl,trivial,trivial,rfl⟩
 | [t],Ts,hT,hl,vs,ds,ps,h,hv=>by
  obtain⟨v,vs',y,ds',p,q,rfl,rfl,rfl,h1,h2⟩:=trodAll_cons h
  obtain⟨rfl,rfl,rfl⟩:=trodAll_nil h2
  unfold tysOf at hT
  cases h3:tyOf P d t with
  | none=>rw[h3] at hT;simp at hT
  | some T =>
   rw[h3] at hT
   simp only[tysOf,Option.some.injEq] at hT
   subst hT
   simp only[List.all_cons,List.all_nil,Bool.and_true] at hl
   obtain⟨x,u,e1,e2,e3⟩:=open_arg h3 hl (hv 0 t v rfl rfl) h1
   exact⟨x,[u],⟨u,rfl,e1⟩,e2,⟨e3,trivial⟩,rfl⟩
 | t::t'::ts,Ts,hT,hl,vs,ds,ps,h,hv=>by
  obtain⟨v,vs',y,ds',p,q,rfl,rfl,rfl,h1,h2⟩:=trodAll_cons h
  rw[tysOf] at hT
  cases h3:tyOf P d t with
  | none=>rw[h3] at hT;simp at hT
  | some T =>
   cases h4:tysOf P d (t'::ts) with
   | none=>rw[h3,h4] at hT;simp at hT
   | some Us =>
    rw[h3,h4] at hT
    simp only[Option.some.injEq] at hT
    subst hT
    rw[List.all_cons,Bool.and_eq_true] at hl
    obtain⟨x,u,e1,e2,e3⟩:=open_arg h3 hl.1 (hv 0 t v rfl rfl) h1
    obtain⟨x',us,g1,g2,g3,g4⟩:=open_args (t'::ts) Us h4 hl.2 vs' ds' q h2 (fun j t v a b=>hv (j+1) t v (by simpa using a) (by simpa using b))
    cases Us with
    | nil =>
     unfold tysOf at h4
     cases a:tyOf P d t' with
     | none=>rw[a] at h4;simp at h4
     | some A =>
      cases b:tysOf P d ts with
      | none=>rw[a,b] at h4;simp at h4
      | some B=>rw[a,b] at h4;simp at h4
    | cons U r=>exact⟨(x,x'),u::us,⟨u,us,rfl,e1,g1⟩,⟨e2,g2⟩,⟨e3,g3⟩,by simp[g4]⟩
theorem Blw.sameAt {W W':World} (h:Blw W W') {p:MemPlace} (hp:p.block<W.heap.size):W.sameAt W' p:=by
 cases p with
 | cell b o=>exact World.cell?_of_block (w:=W) (h.same b hp)
 | map b=>exact h.same b hp
theorem trodAll_stays (hl:laidOutB P=true) {W W':World} {sp:Nat→Bool}:∀{ts:List TypeId} {vs:List Value} {ds:List (DataW H)} {ps:List MemPlace},
 ts.all (fun t=>P.readableRec t&&decide (t<P.types.size))=true→DataW.TrodAll enc P W 0 (fun _=>true) true ts vs ds ps→(∀p∈ps,W.sameAt W' p)→(∀p∈ps,sp p.block=true) →
 DataW.TrodAll enc P W' 0 sp true ts vs ds ps
 | [],_,_,_,_,h,_,_=>by
  obtain⟨rfl,rfl,rfl⟩:=trodAll_nil h
  exact rfl
 | t::ts,_,_,_,hr,h,h1,h2=>by
  obtain⟨v,vs',y,ds',p,q,rfl,rfl,rfl,g1,g2⟩:=trodAll_cons h
  simp only[List.all_cons,Bool.and_eq_true,decide_eq_true_eq] at hr
  exact⟨p,q,WideElems.Trod_stays hl hr.1.1 hr.1.2 g1 (fun x hx=>h1 x (by simp[hx])) (fun x hx=>h2 x (by simp[hx])),
   trodAll_stays hl (by simpa using hr.2) g2 (fun x hx=>h1 x (by simp[hx])) (fun x hx=>h2 x (by simp[hx])),rfl⟩
open Classical in
noncomputable def lawAns (Ts:List Ty):List V→Option V:=fun args=>if ∃x:HL Ts,EL N0 Ts x args∧wfL Ts x then some (.bool true) else none
theorem sound_told {C:Cfg} (hX:ExtOK P C) {g:FuncId} (hlt:g<P.funcs.size) {Ts:List Ty} {F:HL Ts→Option Bool} (t:Told C P g Ts [.bool] F) (law:∀x,wfL Ts x→F x=some true):Sound P g (ans (lawAns Ts)):=by
 refine sound_ans hX hlt fun args st v h=>?_
 unfold lawAns at h
 split at h
 · rename_i hx
   obtain⟨x,h1,h2⟩:=hx
   simp only[Option.some.injEq] at h
   subst h
   obtain⟨v,h3,cs,h4,h5⟩:=t N0 x true args st (law x h2) h1 (fun _ h=>h.elim)
   simp only[ERc] at h4
   subst h4
   simp[Ty.isAgg] at h5
   subst h5
   exact h3
 · simp at h
theorem row_of_law {f:Func} {g:FuncId} {s:ChangeSpec} {apart fresh handsOn again:Bool} {Ts:List Ty} {d:Nat} {tb:TypeId} {args:Array Value} {ds gs:List (DataW H)} {before:List MemPlace} {b0:Nat}
 (hs:Sound P g (ans (lawAns Ts))) (hT:tysOf P d f.params.toList=some Ts) (hlay:f.params.toList.all (lay P d)=true) (hread:f.params.toList.all (fun t=>P.readableRec t&&decide (t<P.types.size))=true)
 (hlo:laidOutB P=true) (hres:f.resultTypes=#[tb]) (hb:P.underlying tb=some .bool) (hvars:s.vars=[])
 (hfn:∀ds:List (DataW H),ds.length=f.params.size→(s.fn H ds).results=[.lit (.bool true)]∧(s.fn H ds).args=ds∧(s.fn H ds).vars=[])
 (hval:∀(j:Nat) t v,f.params[j]? = some t→args[j]? = some v→Value.okWide P W .any b0 t v)
 (hW:DataW.Whole enc P f.params.toList s.vars apart W args.toList ds gs before) :
 Calls P g args W fun e W'=>∃v,e=.returned v∧s.post enc P f apart fresh handsOn again W args v W':=by
 have hW':=hW
 obtain⟨p,q,hA,hV,rfl,hfz,hnd⟩:=hW
 rw[hvars] at hV
 obtain⟨rfl,rfl⟩:=trodVars_none hV
 obtain⟨x,us,e1,e2,e3,e4⟩:=open_args f.params.toList Ts hT hlay args.toList ds p hA (r:=.any) (b0:=b0) (fun j t v a b=>hval j t v (by simpa using a) (by simpa using b))
 have hlen:=e3.len
 have ha:lawAns Ts us=some (.bool true):=by unfold lawAns;rw[if_pos ⟨x,e1,e2⟩]
 obtain⟨f1,f2,f3⟩:=hfn ds (by simpa using e4)
 refine (hs.law (E:=E0) ha (by simpa using hlen) ?_).mono fun e W' ⟨he,hw⟩=>?_
 · intro k hk
   have hk':k<args.toList.length:=by omega
   obtain⟨u,hu1,hu2⟩:=e3.get (i:=k) (a:=args.toList[k]) (by simp[hk'])
   have e1:args.getD k undef=args.toList[k]:=by
    have:k<args.size:=by simpa using hk'
    simp[Array.getD,this]
   rw[e1,List.getD_eq_getElem?_getD,hu1]
   exact hu2
 · subst he
   refine⟨_,rfl,post_of_blw (pa:=p) (pv:=[]) hW' (fun b sp hd=>?_) (fun sp hsp=>?_) (fun sp hsp=>?_) rfl hw (ok_one hres rfl (okWide_bool_mk hb true))⟩
   · rw[List.append_nil,f1,hres]
     exact trodAll_mk1 (shut_bool hb true)
   · rw[List.append_nil,f2]
     exact trodAll_stays hlo hread hA (fun x hx=>hw.sameAt (hW'.lt x (by simp[hx]))) (fun x hx=>hsp x (by simp[hx]))
   · rw[List.append_nil,f3,hvars]
     rfl
end
end Go.Abs
