/- Part of a proof. -/
import Derived.Test.YthlcfhkcbmikcaaGreatLawB
import Derived.Test.YthlcfhkcbmikcaaGreatSxB
import Derived.Test.YthlcfhkcbmikcaaGreatSnD
set_option linter.unusedSimpArgs false
set_option linter.unusedVariables false
set_option linter.unusedSectionVars false
namespace Go.Abs
open Go
theorem loop_run {σ τ:Type} {step:σ→Option (σ ⊕ τ)} {t:τ} {s:Nat→σ}:∀(m:Nat),(∀i,i<m→step (s i)=some (.inl (s (i+1))))→step (s m)=some (.inr t)→loopS step (s 0)=some t:=by
 intro m
 suffices h:∀k,k≤m→(∀i,i<m→step (s i)=some (.inl (s (i+1))))→step (s m)=some (.inr t)→loopS step (s (m-k))=some t by
  intro h1 h2
  have:=h m (Nat.le_refl _) h1 h2
  rwa [Nat.sub_self] at this
 intro k
 induction k with
 | zero=>intro _ _ h2;exact loopS_out h2
 | succ k ih =>
  intro hk h1 h2
  rw[loopS_next (h1 (m-(k+1)) (by omega)),show m-(k+1)+1=m-k by omega]
  exact ih (by omega) h1 h2
theorem take_next {β:Type} {l:List β} {i:Nat} {x:β} (h:l[i]? = some x):l.take (i+1)=l.take i++[x]:=by
 rw[List.take_add_one,h];rfl
def timeS (n:Int):Bool:=inC n 1099511627776
def aliveS (now u:Int):Bool:=timeS now&&decide (now<u)
def leftS (now u:Int):Int:=if aliveS now u then (if 604800<u-now then 604800 else u-now) else 0
theorem tmpl_in_eq (n m:Int):F_tmpl_in n m=some (inC n m):=by
 unfold F_tmpl_in inC
 by_cases h:0≤n<;>simp[h]
theorem group_in_eq (n m:Int):F_group_in n m=some (inC n m):=by
 unfold F_group_in inC
 by_cases h:0≤n<;>simp[h]
theorem age_within_eq (n m:Int):F_age_within_int n m=some (inC n m):=by
 unfold F_age_within_int inC
 by_cases h:0≤n<;>simp[h]
theorem age_Live_eq (now u:Int):F_age_Live now u=some (aliveS now u):=by
 unfold F_age_Live aliveS
 rw[age_within_eq,bnd_some]
 show (if timeS now=true then _ else _)=_
 cases timeS now<;>simp
theorem aliveS_iff {now u:Int}:aliveS now u=true↔0≤now∧now≤1099511627776∧now<u:=by
 unfold aliveS timeS inC
 simp only[Bool.and_eq_true,decide_eq_true_eq]
 omega
theorem age_Left_eq {now u:Int} (hu:u≤maxI):F_age_Left now u=some (leftS now u):=by
 have hm:maxI=9223372036854775807:=rfl
 unfold F_age_Left leftS
 rw[age_Live_eq,bnd_some]
 cases h:aliveS now u with
 | false=>simp
 | true =>
  have:=aliveS_iff.1 h
  rw[wrap_id (by omega) (by omega)]
  simp
theorem leftS_le (now u:Int):0≤leftS now u∧leftS now u≤604800:=by
 unfold leftS
 split
 · rename_i h
   have:=aliveS_iff.1 h
   split<;>omega
 · omega
abbrev Sp:=Int×Int×Int
abbrev Pc:=List Sp×Int×Bool
abbrev Tt:=List UInt8×Int×Int×Int×List UInt8×List Pc
def spanC (n:Nat) (s:Sp):Bool:=decide (0≤s.1)&&decide (s.1≤s.2.2)&&decide (s.2.1≤n)&&decide (s.2.2≤s.2.1)&&decide (4≤s.2.1-s.2.2)
theorem spanC_iff {n:Nat} {s:Sp}:spanC n s=true↔0≤s.1∧s.1≤s.2.2∧s.2.1≤n∧s.2.2+4≤s.2.1:=by
 unfold spanC
 simp only[Bool.and_eq_true,decide_eq_true_eq]
 omega
def pieceC (n:Nat) (p:Pc):Bool:=decide (p.1≠[])&&p.1.all (spanC n)
def checkT (t:Tt):Bool:=t.2.2.2.2.2.all (pieceC t.2.2.2.2.1.length)
def okT (t:Tt):Prop:=(t.2.2.2.2.1.length:Int)≤maxI∧(t.2.2.2.2.2.length:Int)≤maxI∧∀p∈t.2.2.2.2.2,(p.1.length:Int)≤maxI
theorem len0 (n:Nat):((n:Int)==0)=decide (n=0):=by
 rw[Bool.eq_iff_iff];simp
theorem spans_loop {t:Tt} {x:Pc} (h1:(t.2.2.2.2.1.length:Int)≤maxI) (h2:(x.1.length:Int)≤maxI) (z:Int):∃r,loopS (step_tmpl_Template_Check_1 t z x) 0=some r∧(if x.1.all (spanC t.2.2.2.2.1.length)=true then r=.inr () else ∃i:Nat,r=.inl false):=by
 have hm:maxI=9223372036854775807:=rfl
 refine all_loop (bad:=fun _=>false) x.1 ?_ (fun i s hs=>?_)
 · simp only[step_tmpl_Template_Check_1,grdEq_self]
   rw[if_neg (by simp)]
 · have hi:=(List.getElem?_eq_some_iff.1 hs).1
   simp only[step_tmpl_Template_Check_1,natOf_nat,hs,bnd_some,grdEq_self]
   rw[if_pos (by simp;omega),wrap_id (x:=(i:Int)+1) (by omega) (by omega)]
   by_cases c1:0≤s.1
   · by_cases c2:s.1≤s.2.2
     · by_cases c3:s.2.1≤t.2.2.2.2.1.length
       · by_cases c4:s.2.2≤s.2.1
         · rw[wrap_id (x:=s.2.1-s.2.2) (by omega) (by omega)]
           by_cases c5:4≤s.2.1-s.2.2<;>simp[spanC,c1,c2,c3,c4,c5]
         · simp[spanC,c1,c2,c3,c4]
       · simp[spanC,c1,c2,c3]
     · simp[spanC,c1,c2]
   · simp[spanC,c1]
theorem tmpl_Check_eq {t:Tt} (h:okT t):F_tmpl_Template_Check t=some (checkT t):=by
 have hm:maxI=9223372036854775807:=rfl
 obtain⟨h1,h2,h3⟩:=h
 unfold F_tmpl_Template_Check checkT
 obtain⟨r,r1,r2⟩:=all_loop (ok:=pieceC t.2.2.2.2.1.length) (bad:=fun _=>false) (step:=step_tmpl_Template_Check_0 t) t.2.2.2.2.2 (by
  simp only[step_tmpl_Template_Check_0,grdEq_self]
  rw[if_neg (by simp)]) (fun i x hx=>by
  have hi:=(List.getElem?_eq_some_iff.1 hx).1
  have hp:=h3 x (List.mem_of_getElem? hx)
  simp only[step_tmpl_Template_Check_0,natOf_nat,hx,bnd_some,grdEq_self]
  rw[if_pos (by simp;omega),wrap_id (x:=(i:Int)+1) (by omega) (by omega)]
  obtain⟨q,q1,q2⟩:=spans_loop (t:=t) (x:=x) h1 hp (i:Int)
  rw[len0]
  unfold pieceC
  by_cases c:x.1=[]
  · simp[c]
  · have c':¬x.1.length=0:=by simpa using c
    simp only[c,c',decide_false,Bool.false_eq_true,if_false,q1,bnd_some,ne_eq,not_false_eq_true,decide_true,Bool.true_and]
    by_cases hq:x.1.all (spanC t.2.2.2.2.1.length)=true
    · rw[if_pos hq] at q2
      subst q2
      simp only[hq,if_true];rfl
    · rw[if_neg hq] at q2
      obtain⟨_,rfl⟩:=q2
      rw[if_neg hq])
 rw[r1,bnd_some]
 by_cases h:t.2.2.2.2.2.all (pieceC t.2.2.2.2.1.length)=true
 · rw[if_pos h] at r2;subst r2;simp only[h]
 · rw[if_neg h] at r2;obtain⟨_,rfl⟩:=r2
   simp only[Bool.not_eq_true] at h
   simp only[h]
def liveT (t:Tt) (now:Int):Bool:=t.2.2.2.2.2.all (fun p=>aliveS now p.2.1)&&timeS now
theorem tmpl_Live_eq {t:Tt} (h:(t.2.2.2.2.2.length:Int)≤maxI) (now:Int):F_tmpl_Template_Live t now=some (liveT t now):=by
 have hm:maxI=9223372036854775807:=rfl
 unfold F_tmpl_Template_Live liveT
 obtain⟨r,r1,r2⟩:=all_loop (ok:=fun p:Pc=>aliveS now p.2.1) (bad:=fun _=>false) (step:=step_tmpl_Template_Live_0 t now) t.2.2.2.2.2 (by
  simp only[step_tmpl_Template_Live_0,grdEq_self]
  rw[if_neg (by simp)]) (fun i x hx=>by
  have hi:=(List.getElem?_eq_some_iff.1 hx).1
  simp only[step_tmpl_Template_Live_0,natOf_nat,hx,bnd_some,grdEq_self,age_Live_eq]
  rw[if_pos (by simp;omega),wrap_id (x:=(i:Int)+1) (by omega) (by omega)]
  cases aliveS now x.2.1<;>simp)
 rw[r1,bnd_some]
 by_cases h:t.2.2.2.2.2.all (fun p:Pc=>aliveS now p.2.1)=true
 · rw[if_pos h] at r2;subst r2
   simp only[h,tmpl_in_eq,bnd_some,Bool.true_and];rfl
 · rw[if_neg h] at r2;obtain⟨_,rfl⟩:=r2
   simp only[Bool.not_eq_true] at h
   simp only[h,Bool.false_and]
end Go.Abs

namespace Go.Abs
open Go
def rot {β:Type} (l:List β) (a:Nat):List β:=l.drop a++l.take a
theorem rot_len {β:Type} (l:List β) (a:Nat):(rot l a).length=l.length:=by simp[rot];omega
theorem rot_get {β:Type} {l:List β} {a k:Nat} (ha:a<l.length) (hk:k<l.length):(rot l a)[k]? = l[(a+k) % l.length]? := by
 unfold rot
 by_cases h:a+k<l.length
 · rw[Nat.mod_eq_of_lt h,List.getElem?_append_left (by simp;omega),List.getElem?_drop]
 · have e:(a+k) % l.length=a+k-l.length:=by
    rw[Nat.mod_eq_sub_mod (by omega),Nat.mod_eq_of_lt (by omega)]
   rw[e,List.getElem?_append_right (by simp;omega),List.getElem?_take]
   simp only[List.length_drop]
   rw[if_pos (by omega)]
   congr 1
   omega
theorem rot_zero {β:Type} (l:List β):rot l 0=l:=by simp[rot]
theorem rot_mem {β:Type} {l:List β} {a:Nat} {x:β} (h:x∈rot l a):x∈l:=by
 unfold rot at h
 rcases List.mem_append.1 h with h | h
 · exact List.mem_of_mem_drop h
 · exact List.mem_of_mem_take h
theorem rot_map {β γ:Type} (f:β→γ) (l:List β) (a:Nat):rot (l.map f) a=(rot l a).map f:=by simp[rot,List.map_drop,List.map_take]
theorem at_eq {turn:Int} {n:Nat} (h:0≤turn) (hn:0<n):turn.tmod (n:Int)=((turn.toNat % n:Nat):Int):=by
 obtain⟨m,rfl⟩:=Int.eq_ofNat_of_zero_le h
 rw[Int.tmod_eq_emod_of_nonneg (by omega)]
 rfl
def seg (s:List UInt8) (a b:Nat):List UInt8:=List.drop a (List.take b s)
theorem seg_len {s:List UInt8} {a b:Nat} (h2:b≤s.length):(seg s a b).length=b-a:=by
 unfold seg;simp;omega
theorem flat_len {β:Type} {g:β→List UInt8} {b:Nat}:∀(l:List β),(∀x∈l,(g x).length≤b)→(l.flatMap g).length≤b*l.length
 | [],_=>by simp
 | x::l,h=>by
  have h1:=h x (by simp)
  have h2:=flat_len l (fun y hy=>h y (by simp[hy]))
  rw[List.flatMap_cons,List.length_append,List.length_cons,Nat.mul_succ]
  omega
def spanB (text left:List UInt8) (s:Sp):List UInt8:=seg text s.1.toNat s.2.2.toNat++left++seg text (s.2.2.toNat+4) s.2.1.toNat
def partT (t:Tt) (now turn:Int) (p:Pc):List UInt8 :=
 (rot p.1 (if p.2.2 then 0 else turn.toNat % p.1.length)).flatMap (spanB t.2.2.2.2.1 (put4 (leftS now p.2.1)))
def partS (t:Tt) (i now turn:Int):List UInt8 :=
 if checkT t=false∨i<0∨turn<0 then [] else
 match t.2.2.2.2.2[i.toNat]? with
 | none=>[]
 | some p=>if aliveS now p.2.1 then partT t now turn p else []
def fewT (t:Tt):Prop:=t.2.2.2.2.1.length≤2000000∧t.2.2.2.2.2.length≤1000∧(∀p∈t.2.2.2.2.2,p.1.length≤1000∧p.2.1≤maxI)
theorem okT_of {t:Tt} (h:fewT t):okT t:=by
 have hm:maxI=9223372036854775807:=rfl
 obtain⟨h1,h2,h3⟩:=h
 exact⟨by omega,by omega,fun p hp=>by have:=(h3 p hp).1;omega⟩
theorem put4_len (n:Int):(put4 n).length=4:=rfl
theorem spanB_len {text left:List UInt8} {s:Sp} (hl:left.length=4) (h:spanC text.length s=true):(spanB text left s).length=s.2.1.toNat-s.1.toNat:=by
 have:=spanC_iff.1 h
 unfold spanB
 rw[List.length_append,List.length_append,seg_len (by omega),seg_len (by omega)]
 omega
theorem pieceC_iff {n:Nat} {p:Pc} (h:pieceC n p=true):0<p.1.length∧∀s∈p.1,spanC n s=true:=by
 unfold pieceC at h
 simp only[Bool.and_eq_true,decide_eq_true_eq,List.all_eq_true] at h
 exact⟨List.length_pos_iff.2 h.1,h.2⟩
theorem ints_seg (s:List UInt8) (a b:Nat):List.map (fun b:UInt8=>(b.toNat:Int)) (List.drop a (List.take b s))=ints (seg s a b):=rfl
theorem ints_map (s:List UInt8):List.map (fun b:UInt8=>(b.toNat:Int)) s=ints s:=rfl
theorem ints_length (s:List UInt8):(ints s).length=s.length:=by simp[ints]
theorem ints_bound (s:List UInt8):∀n:(Ty.int IntKind.u8).den,n∈ints s→0≤n∧n<256:=by
 intro n hn
 obtain⟨b,_,rfl⟩:=List.mem_map.1 hn
 have:=b.toNat_lt
 exact⟨Int.natCast_nonneg _,Int.ofNat_lt.2 this⟩
theorem ints_back (s:List UInt8):List.map (fun n:Int=>UInt8.ofNat (Int.toNat n)) (ints s)=s:=by
 unfold ints
 rw[List.map_map]
 conv=>rhs;rw[←List.map_id s]
 apply List.map_congr_left
 intro b _
 simp
theorem part_loop {t:Tt} {x:Pc} (hf:fewT t) (hx:x∈t.2.2.2.2.2) (hc:pieceC t.2.2.2.2.1.length x=true) {a:Nat} (ha:a<x.1.length) {left:List UInt8} (hl:left.length=4) :
 loopS (step_tmpl_Template_Part_0 t x (a:Int) left) (0,[])=some (ints ((rot x.1 a).flatMap (spanB t.2.2.2.2.1 left))):=by
 have hm:maxI=9223372036854775807:=rfl
 obtain⟨f1,f2,f3⟩:=hf
 obtain⟨g1,g2⟩:=f3 x hx
 obtain⟨c1,c2⟩:=pieceC_iff hc
 have hb:∀i,(((rot x.1 a).take i).flatMap (spanB t.2.2.2.2.1 left)).length≤2000000000:=by
  intro i
  have:=flat_len (g:=spanB t.2.2.2.2.1 left) (b:=2000000) ((rot x.1 a).take i) (fun s hs=>by
   have hs':=c2 s (rot_mem (List.mem_of_mem_take hs))
   rw[spanB_len hl hs']
   have:=spanC_iff.1 hs'
   omega)
  have h2:((rot x.1 a).take i).length≤1000:=by rw[List.length_take,rot_len];omega
  have:=Nat.mul_le_mul_left 2000000 h2
  omega
 have:=loop_run (step:=step_tmpl_Template_Part_0 t x (a:Int) left) (t:=ints ((rot x.1 a).flatMap (spanB t.2.2.2.2.1 left))) (s:=fun i=>((i:Int),ints (((rot x.1 a).take i).flatMap (spanB t.2.2.2.2.1 left)))) x.1.length (fun i hi=>by
  have hb1:=hb i
  have hb2:=hb (i+1)
  obtain⟨s,hs⟩:∃s,(rot x.1 a)[i]? = some s:=⟨(rot x.1 a)[i]'(by rw[rot_len];exact hi),by simp⟩
  have hs2:=hs
  rw[rot_get ha hi] at hs2
  have hsc:=c2 s (List.mem_of_getElem? hs2)
  have hsi:=spanC_iff.1 hsc
  have htk:((rot x.1 a).take (i+1)).flatMap (spanB t.2.2.2.2.1 left)=((rot x.1 a).take i).flatMap (spanB t.2.2.2.2.1 left)++spanB t.2.2.2.2.1 left s:=by
   rw[take_next hs,List.flatMap_append];simp
  rw[htk] at hb2 ⊢
  have hsl:=spanB_len (left:=left) hl hsc
  have hmod:((a:Int)+(i:Int)).tmod (x.1.length:Int)=(((a+i) % x.1.length:Nat):Int):=by
   rw[Int.tmod_eq_emod_of_nonneg (by omega)];rfl
  simp only[step_tmpl_Template_Part_0,grdEq_self]
  rw[if_pos (by simp;omega),if_neg (by omega),wrap_id (x:=(a:Int)+(i:Int)) (by omega) (by omega),hmod,natOf_nat,hs2,bnd_some]
  rw[show s.2.2=((s.2.2.toNat:Nat):Int) by omega,natOf_nat,grdp (by omega)]
  rw[show s.1=((s.1.toNat:Nat):Int) by omega,natOf_nat,grdp (by omega)]
  simp only[ints_seg,ints_map]
  have l1:(seg t.2.2.2.2.1 s.1.toNat s.2.2.toNat).length≤2000000:=by rw[seg_len (by omega)];omega
  have l0:(ints (List.drop s.1.toNat (List.take s.2.2.toNat t.2.2.2.2.1))).length≤2000000:=by rw[ints_length];exact l1
  refine Eq.trans (grdp (by simp only[List.length_append,ints_length] at l0 ⊢;unfold roomLim;omega)) ?_
  refine Eq.trans (grdp (by simp only[List.length_append,ints_length] at l0 ⊢;unfold roomLim;omega)) ?_
  rw[show s.2.1=((s.2.1.toNat:Nat):Int) by omega,natOf_nat,grdp (by omega)]
  rw[wrap_id (x:=((s.2.2.toNat:Nat):Int)+4) (by omega) (by omega),show ((s.2.2.toNat:Nat):Int)+4=((s.2.2.toNat+4:Nat):Int) by omega,natOf_nat,grdp (by omega)]
  have l2:(seg t.2.2.2.2.1 (s.2.2.toNat+4) s.2.1.toNat).length≤2000000:=by rw[seg_len (by omega)];omega
  have l3:(ints (List.drop (s.2.2.toNat+4) (List.take s.2.1.toNat t.2.2.2.2.1))).length≤2000000:=by rw[ints_length];exact l2
  refine Eq.trans (grdp (by simp only[List.length_append,ints_length] at l0 l3 ⊢;unfold roomLim;omega)) ?_
  rw[wrap_id (x:=(i:Int)+1) (by omega) (by omega)]
  simp only[spanB,ints_app,List.append_assoc]
  rfl) (by
  simp only[step_tmpl_Template_Part_0,grdEq_self]
  rw[if_neg (by simp),List.take_of_length_le (by rw[rot_len];exact Nat.le_refl _)])
 simpa[ints] using this
theorem tmpl_Part_eq {t:Tt} (hf:fewT t) (i now turn:Int):F_tmpl_Template_Part t i now turn=some (partS t i now turn):=by
 have hm:maxI=9223372036854775807:=rfl
 unfold F_tmpl_Template_Part partS
 have e:F_tmpl_Template_Check (t.fst,t.snd.fst,t.snd.snd.fst,t.snd.snd.snd.fst,t.snd.snd.snd.snd.fst,t.snd.snd.snd.snd.snd)=some (checkT t):=tmpl_Check_eq (okT_of hf)
 simp only[e,bnd_some,grdEq_self]
 by_cases c1:i<0
 · simp[c1];rfl
 · by_cases c2:(t.2.2.2.2.2.length:Int)≤i
   · have:t.2.2.2.2.2[i.toNat]? = none:=List.getElem?_eq_none (by omega)
     simp only[c1,c2,this,decide_true,decide_false,Bool.true_eq_false,if_true,if_false,bnd_some]
     simp
   · by_cases c3:turn<0
     · simp only[c1,c2,c3,decide_true,decide_false,Bool.true_eq_false,if_true,if_false,bnd_some]
       simp
     · cases c4:checkT t with
       | false =>
        simp only[c1,c2,c3,decide_true,decide_false,Bool.true_eq_false,if_true,if_false,bnd_some,Bool.not_false]
        simp
       | true =>
        simp only[c1,c2,c3,decide_true,decide_false,Bool.true_eq_false,Bool.false_eq_true,if_true,if_false,bnd_some,Bool.not_true]
        obtain⟨x,hx⟩:∃x,t.2.2.2.2.2[i.toNat]? = some x:=⟨t.2.2.2.2.2[i.toNat]'(by omega),by simp⟩
        have hmem:=List.mem_of_getElem? hx
        obtain⟨g1,g2⟩:=hf.2.2 x hmem
        have hpc:pieceC t.2.2.2.2.1.length x=true:=by
         unfold checkT at c4
         exact List.all_eq_true.1 c4 x hmem
        obtain⟨p1,p2⟩:=pieceC_iff hpc
        rw[show i=((i.toNat:Nat):Int) by omega,natOf_nat]
        simp only[Int.toNat_natCast,hx,bnd_some,age_Live_eq]
        simp only[or_self,if_false]
        cases c5:aliveS now x.2.1 with
        | false=>simp
        | true =>
         simp only[Bool.not_true,Bool.false_eq_true,if_false,if_true]
         rw[if_neg (show ¬((x.fst.length:Nat):Int)=0 by omega)]
         have hat:(if x.2.2=true then some (0:Int) else some (turn.tmod (x.1.length:Int)))=some (((if x.2.2 then 0 else turn.toNat % x.1.length:Nat):Nat):Int):=by
          cases x.2.2
          · simp[at_eq (show 0≤turn by omega) p1]
          · simp
         have ha:(if x.2.2 then 0 else turn.toNat % x.1.length:Nat)<x.1.length:=by
          split
          · exact p1
          · exact Nat.mod_lt _ p1
         have hle:=leftS_le now x.2.1
         rw[hat,bnd_some,age_Left_eq g2,bnd_some,octet_put4 hle.1 (by omega),bnd_some,part_loop hf hmem hpc ha (put4_len _),bnd_some]
         have hlen:((rot x.1 (if x.2.2 then 0 else turn.toNat % x.1.length)).flatMap (spanB t.2.2.2.2.1 (put4 (leftS now x.2.1)))).length≤2000000*x.1.length:=by
          have:=flat_len (g:=spanB t.2.2.2.2.1 (put4 (leftS now x.2.1))) (b:=2000000) (rot x.1 (if x.2.2 then 0 else turn.toNat % x.1.length)) (fun s hs=>by
           have hs':=p2 s (rot_mem hs)
           rw[spanB_len (put4_len _) hs']
           have:=spanC_iff.1 hs'
           have:=hf.1
           omega)
          rwa [rot_len] at this
         have hl2:=Nat.mul_le_mul_left 2000000 g1
         rw[grdp (by rw[ints_length];omega),grdp (ints_bound _),ints_back]
         rfl
end Go.Abs

namespace Go.Abs
open Go
def scanF {β τ:Type} (f:Nat→β→Option τ) (e:τ):Nat→List β→τ
 | _,[]=>e
 | i,x::l=>match f i x with
  | some t=>t
  | none=>scanF f e (i+1) l
theorem loop_scan {β τ:Type} {l:List β} {step:Int→Option (Int ⊕ τ)} (f:Nat→β→Option τ) (e:τ)
 (hs:∀(i:Nat) x,l[i]? = some x→step (i:Int)=some (match f i x with | some t=>.inr t | none=>.inl ((i+1:Nat):Int))) (he:step (l.length:Int)=some (.inr e)):loopS step 0=some (scanF f e 0 l):=by
 suffices h:∀(v u:List β),l=u++v→loopS step (u.length:Int)=some (scanF f e u.length v) from h l [] rfl
 intro v
 induction v with
 | nil =>
  intro u hu
  rw[List.append_nil] at hu
  subst hu
  exact loopS_out he
 | cons x v ih =>
  intro u hu
  have hx:=hs u.length x (by rw[hu];simp)
  unfold scanF
  cases hf:f u.length x with
  | some t=>rw[hf] at hx;exact loopS_out hx
  | none =>
   rw[hf] at hx
   rw[loopS_next hx]
   have:=ih (u++[x]) (by rw[hu];simp)
   simpa using this
def lowN (n:List UInt8):List UInt8:=if nameS n then lowS n else []
theorem name_Low_eq {n:List UInt8} (h:(n.length:Int)≤maxI):F_name_Low n=some (lowN n):=by
 unfold F_name_Low lowN
 rw[name_Check_eq h,bnd_some,name_low_eq h]
 cases nameS n<;>rfl
theorem ref02_Low_eq {n:List UInt8} (h:(n.length:Int)≤maxI):F_ref02_Low n=some (lowN n):=by
 unfold F_ref02_Low lowN
 rw[ref02_Check_eq,bnd_some,ref02_Small_eq h]
 cases nameS n<;>rfl
abbrev Qq:=List UInt8×Int×Int
def okA (q:Qq):Bool:=nameS q.1&&(lowN q.1==q.1)&&inC q.2.1 65535&&inC q.2.2 65535
theorem tmpl_asked_eq {q:Qq} (h:(q.1.length:Int)≤maxI):F_tmpl_asked q=some (okA q):=by
 unfold F_tmpl_asked okA
 simp only[name_Check_eq h,name_Low_eq h,tmpl_in_eq,bnd_some,grdEq_self]
 cases nameS q.1<;>cases (lowN q.1==q.1)<;>cases inC q.2.1 65535<;>rfl
def lowD (kind:Int) (d:List UInt8):List UInt8 :=
 if shapeS kind=(0,0,0) then d else
 match namesW d (shapeS kind).2.1.toNat (shapeS kind).1 with
 | some (l,j)=>d.take (shapeS kind).1.toNat++(l.map lowN).flatten++d.drop j.toNat
 | none=>[]
theorem map_set {α:Type} {l:List α} {f:α→α} {i:Nat} {x:α} (h:l[i]? = some x):((l.take i).map f++l.drop i).set i (f x)=(l.take (i+1)).map f++l.drop (i+1):=by
 have hi:=(List.getElem?_eq_some_iff.1 h).1
 have e:l.drop i=x::l.drop (i+1):=by
  rw[List.drop_eq_getElem_cons hi]
  congr 1
  have:=List.getElem?_eq_getElem hi
  rw[h] at this
  exact (Option.some.inj this).symm
 rw[e,take_next h,List.set_append_right _ _ (by rw[List.length_map,List.length_take];omega),List.map_append]
 simp[Nat.min_eq_left (Nat.le_of_lt hi)]
theorem low_loop1 {u w:List UInt8} {l:List (List UInt8)} (hl:l.length≤1000) (hn:∀x∈l,(x.length:Int)≤maxI):loopS (step_data_Low_1 u w l) (l,(0,l))=some (l.map lowN):=by
 have hm:maxI=9223372036854775807:=rfl
 have:=loop_run (step:=step_data_Low_1 u w l) (t:=l.map lowN) (s:=fun i=>((l.take i).map lowN++l.drop i,((i:Int),(l.take i).map lowN++l.drop i))) l.length (fun i hi=>by
  obtain⟨x,hx⟩:∃x,l[i]? = some x:=⟨l[i],by simp[hi]⟩
  have hg:((l.take i).map lowN++l.drop i)[i]? = some x:=by
   rw[List.getElem?_append_right (by rw[List.length_map,List.length_take];omega),List.getElem?_drop]
   simp only[List.length_map,List.length_take]
   rw[Nat.min_eq_left (by omega),Nat.sub_self,Nat.add_zero,hx]
  simp only[step_data_Low_1,grdEq_self]
  rw[if_pos (by simp;omega),natOf_nat,hg,bnd_some,name_Low_eq (hn x (List.mem_of_getElem? hx)),bnd_some,natOf_nat,hg,bnd_some,map_set hx,wrap_id (by omega) (by omega)]
  rfl) (by
  simp only[step_data_Low_1,grdEq_self]
  rw[if_neg (by simp)]
  simp)
 simpa using this
theorem lowN_len (x:List UInt8):(lowN x).length≤x.length:=by
 unfold lowN
 split
 · rw[lowS_len];exact Nat.le_refl _
 · simp
theorem lowN_flat:∀l:List (List UInt8),((l.map lowN).flatten).length≤l.flatten.length
 | []=>by simp
 | x::l=>by
  have h1:=lowN_len x
  have h2:=lowN_flat l
  rw[List.map_cons,List.flatten_cons,List.flatten_cons,List.length_append,List.length_append]
  omega
theorem data_Low_eq {kind:Int} {d:List UInt8} (h:dataC kind d=true):F_data_Low kind d=some (lowD kind d):=by
 have hm:maxI=9223372036854775807:=rfl
 obtain⟨hl,he⟩:=dataC_iff h
 have hf:=(expS_form he).2
 obtain⟨v0,v1,v2,v3,v4,v5⟩:=shapeS_ok kind
 unfold F_data_Low lowD
 rw[data_Check_eq,bnd_some,h]
 simp only[Bool.not_true,Bool.false_eq_true,if_false,grdEq_self]
 rcases hf with ⟨hz,_⟩ | ⟨hz,A,l,C,rfl,hA,hll,hC,hnm⟩
 · have hq:shpF kind=none:=by rw[shpF_eq,if_pos hz]
   simp only[hq,Option.isSome_none,Bool.not_false,if_true,bnd_some,hz]
   rw[low_loop1 (by simp) (by simp),bnd_some]
   have:=whole_eq (p:=(d,([],[]))) (by simp) (by simp;omega)
   simp only[List.map_nil]
   rw[this,bnd_some]
   simp
 · have hq:=shpF_some hz
   simp only[hq,Option.isSome_some,Bool.not_true,Bool.false_eq_true,if_false,Option.getD_some,hz]
   have hdl:(A++(l.flatten++C)).length=A.length+l.flatten.length+C.length:=by simp only[List.length_append];omega
   have hnn:=namesW_plain l ((0:Int)+(A.length:Int)) (l.flatten++C).length C hnm ((takeS_app (takeS_self (A++(l.flatten++C)))).2)
   rw[hll,show (0:Int)+(A.length:Int)=(shapeS kind).1 by omega] at hnn
   rw[if_neg (by rw[wrap_id (by omega) (by omega)];simp only[Bool.not_eq_true',decide_eq_false_iff_not];omega),show (0:Int)+(shapeS kind).1=(shapeS kind).1 by omega,wrap_id (x:=(shapeS kind).1) (by omega) (by omega),natOf_pos (by omega),grdp (by omega),grdp (by omega)]
   generalize (sputM tI tK 33 (6,1,0) (sputM tI tK 15 (2,1,0) (sputM tI tK 6 (0,2,20) (sputM tI tK 12 (0,1,0) (sputM tI tK 5 (0,1,0) (sputM tI tK 2 (0,1,0) (sputM tI tK 28 (16,0,0) (sputM tI tK 1 (4,0,0) []))))))))=M
   obtain⟨l',hlp⟩:=low_names (msg:=A++(l.flatten++C)) (by omega) kind ((A++(l.flatten++C)).length:Int) rfl (shapeS kind).1.toNat M (shapeS kind) (by rw[hq];rfl) (shapeS kind).2.1.toNat (shapeS kind).1 0 [] (by omega) (by omega) (by omega) (by omega) (by simp)
   rw[hlp,bnd_some,hnn]
   simp only
   rw[if_pos (by omega)]
   simp only[List.nil_append,bnd_some]
   rw[grdp (Nat.le_refl _),natOf_pos (by omega),grdp (by omega)]
   simp only[bnd_some]
   have hll2:l.length≤2:=by omega
   rw[low_loop1 (by omega) (fun x hx=>by have:=(nameS_pos (hnm x hx)).2;omega),bnd_some]
   have hfl:=lowN_flat l
   rw[List.take_length]
   have:=whole_eq (p:=(List.drop 0 (List.take (shapeS kind).1.toNat (A++(l.flatten++C))),(List.drop ((shapeS kind).1+(l.flatten.length:Int)).toNat (A++(l.flatten++C)),l.map lowN))) (by simp only[List.length_map];omega) (by simp only[List.drop_zero,List.length_take,List.length_drop];omega)
   rw[this,bnd_some]
   simp
end Go.Abs

namespace Go.Abs
open Go
theorem scan_has {α τ:Type} [BEq α] [LawfulBEq α] [DecidableEq α] {f:Nat→α→Option τ} {v:α} {r:Nat→τ} {e:τ} (hf:∀i x,f i x=if x=v then some (r i) else none):∀(l:List α) (i:Nat),(l.contains v=false∧scanF f e i l=e)∨(l.contains v=true∧∃j,scanF f e i l=r j)
 | [],i=>.inl ⟨by simp,rfl⟩
 | x::l,i=>by
  unfold scanF
  rw[hf]
  by_cases h:x=v
  · rw[if_pos h]
    exact .inr ⟨by simp[h],i,rfl⟩
  · rw[if_neg h]
    have hc:(x::l).contains v=l.contains v:=by
     rw[List.contains_cons]
     have:(v==x)=false:=by simpa using fun e=>h e.symm
     rw[this,Bool.false_or]
    rw[hc]
    exact scan_has hf l (i+1)
theorem contains_eq {l:List (List UInt8)} (hl:(l.length:Int)≤maxI) (s:List UInt8):F_slices_Contains_string l s=some (l.contains s):=by
 have hm:maxI=9223372036854775807:=rfl
 unfold F_slices_Contains_string F_slices_Index_string
 have hloop:=loop_scan (l:=l) (step:=step_slices_Index_string_0 l s) (fun i x=>if x=s then some (Sum.inl (β:=Unit) (i:Int)) else none) (.inr ()) (fun i x hx=>by
  have hi:=(List.getElem?_eq_some_iff.1 hx).1
  simp only[step_slices_Index_string_0,grdEq_self]
  rw[if_pos (by simp;omega),natOf_nat,hx,bnd_some,wrap_id (by omega) (by omega)]
  by_cases h:x=s
  · simp[h]
  · have:(s==x)=false:=by simpa using fun e=>h e.symm
    simp[h,this]) (by
  simp only[step_slices_Index_string_0,grdEq_self]
  rw[if_neg (by simp)])
 rw[hloop,bnd_some]
 rcases scan_has (f:=fun i x=>if x=s then some (Sum.inl (β:=Unit) (i:Int)) else none) (v:=s) (r:=fun i=>Sum.inl (i:Int)) (e:=.inr ()) (fun i x=>rfl) l 0 with ⟨h1,h2⟩ | ⟨h1,j,h2⟩
 · rw[h1,h2];rfl
 · rw[h1,h2]
   simp only[bnd_some]
   simp
end Go.Abs

namespace Go.Abs
open Go
abbrev Se:=List UInt8×Int×Int×List (List UInt8)×Int
def dataI (kind:Int) (l:List (List UInt8)) (i:Nat) (x:List UInt8):Bool:=dataC kind x&&(lowD kind x==x)&&!((l.take i).contains x)
def datasR (kind:Int) (l:List (List UInt8)):Bool ⊕ Unit:=scanF (fun i x=>if dataI kind l i x then none else some (.inl false)) (.inr ()) 0 l
def datasC (kind:Int) (l:List (List UInt8)):Bool:=match datasR kind l with | .inr _=>true | .inl _=>false
theorem scan_val {β:Type} {ok:Nat→β→Bool}:∀(l:List β) (i:Nat),scanF (fun i x=>if ok i x then none else some (Sum.inl (β:=Unit) false)) (.inr ()) i l=.inr ()∨scanF (fun i x=>if ok i x then none else some (Sum.inl (β:=Unit) false)) (.inr ()) i l=.inl false
 | [],i=>.inl rfl
 | x::l,i=>by
  unfold scanF
  by_cases h:ok i x=true
  · rw[if_pos h];exact scan_val l (i+1)
  · rw[if_neg h];exact .inr rfl
theorem datasR_eq (kind:Int) (l:List (List UInt8)):datasR kind l=if datasC kind l then .inr () else .inl false:=by
 unfold datasC
 rcases scan_val (ok:=dataI kind l) l 0 with h | h
 · have:datasR kind l=.inr ():=h
   rw[this];rfl
 · have:datasR kind l=.inl false:=h
   rw[this];rfl
theorem scan_all {β:Type} {ok:Nat→β→Bool}:∀(l:List β) (i:Nat),scanF (fun i x=>if ok i x then none else some (Sum.inl (β:=Unit) false)) (.inr ()) i l=.inr ()→∀j x,l[j]? = some x→ok (i+j) x=true
 | [],i,_,j,x,h=>by simp at h
 | y::l,i,h,j,x,hx=>by
  unfold scanF at h
  by_cases hy:ok i y=true
  · rw[if_pos hy] at h
    cases j with
    | zero=>simp at hx;subst hx;exact hy
    | succ j =>
     have:=scan_all l (i+1) h j x (by simpa using hx)
     rwa [show i+1+j=i+(j+1) by omega] at this
  · rw[if_neg hy] at h;simp at h
theorem datasC_mem {kind:Int} {l:List (List UInt8)} (h:datasC kind l=true):∀x∈l,dataC kind x=true:=by
 intro x hx
 have hr:datasR kind l=.inr ():=by rw[datasR_eq,h];rfl
 obtain⟨j,hj,rfl⟩:=List.getElem_of_mem hx
 have:=scan_all (ok:=dataI kind l) l 0 hr j _ (List.getElem?_eq_getElem hj)
 unfold dataI at this
 simp only[Bool.and_eq_true] at this
 exact this.1.1
def setC (s:Se):Bool:=okA (s.1,s.2.1,s.2.2.1)&&inC s.2.2.2.2 2147483647&&datasC s.2.1 s.2.2.2.1&&decide (0<s.2.2.2.1.length)
def fewS (s:Se):Prop:=(s.1.length:Int)≤maxI∧s.2.2.2.1.length≤1000
theorem group_datas {s:Se} (hl:s.2.2.2.1.length≤1000):loopS (step_group_Check_0 s) 0=some (datasR s.2.1 s.2.2.2.1):=by
 have hm:maxI=9223372036854775807:=rfl
 refine loop_scan (l:=s.2.2.2.1) _ _ (fun i x hx=>?_) ?_
 · have hi:=(List.getElem?_eq_some_iff.1 hx).1
   simp only[step_group_Check_0,grdEq_self]
   rw[if_pos (by simp;omega),natOf_nat,hx,bnd_some,data_Check_eq,bnd_some,wrap_id (by omega) (by omega)]
   unfold dataI
   cases hc:dataC s.2.1 x with
   | false=>simp
   | true =>
    simp only[Bool.not_true,if_true]
    rw[data_Low_eq hc,bnd_some]
    cases hlo:(lowD s.2.1 x==x) with
    | false=>simp
    | true =>
     simp only[Bool.not_true,if_true]
     rw[natOf_nat,grdp (by omega),contains_eq (by simp;omega),bnd_some]
     cases (s.2.2.2.1.take i).contains x<;>simp
 · simp only[step_group_Check_0,grdEq_self]
   rw[if_neg (by simp)]
theorem group_Check_eq {s:Se} (h:fewS s):F_group_Check s=some (setC s):=by
 obtain⟨h1,h2⟩:=h
 unfold F_group_Check setC okA
 simp only[name_Check_eq h1,name_Low_eq h1,group_in_eq,bnd_some,grdEq_self,group_datas h2,datasR_eq]
 have e:decide ((0:Int)<(s.2.2.2.1.length:Int))=decide (0<s.2.2.2.1.length):=by rw[Bool.eq_iff_iff];simp
 rw[e]
 cases nameS s.1<;>cases (lowN s.1==s.1)<;>cases inC s.2.1 65535<;>cases inC s.2.2.1 65535<;>cases inC s.2.2.2.2 2147483647<;>cases datasC s.2.1 s.2.2.2.1<;>rfl
def recI (s:Se) (ttl:Int) (d:List UInt8):RRt:=(s.1,s.2.1,s.2.2.1,ttl,d)
def flatS (s:Se) (ttl turn:Int):List RRt :=
 if setC s=false∨inC ttl 2147483647=false∨turn<0 then [] else (rot s.2.2.2.1 (turn.toNat % s.2.2.2.1.length)).map (recI s ttl)
theorem flat_loop {s:Se} {ttl:Int} {R:List (List UInt8)} (hl:R.length≤1000):loopS (step_group_Flat_0 s ttl R) ([],(R,0))=some (R.map (recI s ttl)):=by
 have:=loop_run (step:=step_group_Flat_0 s ttl R) (t:=R.map (recI s ttl)) (s:=fun i=>((R.take i).map (recI s ttl),(R,(i:Int)))) R.length (fun i hi=>by
  obtain⟨x,hx⟩:∃x,R[i]? = some x:=⟨R[i],by simp[hi]⟩
  simp only[step_group_Flat_0,grdEq_self]
  rw[if_pos (by simp;omega),natOf_nat,hx,bnd_some,grdp (by unfold roomLim;simp;omega),wrap_id (by omega) (by omega),take_next hx]
  simp[recI]) (by
  simp only[step_group_Flat_0,grdEq_self]
  rw[if_neg (by simp)]
  simp)
 simpa using this
theorem group_Flat_eq {s:Se} (h:fewS s) (ttl turn:Int):F_group_Flat s ttl turn=some (flatS s ttl turn):=by
 obtain⟨h1,h2⟩:=h
 unfold F_group_Flat flatS
 have e:F_group_Check (s.fst,s.snd.fst,s.snd.snd.fst,s.snd.snd.snd.fst,s.snd.snd.snd.snd)=some (setC s):=group_Check_eq ⟨h1,h2⟩
 simp only[e,group_in_eq,bnd_some,grdEq_self]
 cases hc:setC s with
 | false=>simp[bnd_some]
 | true =>
  cases hi:inC ttl 2147483647 with
  | false=>simp[bnd_some]
  | true =>
   by_cases ht:turn<0
   · simp[ht,bnd_some]
   · have hpos:0<s.2.2.2.1.length:=by
      unfold setC at hc
      simp only[Bool.and_eq_true,decide_eq_true_eq] at hc
      exact hc.2
     have hat:=at_eq (turn:=turn) (n:=s.2.2.2.1.length) (by omega) hpos
     have hlt:turn.toNat % s.2.2.2.1.length<s.2.2.2.1.length:=Nat.mod_lt _ hpos
     simp only[Bool.not_true,if_true,ht,decide_false,Bool.false_eq_true,if_false,bnd_some]
     rw[if_neg (show ¬((s.2.2.2.1.length:Nat):Int)=0 by omega),hat,natOf_nat,grdp (by omega),natOf_nat,grdp (by omega)]
     generalize turn.toNat % s.2.2.2.1.length=a at *
     have d1:((List.drop a s.2.2.2.1).length:Int)=(s.2.2.2.1.length:Int)-a:=by rw[List.length_drop];omega
     have d2:((List.take a s.2.2.2.1).length:Int)=a:=by rw[List.length_take];omega
     have w1:IntKind.i64.wrap (0+((List.drop a s.2.2.2.1).length:Int))=(s.2.2.2.1.length:Int)-a:=by rw[d1,wrap_id (by omega) (by omega)];omega
     have w2:IntKind.i64.wrap ((s.2.2.2.1.length:Int)-a+((List.take a s.2.2.2.1).length:Int))=(s.2.2.2.1.length:Int):=by rw[d2,wrap_id (by omega) (by omega)];omega
     have w3:IntKind.i64.wrap ((s.2.2.2.1.length:Int)-0)=(s.2.2.2.1.length:Int):=by rw[wrap_id (by omega) (by omega)];omega
     simp only[w1,w2,w3]
     rw[if_neg (by simp;omega),if_neg (by simp),if_neg (by simp),bnd_some,if_pos (by simp;omega)]
     have l1:(List.drop a s.2.2.2.1).length≤1000:=by rw[List.length_drop];omega
     have l2:(List.take a s.2.2.2.1).length≤1000:=by rw[List.length_take];omega
     rw[grdp ⟨by omega,by omega,by omega⟩,grdp (by rw[List.length_replicate];unfold roomLim;omega),grdp (by omega),grdp (by simp only[List.take_zero,List.length_nil];unfold roomLim;omega),grdp (by simp only[List.take_zero,List.nil_append,List.length_append,List.length_nil];unfold roomLim;omega)]
     simp only[List.take_zero,List.nil_append,bnd_some]
     have:=flat_loop (s:=s) (ttl:=ttl) (R:=rot s.2.2.2.1 a) (by rw[rot_len];exact h2)
     unfold rot at this
     rw[this,bnd_some]
     simp[rot]
end Go.Abs

namespace Go.Abs
open Go
abbrev Hi:=List UInt8×Int×Int×List (List UInt8)×Int×Int
abbrev Ch:=List Hi×Int×List UInt8×Hi
def hitS (h:Hi):Se:=(h.1,h.2.1,h.2.2.1,h.2.2.2.1,h.2.2.2.2.1)
def smallS (s:Se):Bool:=s.2.2.2.1.all (fun x=>decide (x.length≤2000)&&decide (s.2.2.2.1.length≤60))&&decide (s.1.length≤300)
def smallC (c:Ch):Bool:=c.1.all (fun h=>smallS (hitS h))&&decide (c.1.length≤12)&&smallS (hitS c.2.2.2)
def okC (c:Ch):Prop:=(c.1.length:Int)≤maxI∧(∀h∈c.1,(h.2.2.2.1.length:Int)≤maxI)∧(c.2.2.2.2.2.2.1.length:Int)≤maxI
theorem smallS_iff {s:Se} (h:smallS s=true):s.2.2.2.1.length≤60∧(∀x∈s.2.2.2.1,x.length≤2000)∧s.1.length≤300:=by
 unfold smallS at h
 simp only[Bool.and_eq_true,List.all_eq_true,decide_eq_true_eq] at h
 refine⟨?_,fun x hx=>(h.1 x hx).1,h.2⟩
 cases hd:s.2.2.2.1 with
 | nil=>simp
 | cons x l=>rw[←hd];exact (h.1 x (by rw[hd];simp)).2
theorem ref10_Small_eq {s:Se} (hl:(s.2.2.2.1.length:Int)≤maxI):F_ref10_Small s=some (smallS s):=by
 have hm:maxI=9223372036854775807:=rfl
 unfold F_ref10_Small smallS
 obtain⟨r,r1,r2⟩:=all_loop (ok:=fun x:List UInt8=>decide (x.length≤2000)&&decide (s.2.2.2.1.length≤60)) (bad:=fun _=>false) (step:=step_ref10_Small_0 s) s.2.2.2.1 (by
  simp only[step_ref10_Small_0,grdEq_self]
  rw[if_neg (by simp)]) (fun i x hx=>by
  have hi:=(List.getElem?_eq_some_iff.1 hx).1
  simp only[step_ref10_Small_0,natOf_nat,hx,bnd_some,grdEq_self]
  rw[if_pos (by simp;omega),wrap_id (by omega) (by omega)]
  by_cases h1:x.length≤2000
  · have e1:¬(2000:Int)<(x.length:Int):=by omega
    by_cases h2:s.2.2.2.1.length≤60
    · have e2:¬(60:Int)<(s.2.2.2.1.length:Int):=by omega
      simp[h1,h2,e1,e2]
    · have e2:(60:Int)<(s.2.2.2.1.length:Int):=by omega
      simp[h1,h2,e1,e2]
  · have e1:(2000:Int)<(x.length:Int):=by omega
    simp[h1,e1])
 rw[r1,bnd_some]
 have e:decide ((s.1.length:Int)≤300)=decide (s.1.length≤300):=by rw[Bool.eq_iff_iff];simp;omega
 by_cases h:s.2.2.2.1.all (fun x:List UInt8=>decide (x.length≤2000)&&decide (s.2.2.2.1.length≤60))=true
 · rw[if_pos h] at r2;subst r2;simp only[h,e,Bool.true_and]
 · rw[if_neg h] at r2;obtain⟨_,rfl⟩:=r2
   simp only[Bool.not_eq_true] at h
   simp only[h,Bool.false_and]
theorem ref17_Small_eq {c:Ch} (hc:okC c):F_ref17_Small c=some (smallC c):=by
 have hm:maxI=9223372036854775807:=rfl
 obtain⟨c1,c2,c3⟩:=hc
 unfold F_ref17_Small smallC
 obtain⟨r,r1,r2⟩:=all_loop (ok:=fun h:Hi=>smallS (hitS h)) (bad:=fun _=>false) (step:=step_ref17_Small_0 c) c.1 (by
  simp only[step_ref17_Small_0,grdEq_self]
  rw[if_neg (by simp)]) (fun i x hx=>by
  have hi:=(List.getElem?_eq_some_iff.1 hx).1
  have e:F_ref10_Small (x.fst,x.snd.fst,x.snd.snd.fst,x.snd.snd.snd.fst,x.snd.snd.snd.snd.fst)=some (smallS (hitS x)):=ref10_Small_eq (c2 x (List.mem_of_getElem? hx))
  simp only[step_ref17_Small_0,natOf_nat,hx,bnd_some,grdEq_self,e]
  rw[if_pos (by simp;omega),wrap_id (by omega) (by omega)]
  cases smallS (hitS x)<;>simp)
 rw[r1,bnd_some]
 have e2:F_ref10_Small (c.snd.snd.snd.fst,c.snd.snd.snd.snd.fst,c.snd.snd.snd.snd.snd.fst,c.snd.snd.snd.snd.snd.snd.fst,c.snd.snd.snd.snd.snd.snd.snd.fst)=some (smallS (hitS c.2.2.2)):=ref10_Small_eq c3
 have e:decide ((c.1.length:Int)≤12)=decide (c.1.length≤12):=by rw[Bool.eq_iff_iff];simp;omega
 by_cases h:c.1.all (fun h:Hi=>smallS (hitS h))=true
 · rw[if_pos h] at r2;subst r2
   simp only[h,e,e2,grdEq_self,bnd_some,Bool.true_and]
   cases decide (c.1.length≤12)<;>simp
 · rw[if_neg h] at r2;obtain⟨_,rfl⟩:=r2
   simp only[Bool.not_eq_true] at h
   simp only[h,Bool.false_and]
theorem chain_eq {c:Ch} (hl:c.1.length≤12):F_law17_Chain c=some c:=by
 unfold F_law17_Chain
 have:=loop_run (step:=step_law17_Chain_0 c) (t:=c.1) (s:=fun i=>((i:Int),c.1.take i)) c.1.length (fun i hi=>by
  obtain⟨x,hx⟩:∃x,c.1[i]? = some x:=⟨c.1[i],by simp[hi]⟩
  simp only[step_law17_Chain_0,grdEq_self]
  rw[if_pos (by simp;omega),natOf_nat,hx,bnd_some,grdp (by unfold roomLim;simp;omega),wrap_id (by omega) (by omega),take_next hx]
  rfl) (by
  simp only[step_law17_Chain_0,grdEq_self]
  rw[if_neg (by simp)]
  simp)
 simp only[List.take_zero,Int.natCast_zero] at this
 rw[this,bnd_some]
def spansW (base:List UInt8):Nat→List RRt→List Sp
 | _,[]=>[]
 | a,r::l=>((a:Int),((a+(recE base 12 r).length:Nat):Int),(a:Int)+ttlS base 12 r)::spansW base (a+(recE base 12 r).length) l
theorem spansW_app {base:List UInt8} {r:RRt}:∀(l:List RRt) (a:Nat),spansW base a (l++[r])=spansW base a l++[(((a+(encs base l).length:Nat):Int),((a+(encs base l).length+(recE base 12 r).length:Nat):Int),((a+(encs base l).length:Nat):Int)+ttlS base 12 r)]
 | [],a=>by simp[spansW,encs]
 | x::l,a=>by
  rw[List.cons_append,spansW,spansW,spansW_app l,encs_cons,List.length_append,List.cons_append]
  simp only[Nat.add_assoc]
theorem spansW_len {base:List UInt8}:∀(l:List RRt) (a:Nat),(spansW base a l).length=l.length
 | [],a=>rfl
 | x::l,a=>by rw[spansW,List.length_cons,List.length_cons,spansW_len]
abbrev TP:=List UInt8×List Pc
def layS (base:List UInt8) (now:Int) (h:Hi) (soa:Bool) (t:TP):Option TP :=
 if flatS (hitS h) h.2.2.2.2.2 0=[]∨h.2.2.2.2.2<1∨604800<h.2.2.2.2.2 then none
 else some (t.1++encs base (flatS (hitS h) h.2.2.2.2.2 0),t.2++[(spansW base t.1.length (flatS (hitS h) h.2.2.2.2.2 0),now+h.2.2.2.2.2,soa)])
def makeL (base:List UInt8) (now:Int):List Hi→TP→Option TP
 | [],t=>some t
 | h::l,t=>match layS base now h false t with
  | some t=>makeL base now l t
  | none=>none
def tt0:Tt:=([],0,0,0,[],[])
def makeS (now:Int) (q:Qq) (c:Ch):Tt×Bool :=
 if (c.2.1=0∨c.2.1=1∨c.2.1=2)∧timeS now=true∧okA q=true then
  match makeL q.1 now c.1 ([],[]) with
  | none=>(tt0,false)
  | some t=>if c.2.1=0 then ((q.1,q.2.1,q.2.2,0,t.1,t.2),true) else
   match layS q.1 now c.2.2.2 true t with
   | none=>(tt0,false)
   | some t=>((q.1,q.2.1,q.2.2,if c.2.1=2 then 3 else 0,t.1,t.2),true)
 else (tt0,false)
theorem flatS_mem {s:Se} {ttl turn:Int} {r:RRt} (hs:smallS s=true) (h:r∈flatS s ttl turn):goodR r∧r.1.length≤255∧∃d∈s.2.2.2.1,r=recI s ttl d:=by
 unfold flatS at h
 split at h
 · simp at h
 · rename_i hc
   simp only[not_or,Bool.not_eq_false] at hc
   obtain⟨d,hd,rfl⟩:=List.mem_map.1 h
   have hd:=rot_mem hd
   obtain⟨s1,s2,s3⟩:=smallS_iff hs
   have hset:=hc.1
   unfold setC okA at hset
   simp only[Bool.and_eq_true] at hset
   have hnm:=hset.1.1.1.1.1.1
   have hdc:=datasC_mem hset.1.2 d hd
   refine⟨⟨s3,s2 d hd,?_⟩,(nameS_pos hnm).2,d,hd,rfl⟩
   unfold recC recI
   simp only[Bool.and_eq_true]
   exact⟨⟨⟨⟨hnm,hset.1.1.1.1.2⟩,hset.1.1.1.2⟩,hc.2.1⟩,hdc⟩
theorem flatS_len {s:Se} {ttl turn:Int} (hs:smallS s=true):(flatS s ttl turn).length≤60:=by
 obtain⟨s1,s2,s3⟩:=smallS_iff hs
 unfold flatS
 split
 · simp
 · rw[List.length_map,rot_len];exact s1
theorem ttlS_bound (base:List UInt8) (r:RRt):-1≤ttlS base 12 r∧ttlS base 12 r≤261:=by
 unfold ttlS
 have:=writeS_len base r.1 12
 split<;>omega
theorem make_loop1 {now:Int} {q:Qq} {c:Ch} {code:Int} {x:Hi} {text:List UInt8} {ps:List Pc} {l:List RRt} (hq:(q.1.length:Int)≤maxI) (ht:text.length≤3000000) (hl:l.length≤60) (hg:∀r∈l,goodR r) :
 loopS (step_tmpl_Make_1 now q c code x l) (0,(text,(ps,[])))=some (text++encs q.1 l,(ps,spansW q.1 text.length l)):=by
 have hm:maxI=9223372036854775807:=rfl
 have:=loop_run (step:=step_tmpl_Make_1 now q c code x l) (t:=(text++encs q.1 l,(ps,spansW q.1 text.length l))) (s:=fun i=>((i:Int),(text++encs q.1 (l.take i),(ps,spansW q.1 text.length (l.take i))))) l.length (fun i hi=>by
  obtain⟨r,hr⟩:∃r,l[i]? = some r:=⟨l[i],by simp[hi]⟩
  have hgr:=hg r (List.mem_of_getElem? hr)
  have he:(encs q.1 (l.take i)).length≤2267*60:=by
   have h1:=encs_len (base:=q.1) (l:=l.take i) (fun r hr=>hg r (List.mem_of_mem_take hr))
   have h2:(l.take i).length≤60:=by rw[List.length_take];omega
   have:=Nat.mul_le_mul_left 2267 h2
   omega
  have hrl:=recE_len (base:=q.1) (r:=r)
  have hb:=ttlS_bound q.1 r
  have h1:=hgr.1
  have h2:=hgr.2.1
  have e1:F_record_Encode q.fst 12 (r.fst,r.snd.fst,r.snd.snd.fst,r.snd.snd.snd.fst,r.snd.snd.snd.snd)=some (recE q.1 12 r):=record_Encode_eq (r:=r) hq (by omega) 12
  have e2:F_record_TTL q.fst 12 (r.fst,r.snd.fst,r.snd.snd.fst,r.snd.snd.snd.fst,r.snd.snd.snd.snd)=some (ttlS q.1 12 r):=record_TTL_eq (r:=r) hq (by omega) 12
  simp only[step_tmpl_Make_1,grdEq_self]
  rw[if_pos (by simp;omega),natOf_nat,hr,bnd_some,e1,bnd_some,grdp (by unfold maxStr;rw[List.length_append];omega),e2,bnd_some,grdp (by unfold roomLim;rw[List.length_append,spansW_len,List.length_take];simp;omega),wrap_id (x:=(i:Int)+1) (by omega) (by omega),wrap_id (by rw[List.length_append];omega) (by rw[List.length_append];omega),take_next hr,spansW_app,encs_app]
  simp[encs,Nat.add_assoc]) (by
  simp only[step_tmpl_Make_1,grdEq_self]
  rw[if_neg (by simp),List.take_length])
 simpa[spansW,encs] using this
theorem make_loop2 {now:Int} {q:Qq} {c:Ch} {code:Int} {text:List UInt8} {ps:List Pc} {l:List RRt} (hq:(q.1.length:Int)≤maxI) (ht:text.length≤3000000) (hl:l.length≤60) (hg:∀r∈l,goodR r) :
 loopS (step_tmpl_Make_2 now q c code l) (0,(text,(ps,[])))=some (text++encs q.1 l,(ps,spansW q.1 text.length l)):=by
 have hm:maxI=9223372036854775807:=rfl
 have:=loop_run (step:=step_tmpl_Make_2 now q c code l) (t:=(text++encs q.1 l,(ps,spansW q.1 text.length l))) (s:=fun i=>((i:Int),(text++encs q.1 (l.take i),(ps,spansW q.1 text.length (l.take i))))) l.length (fun i hi=>by
  obtain⟨r,hr⟩:∃r,l[i]? = some r:=⟨l[i],by simp[hi]⟩
  have hgr:=hg r (List.mem_of_getElem? hr)
  have he:(encs q.1 (l.take i)).length≤2267*60:=by
   have h1:=encs_len (base:=q.1) (l:=l.take i) (fun r hr=>hg r (List.mem_of_mem_take hr))
   have h2:(l.take i).length≤60:=by rw[List.length_take];omega
   have:=Nat.mul_le_mul_left 2267 h2
   omega
  have hrl:=recE_len (base:=q.1) (r:=r)
  have hb:=ttlS_bound q.1 r
  have h1:=hgr.1
  have h2:=hgr.2.1
  have e1:F_record_Encode q.fst 12 (r.fst,r.snd.fst,r.snd.snd.fst,r.snd.snd.snd.fst,r.snd.snd.snd.snd)=some (recE q.1 12 r):=record_Encode_eq (r:=r) hq (by omega) 12
  have e2:F_record_TTL q.fst 12 (r.fst,r.snd.fst,r.snd.snd.fst,r.snd.snd.snd.fst,r.snd.snd.snd.snd)=some (ttlS q.1 12 r):=record_TTL_eq (r:=r) hq (by omega) 12
  simp only[step_tmpl_Make_2,grdEq_self]
  rw[if_pos (by simp;omega),natOf_nat,hr,bnd_some,e1,bnd_some,grdp (by unfold maxStr;rw[List.length_append];omega),e2,bnd_some,grdp (by unfold roomLim;rw[List.length_append,spansW_len,List.length_take];simp;omega),wrap_id (x:=(i:Int)+1) (by omega) (by omega),wrap_id (by rw[List.length_append];omega) (by rw[List.length_append];omega),take_next hr,spansW_app,encs_app]
  simp[encs,Nat.add_assoc]) (by
  simp only[step_tmpl_Make_2,grdEq_self]
  rw[if_neg (by simp),List.take_length])
 simpa[spansW,encs] using this
end Go.Abs

namespace Go.Abs
open Go
theorem layS_none {base:List UInt8} {now:Int} {h:Hi} {soa:Bool} {t:TP} (hn:flatS (hitS h) h.2.2.2.2.2 0=[]∨h.2.2.2.2.2<1∨604800<h.2.2.2.2.2):layS base now h soa t=none:=by
 unfold layS;rw[if_pos hn]
theorem layS_some {base:List UInt8} {now:Int} {h:Hi} {soa:Bool} {t:TP} (hn:¬(flatS (hitS h) h.2.2.2.2.2 0=[]∨h.2.2.2.2.2<1∨604800<h.2.2.2.2.2)) :
 layS base now h soa t=some (t.1++encs base (flatS (hitS h) h.2.2.2.2.2 0),t.2++[(spansW base t.1.length (flatS (hitS h) h.2.2.2.2.2 0),now+h.2.2.2.2.2,soa)]):=by
 unfold layS;rw[if_neg hn]
theorem encs_flat_len {base:List UInt8} {s:Se} {ttl turn:Int} (hs:smallS s=true):(encs base (flatS s ttl turn)).length≤136020:=by
 have h1:=encs_len (base:=base) (l:=flatS s ttl turn) (fun r hr=>(flatS_mem hs hr).1)
 have h2:=flatS_len (ttl:=ttl) (turn:=turn) hs
 have:=Nat.mul_le_mul_left 2267 h2
 omega
theorem layS_len {base:List UInt8} {now:Int} {h:Hi} {soa:Bool} {t t':TP} (hs:smallS (hitS h)=true) (hl:layS base now h soa t=some t'):t'.1.length≤t.1.length+136020∧t'.2.length=t.2.length+1:=by
 unfold layS at hl
 split at hl
 · simp at hl
 · simp only[Option.some.injEq] at hl
   subst hl
   have:=encs_flat_len (base:=base) (ttl:=h.2.2.2.2.2) (turn:=0) hs
   constructor
   · show (t.1++encs base (flatS (hitS h) h.2.2.2.2.2 0)).length≤_
     rw[List.length_append];omega
   · show (t.2++[_]).length=_
     rw[List.length_append];rfl
theorem make_loop0 {now:Int} {q:Qq} {c:Ch} {code:Int} (hq:(q.1.length:Int)≤maxI) (htm:timeS now=true) (hc:c.1.length≤12) (hs:∀h∈c.1,smallS (hitS h)=true):∀(v u:List Hi) (t:TP),c.1=u++v→t.1.length≤136020*u.length→t.2.length≤u.length →
 ∃r,loopS (step_tmpl_Make_0 now q c code) ((u.length:Int),(t.1,t.2))=some r∧(match makeL q.1 now v t with | some t'=>r=.inl (t'.1,t'.2)∧t'.1.length≤136020*c.1.length∧t'.2.length≤c.1.length | none=>∃a b,r=.inr (false,(a,b))):=by
 have hm:maxI=9223372036854775807:=rfl
 have htm2:0≤now∧now≤1099511627776:=by
  unfold timeS inC at htm
  simpa using htm
 intro v
 induction v with
 | nil =>
  intro u t hu h1 h2
  rw[List.append_nil] at hu
  refine⟨.inl (t.1,t.2),loopS_out ?_,⟨rfl,by rw[hu];exact h1,by rw[hu];exact h2⟩⟩
  simp only[step_tmpl_Make_0,grdEq_self]
  rw[if_neg (by rw[hu];simp)]
 | cons x v ih =>
  intro u t hu h1 h2
  have hx:c.1[u.length]? = some x:=by rw[hu];simp
  have hmem:x∈c.1:=List.mem_of_getElem? hx
  have hsx:=hs x hmem
  obtain⟨s1,s2,s3⟩:=smallS_iff hsx
  have hi:=(List.getElem?_eq_some_iff.1 hx).1
  have ef:F_group_Flat (x.fst,x.snd.fst,x.snd.snd.fst,x.snd.snd.snd.fst,x.snd.snd.snd.snd.fst) x.snd.snd.snd.snd.snd 0=some (flatS (hitS x) x.2.2.2.2.2 0):=group_Flat_eq (s:=hitS x) ⟨by have:(hitS x).1.length≤300:=s3;omega,by omega⟩ _ _
  have hcl:decide ((u.length:Int)<(c.1.length:Int))=true:=by simp;omega
  by_cases hn:flatS (hitS x) x.2.2.2.2.2 0=[]∨x.2.2.2.2.2<1∨604800<x.2.2.2.2.2
  · refine⟨.inr (false,(t.1,t.2)),loopS_out ?_,by simp only[makeL,layS_none hn];exact⟨_,_,rfl⟩⟩
    simp only[step_tmpl_Make_0,grdEq_self,hcl,if_true,natOf_nat,hx,bnd_some,ef,len0]
    by_cases c1:flatS (hitS x) x.2.2.2.2.2 0=[]
    · simp[c1,bnd_some]
    · by_cases c2:x.2.2.2.2.2<1
      · simp[c1,c2,bnd_some]
      · have c3:604800<x.2.2.2.2.2:=by
         rcases hn with h | h | h
         · exact absurd h c1
         · exact absurd h c2
         · exact h
        simp[c1,c2,c3,bnd_some]
  · have hlay:=layS_some (base:=q.1) (now:=now) (soa:=false) (t:=t) hn
    obtain⟨l1,l2⟩:=layS_len hsx hlay
    have hul:(u++[x]).length=u.length+1:=by simp
    obtain⟨r,r1,r2⟩:=ih (u++[x]) _ (by rw[hu];simp) (by rw[hul];exact Nat.le_trans l1 (by omega)) (by rw[hul];exact Nat.le_trans (Nat.le_of_eq l2) (by omega))
    refine⟨r,?_,by simp only[makeL,hlay];exact r2⟩
    rw[loopS_next (y:=(((u++[x]).length:Int),(t.1++encs q.1 (flatS (hitS x) x.2.2.2.2.2 0),t.2++[(spansW q.1 t.1.length (flatS (hitS x) x.2.2.2.2.2 0),now+x.2.2.2.2.2,false)])))]
    · exact r1
    · have hg:=make_loop1 (now:=now) (q:=q) (c:=c) (code:=code) (x:=x) (text:=t.1) (ps:=t.2) (l:=flatS (hitS x) x.2.2.2.2.2 0) hq (by omega) (flatS_len hsx) (fun r hr=>(flatS_mem hsx hr).1)
      simp only[not_or,Int.not_lt] at hn
      simp only[step_tmpl_Make_0,grdEq_self,hcl,if_true,natOf_nat,hx,bnd_some,ef,len0]
      have n1:¬x.2.2.2.2.2<1:=by omega
      have n2:¬604800<x.2.2.2.2.2:=by omega
      have n0:¬(flatS (hitS x) x.2.2.2.2.2 0).length=0:=by simpa using hn.1
      simp only[n0,n1,n2,decide_false,Bool.false_eq_true,if_true,if_false,bnd_some,hg]
      rw[grdp (by unfold roomLim;simp;omega),wrap_id (x:=now+x.2.2.2.2.2) (by omega) (by omega),wrap_id (x:=(u.length:Int)+1) (by omega) (by omega)]
      simp
theorem tmpl_Make_eq {now:Int} {q:Qq} {c:Ch} (hq:(q.1.length:Int)≤maxI) (hc:smallC c=true):F_tmpl_Make now q c=some (makeS now q c):=by
 have hm:maxI=9223372036854775807:=rfl
 unfold smallC at hc
 simp only[Bool.and_eq_true,List.all_eq_true,decide_eq_true_eq] at hc
 obtain⟨⟨h1,h2⟩,h3⟩:=hc
 unfold F_tmpl_Make makeS
 have ea:F_tmpl_asked (q.fst,q.snd.fst,q.snd.snd)=some (okA q):=tmpl_asked_eq hq
 have eall:∀code:Int,(bnd (α:=(Bool ⊕ Unit)) (bnd (F_tmpl_in now 1099511627776) fun v7=>if (!v7)=false then bnd (F_tmpl_asked (q.fst,q.snd.fst,q.snd.snd)) fun v8=>if (!v8)=true then some (.inl false) else some (.inr ()) else some (.inl false)) fun o=>some o)=some (if timeS now=true∧okA q=true then .inr () else .inl false):=by
  intro code
  rw[ea,tmpl_in_eq,bnd_some,bnd_some]
  have:inC now 1099511627776=timeS now:=rfl
  rw[this]
  cases timeS now<;>cases okA q<;>rfl
 obtain⟨z1,z2,z3⟩:=smallS_iff h3
 have ef:F_group_Flat (c.snd.snd.snd.fst,c.snd.snd.snd.snd.fst,c.snd.snd.snd.snd.snd.fst,c.snd.snd.snd.snd.snd.snd.fst,c.snd.snd.snd.snd.snd.snd.snd.fst) c.snd.snd.snd.snd.snd.snd.snd.snd 0=some (flatS (hitS c.2.2.2) c.2.2.2.2.2.2.2.2 0):=group_Flat_eq (s:=hitS c.2.2.2) ⟨by have:(hitS c.2.2.2).1.length≤300:=z3;omega,by omega⟩ _ _
 simp only[grdEq_self]
 by_cases he:c.2.1=0∨c.2.1=1∨c.2.1=2
 ·
  have hcode:(bnd (α:=(Int ⊕ Bool)) (bnd (α:=Bool) (if (c.snd.fst==0)=true then some (c.snd.fst==0) else some (c.snd.fst==1)) fun s16_4=>if s16_4=true then some (.inl 0) else if (c.snd.fst==2)=true then some (.inl 3) else some (.inr false)) fun o=>some o)=some (.inl (if c.2.1=2 then 3 else 0)):=by
   rcases he with h | h | h<;>simp[h,bnd_some]
  have hcode':(bnd (α:=Bool) (if (c.snd.fst==0)=true then some (c.snd.fst==0) else some (c.snd.fst==1)) fun s16_4=>if s16_4=true then some (Sum.inl (β:=Bool) (0:Int)) else if (c.snd.fst==2)=true then some (.inl 3) else some (.inr false))=some (.inl (if c.2.1=2 then 3 else 0)):=by
   rcases he with h | h | h<;>simp[h,bnd_some]
  rw[hcode',bnd_some]
  simp only[tmpl_in_eq,ea,bnd_some]
  have et:inC now 1099511627776=timeS now:=rfl
  rw[et]
  cases htm:timeS now with
  | false=>simp[bnd_some,tt0]
  | true =>
   cases hok:okA q with
   | false=>simp[bnd_some,tt0]
   | true =>
    simp only[Bool.not_true,Bool.false_eq_true,if_true,if_false,bnd_some,he,and_self]
    obtain⟨r,r1,r2⟩:=make_loop0 (code:=if c.2.1=2 then 3 else 0) hq htm h2 h1 c.1 [] ([],[]) rfl (by simp) (by simp)
    simp only[List.length_nil,Int.natCast_zero] at r1
    rw[r1,bnd_some]
    cases hmk:makeL q.1 now c.1 ([],[]) with
    | none =>
     rw[hmk] at r2
     obtain⟨a,b,rfl⟩:=r2
     simp[tt0]
    | some t =>
     rw[hmk] at r2
     obtain⟨rfl,b1,b2⟩:=r2
     simp only
     by_cases e0:c.2.1=0
     · have e2:¬c.2.1=2:=by omega
       simp[e0]
     · have e0':(c.2.1 != 0)=true:=by simpa using e0
       rw[if_pos e0',if_neg e0,ef,bnd_some,len0]
       have htm2:0≤now∧now≤1099511627776:=by
        unfold timeS inC at htm
        simpa using htm
       by_cases hn:flatS (hitS c.2.2.2) c.2.2.2.2.2.2.2.2 0=[]∨c.2.2.2.2.2.2.2.2<1∨604800<c.2.2.2.2.2.2.2.2
       · rw[layS_none hn]
         by_cases c1:flatS (hitS c.2.2.2) c.2.2.2.2.2.2.2.2 0=[]
         · simp[c1,bnd_some,tt0]
         · by_cases c2:c.2.2.2.2.2.2.2.2<1
           · simp[c1,c2,bnd_some,tt0]
           · have c3:604800<c.2.2.2.2.2.2.2.2:=by
              rcases hn with h | h | h
              · exact absurd h c1
              · exact absurd h c2
              · exact h
             simp[c1,c2,c3,bnd_some,tt0]
       · rw[layS_some hn]
         simp only[not_or,Int.not_lt] at hn
         have n1:¬c.2.2.2.2.2.2.2.2<1:=by omega
         have n2:¬604800<c.2.2.2.2.2.2.2.2:=by omega
         have n0:¬(flatS (hitS c.2.2.2) c.2.2.2.2.2.2.2.2 0).length=0:=by simpa using hn.1
         have hg:=make_loop2 (now:=now) (q:=q) (c:=c) (code:=if c.2.1=2 then 3 else 0) (text:=t.1) (ps:=t.2) (l:=flatS (hitS c.2.2.2) c.2.2.2.2.2.2.2.2 0) hq (by omega) (flatS_len h3) (fun r hr=>(flatS_mem h3 hr).1)
         simp only[n0,n1,n2,decide_false,Bool.false_eq_true,if_true,if_false,bnd_some,hg]
         rw[grdp (by unfold roomLim;simp;omega),wrap_id (x:=now+c.2.2.2.2.2.2.2.2) (by omega) (by omega)]
 · have hcode':(bnd (α:=Bool) (if (c.snd.fst==0)=true then some (c.snd.fst==0) else some (c.snd.fst==1)) fun s16_4=>if s16_4=true then some (Sum.inl (β:=Bool) (0:Int)) else if (c.snd.fst==2)=true then some (.inl 3) else some (.inr false))=some (.inr false):=by
    simp only[not_or] at he
    simp[he.1,he.2.1,he.2.2,bnd_some]
   rw[hcode',bnd_some,if_neg (by rintro⟨h,_⟩;exact he h)]
   rfl
end Go.Abs

namespace Go.Abs
open Go
def covW:Int→List Sp→Int→Prop
 | a,[],b=>a=b
 | a,s::l,b=>s.1=a∧0≤s.1∧s.1≤4000000∧s.1≤s.2.1∧s.1+5≤s.2.2∧covW s.2.1 l b
def covP:Int→List Pc→Int→Prop
 | a,[],b=>a=b
 | a,p::l,b=>∃m,covW a p.1 m∧covP m l b
theorem covP_app:∀{l:List Pc} {a b c:Int} {p:Pc},covP a l b→covW b p.1 c→covP a (l++[p]) c
 | [],a,b,c,p,h,h2=>by
  have:a=b:=h
  subst this
  exact⟨c,h2,rfl⟩
 | x::l,a,b,c,p,⟨m,h1,h2⟩,h3=>⟨m,h1,covP_app h2 h3⟩
theorem recE_pos {base:List UInt8} {r:RRt} (hb:nameS base=true) (hr:recC r=true):recE base 12 r≠[]:=fun h=>by
 rcases recE_nil.1 h with h | h
 · rw[hr] at h;cases h
 · rw[hb] at h;cases h
theorem ttlS_pos {base:List UInt8} {r:RRt} (hb:nameS base=true) (hr:recC r=true):5≤ttlS base 12 r:=by
 unfold ttlS
 rw[if_neg (recE_pos hb hr)]
 have:=List.length_pos_iff.2 (writeS_ne hb (recC_iff hr).1)
 omega
theorem spansW_cov {base:List UInt8} (hb:nameS base=true):∀(l:List RRt) (a:Nat),(∀r∈l,goodR r)→a+2267*l.length≤4000000→covW (a:Int) (spansW base a l) ((a+(encs base l).length:Nat):Int)
 | [],a,_,_=>by simp[spansW,covW,encs]
 | r::l,a,h,hl=>by
  have hr:=h r (by simp)
  have h1:=ttlS_pos hb hr.2.2
  have h2:=recE_len (base:=base) (r:=r)
  have h3:=hr.2.1
  rw[List.length_cons] at hl
  have ih:=spansW_cov hb l (a+(recE base 12 r).length) (fun r hr=>h r (by simp[hr])) (by omega)
  rw[spansW,encs_cons,List.length_append]
  refine⟨rfl,by simp only;omega,by simp only;omega,by simp only;omega,by simp only;omega,?_⟩
  rw[←Nat.add_assoc]
  exact ih
theorem okA_name {q:Qq} (h:okA q=true):nameS q.1=true:=by
 unfold okA at h
 simp only[Bool.and_eq_true] at h
 exact h.1.1.1
theorem layS_cov {base:List UInt8} {now:Int} {h:Hi} {soa:Bool} {t t':TP} (hb:nameS base=true) (hs:smallS (hitS h)=true) (ht:t.1.length≤3000000) (hc:covP 0 t.2 (t.1.length:Int)) (hl:layS base now h soa t=some t') :
 covP 0 t'.2 (t'.1.length:Int)∧∃sp u,t'.2=t.2++[(sp,u,soa)]∧sp.length≤60:=by
 unfold layS at hl
 split at hl
 · simp at hl
 · simp only[Option.some.injEq] at hl
   subst hl
   have hlen:=flatS_len (ttl:=h.2.2.2.2.2) (turn:=0) hs
   have:=spansW_cov hb (flatS (hitS h) h.2.2.2.2.2 0) t.1.length (fun r hr=>(flatS_mem hs hr).1) (by omega)
   refine⟨?_,_,_,rfl,by rw[spansW_len];exact hlen⟩
   show covP 0 (t.2++[_]) ((t.1++encs base (flatS (hitS h) h.2.2.2.2.2 0)).length:Int)
   rw[List.length_append]
   exact covP_app hc this
structure Made (t:TP) (n:Nat):Prop where
 cov:covP 0 t.2 (t.1.length:Int)
 len:t.1.length≤136020*n
 num:t.2.length=n
 few:∀p∈t.2,p.1.length≤60
theorem layS_made {base:List UInt8} {now:Int} {h:Hi} {soa:Bool} {t t':TP} {n:Nat} (hn:n≤20) (hb:nameS base=true) (hs:smallS (hitS h)=true) (hm:Made t n) (hl:layS base now h soa t=some t') :
 Made t' (n+1)∧∃sp u,t'.2=t.2++[(sp,u,soa)]:=by
 obtain⟨l1,l2⟩:=layS_len hs hl
 have:=hm.len
 obtain⟨c1,sp,u,c2,c3⟩:=layS_cov hb hs (by omega) hm.cov hl
 refine⟨⟨c1,by omega,by rw[l2,hm.num],fun p hp=>?_⟩,sp,u,c2⟩
 rw[c2] at hp
 rcases List.mem_append.1 hp with hp | hp
 · exact hm.few p hp
 · simp only[List.mem_singleton] at hp;subst hp;exact c3
theorem makeL_made {base:List UInt8} {now:Int} (hb:nameS base=true):∀(l:List Hi) (n:Nat) (t t':TP),n+l.length≤20→(∀h∈l,smallS (hitS h)=true)→Made t n→(∀p∈t.2,p.2.2=false)→makeL base now l t=some t' →
 Made t' (n+l.length)∧(∀p∈t'.2,p.2.2=false)
 | [],n,t,t',_,_,hm,hf,h=>by
  simp only[makeL,Option.some.injEq] at h
  subst h
  exact⟨hm,hf⟩
 | x::l,n,t,t',hn,hs,hm,hf,h=>by
  simp only[makeL] at h
  rw[List.length_cons] at hn
  cases hl:layS base now x false t with
  | none=>rw[hl] at h;simp at h
  | some t1 =>
   rw[hl] at h
   obtain⟨m1,sp,u,e⟩:=layS_made (by omega) hb (hs x (by simp)) hm hl
   have:=makeL_made hb l (n+1) t1 t' (by omega) (fun h hh=>hs h (by simp[hh])) m1 (fun p hp=>by
    rw[e] at hp
    rcases List.mem_append.1 hp with hp | hp
    · exact hf p hp
    · simp only[List.mem_singleton] at hp;subst hp;rfl) h
   rw[List.length_cons,show n+(l.length+1)=n+1+l.length by omega]
   exact this
theorem smallC_iff {c:Ch} (h:smallC c=true):c.1.length≤12∧(∀h∈c.1,smallS (hitS h)=true)∧smallS (hitS c.2.2.2)=true:=by
 unfold smallC at h
 simp only[Bool.and_eq_true,List.all_eq_true,decide_eq_true_eq] at h
 exact⟨h.1.2,h.1.1,h.2⟩
theorem makeS_made {now:Int} {q:Qq} {c:Ch} (hs:smallC c=true):makeS now q c=(tt0,false) ∨
 ∃(code:Int) (t t0:TP),makeS now q c=((q.1,q.2.1,q.2.2,code,t.1,t.2),true)∧timeS now=true∧okA q=true∧makeL q.1 now c.1 ([],[])=some t0∧Made t0 c.1.length∧(∀p∈t0.2,p.2.2=false) ∧
  ((c.2.1=0∧code=0∧t=t0)∨(c.2.1≠0∧layS q.1 now c.2.2.2 true t0=some t∧Made t (c.1.length+1)∧∃sp u,t.2=t0.2++[(sp,u,true)])):=by
 obtain⟨h1,h2,h3⟩:=smallC_iff hs
 unfold makeS
 split
 · rename_i hc
   obtain⟨e,htm,hok⟩:=hc
   have hb:=okA_name hok
   cases hmk:makeL q.1 now c.1 ([],[]) with
   | none=>exact .inl rfl
   | some t0 =>
    obtain⟨m1,m2⟩:=makeL_made hb c.1 0 ([],[]) t0 (by omega) h2 ⟨rfl,by simp,rfl,by simp⟩ (by simp) hmk
    rw[Nat.zero_add] at m1
    simp only
    by_cases e0:c.2.1=0
    · rw[if_pos e0]
      exact .inr ⟨0,t0,t0,rfl,htm,hok,rfl,m1,m2,.inl ⟨e0,rfl,rfl⟩⟩
    · rw[if_neg e0]
      cases hl:layS q.1 now c.2.2.2 true t0 with
      | none=>exact .inl rfl
      | some t =>
       obtain⟨n1,sp,u,n2⟩:=layS_made (by omega) hb h3 m1 hl
       exact .inr ⟨_,t,t0,rfl,htm,hok,rfl,m1,m2,.inr ⟨e0,hl,n1,sp,u,n2⟩⟩
 · exact .inl rfl
end Go.Abs

namespace Go.Abs
open Go
@[reducible] def tHi:Ty:=(.agg (.cons .str (.cons (.int .i64) (.cons (.int .i64) (.cons (.list .str) (.cons (.int .i64) (.int .i64)))))))
@[reducible] def tCh:Ty:=(.agg (.cons (.list tHi) (.cons (.int .i64) (.cons .str (.cons .str (.cons (.int .i64) (.cons (.int .i64) (.cons (.list .str) (.cons (.int .i64) (.int .i64))))))))))
theorem okC_of {c:Ch} (w:wfd tCh c):okC c:=by
 have hl:maxLen=9223372036854775807:=rfl
 have hm:maxI=9223372036854775807:=rfl
 obtain⟨⟨w1,w2⟩,_,_,_,_,_,⟨w3,_⟩,_⟩:=w
 rw[hl] at w1 w3
 refine⟨by omega,fun h hh=>?_,by omega⟩
 obtain⟨_,_,_,⟨w4,_⟩,_⟩:=w2 h hh
 rw[hl] at w4
 omega
end Go.Abs

namespace Go.Abs
open Go
theorem tailE_len (r:RRt):(tailE r).length=10+r.2.2.2.2.length:=by
 unfold tailE put2 put4
 simp only[List.length_append,List.length_cons,List.length_nil]
theorem ttlS_rec {base:List UInt8} {r:RRt} (hb:nameS base=true) (hr:recC r=true):ttlS base 12 r+6≤(recE base 12 r).length∧0≤ttlS base 12 r:=by
 have hne:=recE_pos hb hr
 have h1:=(recE_ne hne).2.2
 have h2:=ttlS_pos hb hr
 have h3:ttlS base 12 r=(writeS base 12 r.1).length+4:=by unfold ttlS;rw[if_neg hne]
 have h4:=tailE_len r
 rw[h1,List.length_append,h4,h3]
 omega
theorem spanC_mono {n m:Nat} {s:Sp} (h:n≤m) (hs:spanC n s=true):spanC m s=true:=by
 have:=spanC_iff.1 hs
 exact spanC_iff.2 (by omega)
theorem pieceC_mono {n m:Nat} {p:Pc} (h:n≤m) (hs:pieceC n p=true):pieceC m p=true:=by
 unfold pieceC at hs ⊢
 simp only[Bool.and_eq_true,List.all_eq_true] at hs ⊢
 exact⟨hs.1,fun s hh=>spanC_mono h (hs.2 s hh)⟩
theorem spansW_ok {base:List UInt8} (hb:nameS base=true):∀(l:List RRt) (a n:Nat),(∀r∈l,goodR r)→a+(encs base l).length≤n→∀s∈spansW base a l,spanC n s=true
 | [],a,n,_,_,s,hs=>by simp[spansW] at hs
 | r::l,a,n,hg,hn,s,hs=>by
  rw[encs_cons,List.length_append] at hn
  rw[spansW] at hs
  rcases List.mem_cons.1 hs with rfl | hs
  · have:=ttlS_rec hb (hg r (by simp)).2.2
    exact spanC_iff.2 ⟨by simp only;omega,by simp only;omega,by simp only;omega,by simp only;omega⟩
  · exact spansW_ok hb l _ n (fun r hr=>hg r (by simp[hr])) (by omega) s hs
structure Fit (t:TP):Prop where
 ok:∀p∈t.2,pieceC t.1.length p=true
 till:∀p∈t.2,p.2.1≤4000000000000
theorem time_iff {now:Int} (h:timeS now=true):0≤now∧now≤1099511627776:=by
 unfold timeS inC at h
 simpa using h
theorem layS_fit {base:List UInt8} {now:Int} {h:Hi} {soa:Bool} {t t':TP} (hb:nameS base=true) (hs:smallS (hitS h)=true) (htm:timeS now=true) (hf:Fit t) (hl:layS base now h soa t=some t') :
 Fit t'∧∃sp,t'.2=t.2++[(sp,now+h.2.2.2.2.2,soa)]∧sp≠[]∧1≤h.2.2.2.2.2∧h.2.2.2.2.2≤604800:=by
 have htm2:=time_iff htm
 unfold layS at hl
 split at hl
 · simp at hl
 · rename_i hn
   simp only[not_or,Int.not_lt] at hn
   simp only[Option.some.injEq] at hl
   subst hl
   have hne:spansW base t.1.length (flatS (hitS h) h.2.2.2.2.2 0)≠[]:=by
    intro e
    have:=congrArg List.length e
    rw[spansW_len] at this
    exact hn.1 (List.length_eq_zero_iff.1 (by simpa using this))
   have hlen:(t.1++encs base (flatS (hitS h) h.2.2.2.2.2 0)).length=t.1.length+(encs base (flatS (hitS h) h.2.2.2.2.2 0)).length:=List.length_append
   refine⟨⟨fun p hp=>?_,fun p hp=>?_⟩,_,rfl,hne,by omega,by omega⟩
   · show pieceC (t.1++encs base (flatS (hitS h) h.2.2.2.2.2 0)).length p=true
     rw[hlen]
     rcases List.mem_append.1 hp with hp | hp
     · exact pieceC_mono (by omega) (hf.ok p hp)
     · simp only[List.mem_singleton] at hp
       subst hp
       unfold pieceC
       simp only[Bool.and_eq_true,decide_eq_true_eq,List.all_eq_true]
       exact⟨hne,spansW_ok hb _ _ _ (fun r hr=>(flatS_mem hs hr).1) (Nat.le_refl _)⟩
   · rcases List.mem_append.1 hp with hp | hp
     · exact hf.till p hp
     · simp only[List.mem_singleton] at hp
       subst hp
       show now+h.2.2.2.2.2≤_
       omega
theorem makeL_fit {base:List UInt8} {now:Int} (hb:nameS base=true) (htm:timeS now=true):∀(l:List Hi) (t t':TP),(∀h∈l,smallS (hitS h)=true)→Fit t→makeL base now l t=some t' →
 Fit t'∧∃ps:List Pc,t'.2=t.2++ps∧ps.length=l.length∧∀(i:Nat) (h:Hi),l[i]? = some h→∃sp,ps[i]? = some (sp,now+h.2.2.2.2.2,false)∧sp≠[]∧1≤h.2.2.2.2.2∧h.2.2.2.2.2≤604800
 | [],t,t',_,hf,h=>by
  simp only[makeL,Option.some.injEq] at h
  subst h
  exact⟨hf,[],by simp,rfl,fun i h hh=>by simp at hh⟩
 | x::l,t,t',hs,hf,h=>by
  simp only[makeL] at h
  cases hl:layS base now x false t with
  | none=>rw[hl] at h;simp at h
  | some t1 =>
   rw[hl] at h
   obtain⟨f1,sp,e1,e2,e3,e4⟩:=layS_fit hb (hs x (by simp)) htm hf hl
   obtain⟨g1,ps,g2,g3,g4⟩:=makeL_fit hb htm l t1 t' (fun h hh=>hs h (by simp[hh])) f1 h
   refine⟨g1,(sp,now+x.2.2.2.2.2,false)::ps,by rw[g2,e1];simp,by simp[g3],fun i h hh=>?_⟩
   cases i with
   | zero =>
    simp only[List.getElem?_cons_zero,Option.some.injEq] at hh
    subst hh
    exact⟨sp,rfl,e2,e3,e4⟩
   | succ i=>exact g4 i h (by simpa using hh)
theorem partS_at {t:Tt} {i:Nat} {now turn:Int} {p:Pc} (hc:checkT t=true) (ht:0≤turn) (hp:t.2.2.2.2.2[i]? = some p):partS t (i:Int) now turn=if aliveS now p.2.1 then partT t now turn p else []:=by
 unfold partS
 rw[if_neg (by rw[hc];simp;omega),Int.toNat_natCast,hp]
end Go.Abs

namespace Go.Abs
open Go
end Go.Abs

namespace Go.Abs
open Go
theorem seg_mid (x y z:List UInt8):seg (x++(y++z)) x.length (x.length+y.length)=y:=by
 unfold seg
 rw[List.drop_take,Nat.add_sub_cancel_left,List.drop_left,List.take_left]
def setT (ttl:Int) (r:RRt):RRt:=(r.1,r.2.1,r.2.2.1,ttl,r.2.2.2.2)
theorem span_rec {base pre post:List UInt8} {r:RRt} {ttl:Int} (hb:nameS base=true) (h1:recC r=true) (h2:recC (setT ttl r)=true) :
 spanB (pre++(recE base 12 r++post)) (put4 ttl) ((pre.length:Int),((pre.length+(recE base 12 r).length:Nat):Int),(pre.length:Int)+ttlS base 12 r)=recE base 12 (setT ttl r):=by
 have e1:=(recE_ne (recE_pos hb h1)).2.2
 have e2:=(recE_ne (recE_pos hb h2)).2.2
 have e3:ttlS base 12 r=((writeS base 12 r.1++put2 r.2.1++put2 r.2.2.1).length:Int):=by
  unfold ttlS
  rw[if_neg (recE_pos hb h1)]
  simp[put2]
 have e4:recE base 12 r=(writeS base 12 r.1++put2 r.2.1++put2 r.2.2.1)++(put4 r.2.2.2.1++(put2 (r.2.2.2.2.length:Int)++r.2.2.2.2)):=by
  rw[e1];unfold tailE;simp only[List.append_assoc]
 have e5:recE base 12 (setT ttl r)=(writeS base 12 r.1++put2 r.2.1++put2 r.2.2.1)++put4 ttl++(put2 (r.2.2.2.2.length:Int)++r.2.2.2.2):=by
  rw[e2];unfold tailE setT;simp only[List.append_assoc]
 have hl4:=put4_len r.2.2.2.1
 rw[e5,e3]
 generalize writeS base 12 r.1++put2 r.2.1++put2 r.2.2.1=A at *
 generalize put2 (r.2.2.2.2.length:Int)++r.2.2.2.2=B at *
 rw[e4]
 unfold spanB
 have n1:((pre.length:Int)).toNat=pre.length:=by omega
 have n2:((pre.length:Int)+(A.length:Int)).toNat=pre.length+A.length:=by omega
 have n3:(((pre.length+(A++(put4 r.2.2.2.1++B)).length:Nat):Int)).toNat=(pre++A++put4 r.2.2.2.1).length+B.length:=by
  simp only[List.length_append,Int.toNat_natCast];omega
 simp only[n1,n2,n3]
 have s1:seg (pre++(A++(put4 r.2.2.2.1++B)++post)) pre.length (pre.length+A.length)=A:=by
  rw[show pre++(A++(put4 r.2.2.2.1++B)++post)=pre++(A++(put4 r.2.2.2.1++B++post)) by simp only[List.append_assoc]]
  exact seg_mid _ _ _
 have s2:seg (pre++(A++(put4 r.2.2.2.1++B)++post)) (pre.length+A.length+4) ((pre++A++put4 r.2.2.2.1).length+B.length)=B:=by
  rw[show pre++(A++(put4 r.2.2.2.1++B)++post)=(pre++A++put4 r.2.2.2.1)++(B++post) by simp only[List.append_assoc],show pre.length+A.length+4=(pre++A++put4 r.2.2.2.1).length by simp only[List.length_append,hl4]]
  exact seg_mid _ _ _
 rw[s1,s2]
theorem spans_recs {base:List UInt8} {ttl:Int} (hb:nameS base=true):∀(l:List RRt) (pre post:List UInt8),(∀r∈l,recC r=true∧recC (setT ttl r)=true) →
 (spansW base pre.length l).map (spanB (pre++(encs base l++post)) (put4 ttl))=l.map fun r=>recE base 12 (setT ttl r)
 | [],pre,post,_=>rfl
 | r::l,pre,post,h=>by
  obtain⟨h1,h2⟩:=h r (by simp)
  have ih:=spans_recs (ttl:=ttl) hb l (pre++recE base 12 r) post (fun r hr=>h r (by simp[hr]))
  rw[spansW,List.map_cons,List.map_cons,encs_cons]
  have e:pre++(recE base 12 r++encs base l++post)=pre++(recE base 12 r++(encs base l++post)):=by simp only[List.append_assoc]
  rw[e,span_rec hb h1 h2]
  congr 1
  rw[List.length_append,List.append_assoc] at ih
  exact ih
theorem makeL_get {base:List UInt8} {now:Int}:∀(l:List Hi) (t t':TP),makeL base now l t=some t' →
 ∃(ps:List Pc) (suf:List UInt8),t'.2=t.2++ps∧ps.length=l.length∧t'.1=t.1++suf∧∀(i:Nat) (h:Hi),l[i]? = some h→∃pre post,t'.1=pre++(encs base (flatS (hitS h) h.2.2.2.2.2 0)++post)∧ps[i]? = some (spansW base pre.length (flatS (hitS h) h.2.2.2.2.2 0),now+h.2.2.2.2.2,false) ∧
  flatS (hitS h) h.2.2.2.2.2 0≠[]∧1≤h.2.2.2.2.2∧h.2.2.2.2.2≤604800
 | [],t,t',h=>by
  simp only[makeL,Option.some.injEq] at h
  subst h
  exact⟨[],[],by simp,rfl,by simp,fun i h hh=>by simp at hh⟩
 | x::l,t,t',h=>by
  simp only[makeL] at h
  cases hl:layS base now x false t with
  | none=>rw[hl] at h;simp at h
  | some t1 =>
   rw[hl] at h
   obtain⟨ps,suf,g1,g2,g3,g4⟩:=makeL_get l t1 t' h
   by_cases hn:flatS (hitS x) x.2.2.2.2.2 0=[]∨x.2.2.2.2.2<1∨604800<x.2.2.2.2.2
   · rw[layS_none hn] at hl;simp at hl
   · rw[layS_some hn] at hl
     simp only[Option.some.injEq] at hl
     subst hl
     simp only[not_or,Int.not_lt] at hn
     refine⟨(spansW base t.1.length (flatS (hitS x) x.2.2.2.2.2 0),now+x.2.2.2.2.2,false)::ps,encs base (flatS (hitS x) x.2.2.2.2.2 0)++suf,by rw[g1];simp,by simp[g2],by rw[g3];simp,fun i h hh=>?_⟩
     cases i with
     | zero =>
      simp only[List.getElem?_cons_zero,Option.some.injEq] at hh
      subst hh
      exact⟨t.1,suf,by rw[g3];simp,rfl,hn.1,by omega,by omega⟩
     | succ i=>exact g4 i h (by simpa using hh)
theorem flatS_yes {s:Se} {ttl turn:Int} (h:flatS s ttl turn≠[]):setC s=true∧inC ttl 2147483647=true:=by
 unfold flatS at h
 split at h
 · exact absurd rfl h
 · rename_i hc
   simp only[not_or,Bool.not_eq_false] at hc
   exact⟨hc.1,hc.2.1⟩
theorem flatS_val {s:Se} {ttl turn:Int} (h1:setC s=true) (h2:inC ttl 2147483647=true) (h3:0≤turn):flatS s ttl turn=(rot s.2.2.2.1 (turn.toNat % s.2.2.2.1.length)).map (recI s ttl):=by
 unfold flatS
 rw[if_neg (by rw[h1,h2];simp;omega)]
end Go.Abs

namespace Go.Abs
open Go
theorem and_mask (n k:Nat) (hn:n<9223372036854775808) (hk:k<60):Go.bits .and .i64 (n:Int) ((2 ^ k-1:Nat):Int)=((n % 2 ^ k:Nat):Int):=by
 have hp:2 ^ k<2 ^ 63:=Nat.pow_lt_pow_right (by omega) (by omega)
 rw[i64_and_nat n (2 ^ k-1) hn (by omega),Nat.and_two_pow_sub_one_eq_mod]
def goodB (b:Int):Bool:=decide (0≤b)&&decide (b≤65535)
theorem goodB_iff {b:Int}:goodB b=true↔0≤b∧b≤65535:=by simp[goodB]
def ofS (d m:Int) (b:Int):Int:=if goodB b then b / d % m else 0
theorem ofS_yes {d m b:Int} (h0:0≤b) (h1:b≤65535):ofS d m b=b / d % m:=by unfold ofS;rw[if_pos (goodB_iff.2 ⟨h0,h1⟩)]
theorem ofS_lt {d m b:Int} (hm:0<m):0≤ofS d m b∧ofS d m b<m:=by
 unfold ofS
 split
 · exact⟨Int.emod_nonneg _ (by omega),Int.emod_lt_of_pos _ hm⟩
 · exact⟨by omega,hm⟩
theorem may_eq {f b:Int} (h0:0≤f) (h1:f<9):F_flag_Field_may f b=some (goodB b):=by
 unfold F_flag_Field_may goodB
 by_cases h2:0≤b
 · by_cases h3:b≤65535
   · simp[h0,h1,h2,h3]
   · simp[h2,h3]
 · simp[h2]
theorem fof_core {b:Int} (hg:goodB b=true) (s k:Nat) (hs:s<20) (hk:k<10):Go.bits .and .i64 (b.fdiv ((2 ^ s:Nat):Int)) ((2 ^ k-1:Nat):Int)=b / ((2 ^ s:Nat):Int) % ((2 ^ k:Nat):Int):=by
 obtain⟨h0,h1⟩:=goodB_iff.1 hg
 obtain⟨n,rfl⟩:=Int.eq_ofNat_of_zero_le h0
 have e:((n:Int)).fdiv ((2 ^ s:Nat):Int)=((n / 2 ^ s:Nat):Int):=by
  rw[Int.fdiv_eq_ediv_of_nonneg _ (Int.natCast_nonneg _)];rfl
 have hle:n / 2 ^ s≤n:=Nat.div_le_self _ _
 rw[e,and_mask (n / 2 ^ s) k (by omega) (by omega)]
 rfl
theorem mask_4_1:F_flag_place_mask (4,1)=some 1:=by kernel_rfl
theorem mask_8_1:F_flag_place_mask (8,1)=some 1:=by kernel_rfl
theorem mask_11_4:F_flag_place_mask (11,4)=some 15:=by kernel_rfl
theorem of1_eq (b:Int):F_flag_Field_Of 1 b=some (ofS 2048 16 b):=by
 unfold F_flag_Field_Of ofS
 rw[may_eq (by omega) (by omega),bnd_some]
 cases hg:goodB b with
 | false=>rfl
 | true =>
  simp only[Bool.not_true,Bool.false_eq_true,if_false,beq_self_eq_true,if_true,mask_11_4,bnd_some,show ((1:Int)==0)=false from rfl]
  exact congrArg some (fof_core hg 11 4 (by omega) (by omega))
theorem of4_eq (b:Int):F_flag_Field_Of 4 b=some (ofS 256 2 b):=by
 unfold F_flag_Field_Of ofS
 rw[may_eq (by omega) (by omega),bnd_some]
 cases hg:goodB b with
 | false=>rfl
 | true =>
  simp only[Bool.not_true,Bool.false_eq_true,if_false,beq_self_eq_true,if_true,mask_8_1,bnd_some,show ((4:Int)==0)=false from rfl,show ((4:Int)==1)=false from rfl,show ((4:Int)==2)=false from rfl,show ((4:Int)==3)=false from rfl]
  exact congrArg some (fof_core hg 8 1 (by omega) (by omega))
theorem of7_eq (b:Int):F_flag_Field_Of 7 b=some (ofS 16 2 b):=by
 unfold F_flag_Field_Of ofS
 rw[may_eq (by omega) (by omega),bnd_some]
 cases hg:goodB b with
 | false=>rfl
 | true =>
  simp only[Bool.not_true,Bool.false_eq_true,if_false,beq_self_eq_true,if_true,mask_4_1,bnd_some,show ((7:Int)==0)=false from rfl,show ((7:Int)==1)=false from rfl,show ((7:Int)==2)=false from rfl,show ((7:Int)==3)=false from rfl,show ((7:Int)==4)=false from rfl,show ((7:Int)==5)=false from rfl,show ((7:Int)==6)=false from rfl]
  exact congrArg some (fof_core hg 4 1 (by omega) (by omega))
def ansB (o r c k:Int):Int:=32768+2048*o+256*r+128+16*c+k
theorem lay_5:F_flag_Field_lay 5 0 1=some 128:=by kernel_rfl
theorem lay_0:F_flag_Field_lay 0 128 1=some 32896:=by kernel_rfl
def tab8:Bool:=(List.range 16).all fun (k:Nat)=>decide (F_flag_Field_lay 8 32896 (k:Int)=some (32896+(k:Int)))
theorem tab8_ok:tab8=true:=by kernel_rfl
def tab1:Bool:=(List.range 16).all fun (k:Nat)=>(List.range 16).all fun (o:Nat)=>decide (F_flag_Field_lay 1 (32896+(k:Int)) (o:Int)=some (32896+(k:Int)+2048*(o:Int)))
theorem tab1_ok:tab1=true:=by kernel_rfl
def tab4:Bool:=(List.range 16).all fun (k:Nat)=>(List.range 16).all fun (o:Nat)=>(List.range 2).all fun (r:Nat)=>decide (F_flag_Field_lay 4 (32896+(k:Int)+2048*(o:Int)) (r:Int)=some (32896+(k:Int)+2048*(o:Int)+256*(r:Int)))
theorem tab4_ok:tab4=true:=by kernel_rfl
def tab7:Bool:=(List.range 16).all fun (k:Nat)=>(List.range 16).all fun (o:Nat)=>(List.range 2).all fun (r:Nat)=>(List.range 2).all fun (c:Nat)=>decide (F_flag_Field_lay 7 (32896+(k:Int)+2048*(o:Int)+256*(r:Int)) (c:Int)=some (ansB o r c k))
theorem tab7_ok:tab7=true:=by kernel_rfl
def tabW:Bool:=(List.range 16).all fun (k:Nat)=>(List.range 16).all fun (o:Nat)=>(List.range 2).all fun (r:Nat)=>(List.range 2).all fun (c:Nat)=>decide (F_flag_Field_With 3 (ansB o r c k) 1=some (ansB o r c k+512,true))
theorem tabW_ok:tabW=true:=by kernel_rfl
theorem all_range {n:Nat} {p:Nat→Bool} (h:(List.range n).all p=true) {x:Int} (h0:0≤x) (h1:x<n):∃k:Nat,x=(k:Int)∧p k=true:=by
 obtain⟨k,rfl⟩:=Int.eq_ofNat_of_zero_le h0
 rw[List.all_eq_true] at h
 exact⟨k,rfl,h k (by simp;omega)⟩
theorem lay8_eq {k:Int} (h0:0≤k) (h1:k<16):F_flag_Field_lay 8 32896 k=some (32896+k):=by
 obtain⟨n,rfl,h⟩:=all_range (n:=16) tab8_ok h0 (by omega)
 exact of_decide_eq_true h
theorem lay1_eq {k o:Int} (h0:0≤k) (h1:k<16) (h2:0≤o) (h3:o<16):F_flag_Field_lay 1 (32896+k) o=some (32896+k+2048*o):=by
 obtain⟨n,rfl,h⟩:=all_range (n:=16) tab1_ok h0 (by omega)
 obtain⟨m,rfl,h⟩:=all_range (n:=16) h h2 (by omega)
 exact of_decide_eq_true h
theorem lay4_eq {k o r:Int} (h0:0≤k) (h1:k<16) (h2:0≤o) (h3:o<16) (h4:0≤r) (h5:r<2):F_flag_Field_lay 4 (32896+k+2048*o) r=some (32896+k+2048*o+256*r):=by
 obtain⟨n,rfl,h⟩:=all_range (n:=16) tab4_ok h0 (by omega)
 obtain⟨m,rfl,h⟩:=all_range (n:=16) h h2 (by omega)
 obtain⟨x,rfl,h⟩:=all_range (n:=2) h h4 (by omega)
 exact of_decide_eq_true h
theorem lay7_eq {k o r c:Int} (h0:0≤k) (h1:k<16) (h2:0≤o) (h3:o<16) (h4:0≤r) (h5:r<2) (h6:0≤c) (h7:c<2):F_flag_Field_lay 7 (32896+k+2048*o+256*r) c=some (ansB o r c k):=by
 obtain⟨n,rfl,h⟩:=all_range (n:=16) tab7_ok h0 (by omega)
 obtain⟨m,rfl,h⟩:=all_range (n:=16) h h2 (by omega)
 obtain⟨x,rfl,h⟩:=all_range (n:=2) h h4 (by omega)
 obtain⟨y,rfl,h⟩:=all_range (n:=2) h h6 (by omega)
 exact of_decide_eq_true h
theorem withTC_eq {k o r c:Int} (h0:0≤k) (h1:k<16) (h2:0≤o) (h3:o<16) (h4:0≤r) (h5:r<2) (h6:0≤c) (h7:c<2):F_flag_Field_With 3 (ansB o r c k) 1=some (ansB o r c k+512,true):=by
 obtain⟨n,rfl,h⟩:=all_range (n:=16) tabW_ok h0 (by omega)
 obtain⟨m,rfl,h⟩:=all_range (n:=16) h h2 (by omega)
 obtain⟨x,rfl,h⟩:=all_range (n:=2) h h4 (by omega)
 obtain⟨y,rfl,h⟩:=all_range (n:=2) h h6 (by omega)
 exact of_decide_eq_true h
def answerS (asked code:Int):Int:=ansB (ofS 2048 16 asked) (ofS 256 2 asked) (ofS 16 2 asked) (code % 16)
theorem flag_Answer_eq {asked code:Int} (h0:0≤code) (h1:code≤255):F_flag_Answer asked code=some (answerS asked code):=by
 have ho:=ofS_lt (d:=2048) (m:=16) (b:=asked) (by omega)
 have hr:=ofS_lt (d:=256) (m:=2) (b:=asked) (by omega)
 have hc:=ofS_lt (d:=16) (m:=2) (b:=asked) (by omega)
 have hk:Go.bits Go.BinOp.and Go.IntKind.i64 (if 0 > code then 0 else code) 15=code % 16:=by
  rw[if_neg (by omega)]
  obtain⟨n,rfl⟩:=Int.eq_ofNat_of_zero_le h0
  exact and_mask n 4 (by omega) (by omega)
 have hk0:0≤code % 16∧code % 16<16:=by omega
 unfold F_flag_Answer
 simp only[lay_5,bnd_some,lay_0,hk,lay8_eq hk0.1 hk0.2]
 have e1:step_flag_Answer_0 asked (32896+code % 16,0)=some (.inl (32896+code % 16+2048*ofS 2048 16 asked,1)):=by
  unfold step_flag_Answer_0
  simp only[show decide ((0:Int)<3)=true from rfl,if_true,natOf,show ((0:Int)≤0) from by omega,Int.toNat_zero,List.getElem?_cons_zero,bnd_some,of1_eq,lay1_eq hk0.1 hk0.2 ho.1 ho.2,grdEq_self]
  rfl
 have e2:step_flag_Answer_0 asked (32896+code % 16+2048*ofS 2048 16 asked,1)=some (.inl (32896+code % 16+2048*ofS 2048 16 asked+256*ofS 256 2 asked,2)):=by
  unfold step_flag_Answer_0
  simp only[show decide ((1:Int)<3)=true from rfl,if_true,natOf,show ((0:Int)≤1) from by omega,show Int.toNat 1=1 from rfl,List.getElem?_cons_succ,List.getElem?_cons_zero,bnd_some,of4_eq,lay4_eq hk0.1 hk0.2 ho.1 ho.2 hr.1 hr.2,grdEq_self]
  rfl
 have e3:step_flag_Answer_0 asked (32896+code % 16+2048*ofS 2048 16 asked+256*ofS 256 2 asked,2)=some (.inl (answerS asked code,3)):=by
  unfold step_flag_Answer_0 answerS
  simp only[show decide ((2:Int)<3)=true from rfl,if_true,natOf,show ((0:Int)≤2) from by omega,show Int.toNat 2=2 from rfl,List.getElem?_cons_succ,List.getElem?_cons_zero,bnd_some,of7_eq,lay7_eq hk0.1 hk0.2 ho.1 ho.2 hr.1 hr.2 hc.1 hc.2,grdEq_self]
  rfl
 have e4:step_flag_Answer_0 asked (answerS asked code,3)=some (.inr (answerS asked code)):=by
  unfold step_flag_Answer_0
  rfl
 rw[loopS_next e1,loopS_next e2,loopS_next e3,loopS_out e4]
 rfl
theorem answerS_TC (asked code:Int):F_flag_Field_With 3 (answerS asked code) 1=some (answerS asked code+512,true):=by
 have ho:=ofS_lt (d:=2048) (m:=16) (b:=asked) (by omega)
 have hr:=ofS_lt (d:=256) (m:=2) (b:=asked) (by omega)
 have hc:=ofS_lt (d:=16) (m:=2) (b:=asked) (by omega)
 exact withTC_eq (by omega) (by omega) ho.1 ho.2 hr.1 hr.2 hc.1 hc.2
theorem answerS_of (asked code:Int):(0≤answerS asked code∧answerS asked code+512≤65535)∧ofS 32768 2 (answerS asked code)=1∧ofS 512 2 (answerS asked code)=0∧ofS 1 16 (answerS asked code)=code % 16 ∧
 ofS 32768 2 (answerS asked code+512)=1∧ofS 512 2 (answerS asked code+512)=1∧ofS 1 16 (answerS asked code+512)=code % 16:=by
 have ho:=ofS_lt (d:=2048) (m:=16) (b:=asked) (by omega)
 have hr:=ofS_lt (d:=256) (m:=2) (b:=asked) (by omega)
 have hc:=ofS_lt (d:=16) (m:=2) (b:=asked) (by omega)
 have hb:0≤answerS asked code∧answerS asked code+512≤65535:=by unfold answerS ansB;omega
 rw[ofS_yes hb.1 (by omega),ofS_yes hb.1 (by omega),ofS_yes hb.1 (by omega),ofS_yes (by omega) hb.2,ofS_yes (by omega) hb.2,ofS_yes (by omega) hb.2]
 refine⟨hb,?_⟩
 unfold answerS ansB
 generalize ofS 2048 16 asked=o at *
 generalize ofS 256 2 asked=r at *
 generalize ofS 16 2 asked=c at *
 omega
end Go.Abs

namespace Go.Abs
open Go
abbrev Ep:=Bool×Int×Int×Int×Bool
def optE (e:Int) (d:Bool):RRt:=([0],41,4096,e*16777216+(if d=true then 32768 else 0),[])
def tabO:Bool:=(List.range 16).all fun (e:Nat)=>decide (F_edns_Opt_Record (true,4096,(e:Int),0,true)=some (optE e true,true))&&decide (F_edns_Opt_Record (true,4096,(e:Int),0,false)=some (optE e false,true))
theorem tabO_ok:tabO=true:=by kernel_rfl
theorem opt_Record_eq {e:Int} (h0:0≤e) (h1:e<16) (d:Bool):F_edns_Opt_Record (true,4096,e,0,d)=some (optE e d,true):=by
 obtain⟨n,rfl,h⟩:=all_range (n:=16) tabO_ok h0 (by omega)
 simp only[Bool.and_eq_true] at h
 cases d with
 | true=>exact of_decide_eq_true h.1
 | false=>exact of_decide_eq_true h.2
def limS (o:Ep):Int:=if o.1=false then 512 else if 4096<(if 512 > o.2.1 then 512 else o.2.1) then 4096 else if 512 > o.2.1 then 512 else o.2.1
theorem limit_eq (o:Ep):F_edns_Opt_Limit o=some (limS o):=by
 unfold F_edns_Opt_Limit limS
 cases o.1<;>rfl
theorem limS_b (o:Ep):512≤limS o∧limS o≤4096:=by
 unfold limS
 split
 · omega
 · split
   · omega
   · split<;>omega
end Go.Abs

namespace Go.Abs
open Go
abbrev Ak:=Int×Int×List UInt8×Int×Int×Bool×Int×Int×Int×Bool
def q0:Qt:=([],0,0)
def qA (a:Ak):Qt:=(a.2.2.1,a.2.2.2.1,a.2.2.2.2.1)
def oA (a:Ak):Ep:=(a.2.2.2.2.2.1,a.2.2.2.2.2.2.1,a.2.2.2.2.2.2.2.1,a.2.2.2.2.2.2.2.2.1,a.2.2.2.2.2.2.2.2.2)
theorem own17_eq (a:Ak):F_law17_Own a=some a:=rfl
end Go.Abs

namespace Go.Abs
open Go
end Go.Abs

namespace Go.Abs
open Go
abbrev Pi_:=List RRt×Bool
def qsA (a:Ak):List Qt:=if a.2.2.1=[] then [] else [qA a]
def arA (a:Ak) (code:Int):List RRt:=if a.2.2.2.2.2.1=true then [optE (code / 16) a.2.2.2.2.2.2.2.2.2] else []
def headM (a:Ak) (bits code:Int) (an ns:List RRt):Mt:=(a.1,bits,qsA a,an,ns,arA a code)
def refuseS (a:Ak) (code:Int):List UInt8:=if 0≤code∧code≤255 then (encM (headM a (answerS a.2.1 code) code [] [])).1 else []
theorem qsA_eq (a:Ak):(if (!a.2.2.1==[])=true then some [(a.2.2.1,a.2.2.2.1,a.2.2.2.2.1)] else some [])=some (qsA a):=by
 unfold qsA
 by_cases h:a.2.2.1=[]
 · rw[if_pos h];simp[h]
 · rw[if_neg h];simp[h];rfl
theorem headM_fine {a:Ak} {bits code:Int} {an ns:List RRt} (hn:(a.2.2.1.length:Int)≤maxI) (h1:an.length≤100000) (h2:ns.length≤100000) (h3:∀r∈an,r.1.length≤300) (h4:∀r∈ns,r.1.length≤300):fineM (headM a bits code an ns):=by
 have hm:maxI=9223372036854775807:=rfl
 have q1:(qsA a).length≤1:=by unfold qsA;split<;>simp
 have r1:(arA a code).length≤1:=by unfold arA;split<;>simp
 refine⟨⟨?_,?_,?_,?_⟩,fun q hq=>?_,fun r hr=>?_,fun r hr=>?_,fun r hr=>?_⟩
 · show ((qsA a).length:Int)≤maxI;omega
 · show (an.length:Int)≤maxI;omega
 · show (ns.length:Int)≤maxI;omega
 · show ((arA a code).length:Int)≤maxI;omega
 · have hq':q∈qsA a:=hq
   unfold qsA at hq'
   split at hq'
   · simp at hq'
   · simp only[List.mem_singleton] at hq';subst hq';exact hn
 · have:=h3 r hr;omega
 · have:=h4 r hr;omega
 · have hr':r∈arA a code:=hr
   unfold arA at hr'
   split at hr'
   · simp only[List.mem_singleton] at hr';subst hr';simp[optE];omega
   · simp at hr'
theorem head_eq {α:Type} (a:Ak) {code:Int} (h0:0≤code) (h1:code≤255) (K:Int×Int×List Qt×List RRt→Option α) :
 bnd (bnd (F_flag_Answer a.snd.fst code) fun v5=>bnd (if (!a.snd.snd.fst==[])=true then some [(a.snd.snd.fst,a.snd.snd.snd.fst,a.snd.snd.snd.snd.fst)] else some []) fun b3c_6 =>
  if a.snd.snd.snd.snd.snd.fst=true then bnd (F_edns_Opt_Record (true,4096,Go.IntKind.i64.wrap (code.tdiv 16),0,a.snd.snd.snd.snd.snd.snd.snd.snd.snd)) fun v=>some (a.fst,v5,b3c_6,[(v.1.fst,v.1.snd.fst,v.1.snd.snd.fst,v.1.snd.snd.snd.fst,v.1.snd.snd.snd.snd)])
  else some (a.fst,v5,b3c_6,[])) K=K (a.1,answerS a.2.1 code,qsA a,arA a code):=by
 rw[flag_Answer_eq h0 h1,bnd_some,qsA_eq,bnd_some]
 have e:Go.IntKind.i64.wrap (code.tdiv 16)=code / 16:=by
  rw[Int.tdiv_eq_ediv_of_nonneg h0];exact wrap_id (by omega) (by omega)
 unfold arA
 cases hh:a.snd.snd.snd.snd.snd.fst with
 | true =>
  simp only[if_true]
  rw[e,opt_Record_eq (by omega) (by omega)]
  rfl
 | false=>rfl
theorem refuse_yes {a:Ak} {code:Int} (h0:0≤code) (h1:code≤255):refuseS a code=(encM (headM a (answerS a.2.1 code) code [] [])).1:=if_pos ⟨h0,h1⟩
theorem refuse_no {a:Ak} {code:Int} (h:code<0∨255<code):refuseS a code=[]:=if_neg (by omega)
theorem reply_Refuse_eq {a:Ak} (hn:(a.2.2.1.length:Int)≤maxI) (code:Int):F_reply_Refuse a code=some (refuseS a code):=by
 unfold F_reply_Refuse
 simp only[grdEq_self]
 by_cases h0:0≤code
 · have g0:decide (code<0)=false:=decide_eq_false (by omega)
   by_cases h1:code≤255
   · have g1:decide (255<code)=false:=decide_eq_false (by omega)
     rw[refuse_yes h0 h1]
     simp only[g0,g1,if_true,Bool.false_eq_true,if_false,bnd_some]
     have:=head_eq a h0 h1 (fun x=>bnd (F_msg_Encode (x.1,x.2.1,x.2.2.1,[],[],x.2.2.2)) fun v=>some v.1)
     refine this.trans ?_
     have e:F_msg_Encode (headM a (answerS a.2.1 code) code [] [])=some (encM (headM a (answerS a.2.1 code) code [] [])):=msg_Encode_eq (headM_fine hn (by simp) (by simp) (by simp) (by simp))
     unfold headM at e ⊢
     rw[e]
     rfl
   · have g1:decide (255<code)=true:=decide_eq_true (by omega)
     rw[refuse_no (.inr (by omega))]
     simp only[g0,g1,if_true,bnd_some]
 · have g0:decide (code<0)=true:=decide_eq_true (by omega)
   rw[refuse_no (.inl (by omega))]
   simp only[g0,Bool.true_eq_false,if_false,bnd_some]
def soaP (c:Ch):List Pi_:=if c.2.1=0 then [] else [(flatS (hitS c.2.2.2) c.2.2.2.2.2.2.2.2 0,true)]
def piecesS (c:Ch) (turn:Int):List Pi_:=c.1.map (fun h=>(flatS (hitS h) h.2.2.2.2.2 turn,false))++soaP c
theorem smallC_all {c:Ch} (h:smallC c=true):(∀x∈c.1,smallS (hitS x)=true)∧c.1.length≤12∧smallS (hitS c.2.2.2)=true:=by
 unfold smallC at h
 simp only[Bool.and_eq_true,List.all_eq_true,decide_eq_true_eq] at h
 exact⟨h.1.1,h.1.2,h.2⟩
theorem small_few {s:Se} (h:smallS s=true):fewS s:=by
 obtain⟨h1,_,h3⟩:=smallS_iff h
 exact⟨by unfold maxI;omega,by omega⟩
theorem reply_pieces_eq {c:Ch} (h:smallC c=true) (turn:Int):F_reply_pieces c turn=some (piecesS c turn):=by
 obtain⟨h1,h2,h3⟩:=smallC_all h
 unfold F_reply_pieces
 have hl:loopS (step_reply_pieces_0 c turn) ([],0)=some (c.1.map fun h=>(flatS (hitS h) h.2.2.2.2.2 turn,false)):=by
  have key:∀(v u:List Hi),c.1=u++v→loopS (step_reply_pieces_0 c turn) (u.map (fun h=>(flatS (hitS h) h.2.2.2.2.2 turn,false)),(u.length:Int))=some (c.1.map fun h=>(flatS (hitS h) h.2.2.2.2.2 turn,false)):=by
   intro v
   induction v with
   | nil =>
    intro u hu
    rw[List.append_nil] at hu
    rw[hu]
    refine loopS_out ?_
    unfold step_reply_pieces_0
    rw[hu]
    simp[grdEq_self]
   | cons x v ih =>
    intro u hu
    have hx:c.1[u.length]? = some x:=by rw[hu];simp
    have hi:=(List.getElem?_eq_some_iff.1 hx).1
    have:=ih (u++[x]) (by rw[hu];simp)
    rw[←this]
    refine loopS_next ?_
    unfold step_reply_pieces_0
    have e:F_group_Flat (x.fst,x.snd.fst,x.snd.snd.fst,x.snd.snd.snd.fst,x.snd.snd.snd.snd.fst) x.snd.snd.snd.snd.snd turn=some (flatS (hitS x) x.2.2.2.2.2 turn):=group_Flat_eq (small_few (h1 x (by rw[hu];simp))) _ _
    simp only[grdEq_self]
    rw[if_pos (by simp;omega),natOf_nat,hx,bnd_some,e,bnd_some,grdp (by unfold roomLim;simp;omega),wrap_id (by omega) (by omega)]
    simp
  exact key c.1 [] rfl
 rw[hl,bnd_some]
 unfold piecesS soaP
 by_cases h0:c.2.1=0
 · have:(c.2.1 != 0)=false:=by simpa using h0
   rw[this,if_neg (by simp),if_pos h0,List.append_nil]
 · have:(c.2.1 != 0)=true:=by simpa using h0
   have e:F_group_Flat (c.snd.snd.snd.fst,c.snd.snd.snd.snd.fst,c.snd.snd.snd.snd.snd.fst,c.snd.snd.snd.snd.snd.snd.fst,c.snd.snd.snd.snd.snd.snd.snd.fst) c.snd.snd.snd.snd.snd.snd.snd.snd 0=some (flatS (hitS c.2.2.2) c.2.2.2.2.2.2.2.2 0):=group_Flat_eq (small_few h3) _ _
   simp only[this,if_true,e,bnd_some,h0,if_false]
   rw[grdp (by unfold roomLim;simp;omega)]
def fewP (ps:List Pi_):Prop:=ps.length≤13∧∀p∈ps,p.1.length≤60∧∀r∈p.1,goodR r∧r.1.length≤255
theorem pieces_few {c:Ch} (h:smallC c=true) (turn:Int):fewP (piecesS c turn):=by
 obtain⟨h1,h2,h3⟩:=smallC_all h
 have one:∀(s:Se) (ttl t:Int),smallS s=true→(flatS s ttl t).length≤60∧∀r∈flatS s ttl t,goodR r∧r.1.length≤255:=fun s ttl t hs=>⟨flatS_len hs,fun r hr=>⟨(flatS_mem hs hr).1,(flatS_mem hs hr).2.1⟩⟩
 refine⟨?_,fun p hp=>?_⟩
 · unfold piecesS soaP
   split<;>simp<;>omega
 · unfold piecesS at hp
   rcases List.mem_append.1 hp with hp | hp
   · obtain⟨x,hx,rfl⟩:=List.mem_map.1 hp
     exact one _ _ _ (h1 x hx)
   · unfold soaP at hp
     split at hp
     · simp at hp
     · simp only[List.mem_singleton] at hp
       subst hp
       exact one _ _ _ h3
def layP (s:List RRt×List RRt) (p:Pi_):List RRt×List RRt:=if p.2=true then (s.1,p.1) else (s.1++p.1,s.2)
def layL (ps:List Pi_):List RRt×List RRt:=ps.foldl layP ([],[])
theorem layL_app (ps:List Pi_) (p:Pi_):layL (ps++[p])=layP (layL ps) p:=by simp[layL]
theorem layL_few {ps:List Pi_} (h:∀p∈ps,p.1.length≤60∧∀r∈p.1,goodR r∧r.1.length≤255):(layL ps).1.length≤60*ps.length∧(layL ps).2.length≤60∧(∀r∈(layL ps).1,goodR r∧r.1.length≤255)∧∀r∈(layL ps).2,goodR r∧r.1.length≤255:=by
 have key:∀(v u:List Pi_),ps=u++v→(layL u).1.length≤60*u.length∧(layL u).2.length≤60∧(∀r∈(layL u).1,goodR r∧r.1.length≤255)∧(∀r∈(layL u).2,goodR r∧r.1.length≤255) →
  (layL ps).1.length≤60*ps.length∧(layL ps).2.length≤60∧(∀r∈(layL ps).1,goodR r∧r.1.length≤255)∧∀r∈(layL ps).2,goodR r∧r.1.length≤255:=by
  intro v
  induction v with
  | nil=>intro u hu hh;rw[List.append_nil] at hu;rw[hu];exact hh
  | cons x v ih =>
   intro u hu hh
   refine ih (u++[x]) (by rw[hu];simp) ?_
   obtain⟨x1,x2⟩:=h x (by rw[hu];simp)
   obtain⟨g1,g2,g3,g4⟩:=hh
   rw[layL_app]
   unfold layP
   split
   · exact⟨by simp;omega,x1,g3,x2⟩
   · refine⟨by simp;omega,g2,fun r hr=>?_,g4⟩
     rcases List.mem_append.1 hr with h | h
     · exact g3 r h
     · exact x2 r h
 exact key ps [] rfl ⟨by simp[layL],by simp[layL],by simp[layL],by simp[layL]⟩
def codeS (c:Ch):Int:=if c.2.1=2 then 3 else 0
def layM (a:Ak) (code:Int) (ps:List Pi_) (n:Nat):Mt:=headM a (if n<ps.length then answerS a.2.1 code+512 else answerS a.2.1 code) code (layL (ps.take n)).1 (layL (ps.take n)).2
def buildW (a:Ak) (code:Int) (ps:List Pi_):Nat→List UInt8
 | 0=>if (encM (layM a code ps 0)).2=1 then [] else if (encM (layM a code ps 0)).2=0∧((encM (layM a code ps 0)).1.length:Int)≤limS (oA a) then (encM (layM a code ps 0)).1 else []
 | n+1=>if (encM (layM a code ps (n+1))).2=1 then [] else if (encM (layM a code ps (n+1))).2=0∧((encM (layM a code ps (n+1))).1.length:Int)≤limS (oA a) then (encM (layM a code ps (n+1))).1 else buildW a code ps n
def buildS (a:Ak) (c:Ch) (turn:Int):List UInt8:=if c.2.1<0∨2<c.2.1 then refuseS a 2 else buildW a (codeS c) (piecesS c turn) (piecesS c turn).length
theorem reply_code_eq (c:Ch):F_reply_code c=some (codeS c):=by
 unfold F_reply_code codeS
 by_cases h:c.2.1=2
 · simp[h]
 · simp[h]
theorem codeS_b (c:Ch):0≤codeS c∧codeS c≤255:=by unfold codeS;split<;>omega
theorem layM_fine {a:Ak} {code:Int} {ps:List Pi_} {n:Nat} (hn:(a.2.2.1.length:Int)≤maxI) (hp:fewP ps):fineM (layM a code ps n):=by
 have:=layL_few (ps:=ps.take n) (fun p h=>hp.2 p (List.mem_of_mem_take h))
 have hl:(ps.take n).length≤13:=by rw[List.length_take];have:=hp.1;omega
 unfold layM
 exact headM_fine hn (by omega) (by omega) (fun r hr=>by have:=(this.2.2.1 r hr).2;omega) (fun r hr=>by have:=(this.2.2.2 r hr).2;omega)
end Go.Abs

namespace Go.Abs
open Go
theorem lay_loop {a:Ak} {c:Ch} {ps:List Pi_} {many x0 x1:Int} {x2:List Qt} {x3:List RRt} {n:Nat} (hp:fewP ps) (hn:n≤ps.length):loopS (step_reply_Build_1 a c ps many x0 x1 x2 x3 n) (0,([],[]))=some (layL (ps.take n)):=by
 obtain⟨hp1,hp2⟩:=hp
 have hlen:(ps.take n).length=n:=by rw[List.length_take];omega
 have key:∀(v u:List Pi_),ps.take n=u++v→loopS (step_reply_Build_1 a c ps many x0 x1 x2 x3 n) ((u.length:Int),layL u)=some (layL (ps.take n)):=by
  intro v
  induction v with
  | nil =>
   intro u hu
   rw[List.append_nil] at hu
   rw[hu]
   refine loopS_out ?_
   unfold step_reply_Build_1
   simp only[grdEq_self]
   rw[hu,if_neg (by simp)]
  | cons x v ih =>
   intro u hu
   have hx:(ps.take n)[u.length]? = some x:=by rw[hu];simp
   have hi:u.length<(ps.take n).length:=(List.getElem?_eq_some_iff.1 hx).1
   have hmem:∀p∈u,p∈ps:=fun p hpu=>List.mem_of_mem_take (by rw[hu];simp[hpu]:p∈ps.take n)
   have hxm:x∈ps:=List.mem_of_mem_take (by rw[hu];simp:x∈ps.take n)
   have hf:=layL_few (ps:=u) (fun p h=>hp2 p (hmem p h))
   have hx1:=(hp2 x hxm).1
   have:=ih (u++[x]) (by rw[hu];simp)
   rw[←this]
   refine loopS_next ?_
   unfold step_reply_Build_1
   simp only[grdEq_self]
   rw[if_pos (by simp;omega),natOf_nat,hx,bnd_some,wrap_id (by omega) (by omega),layL_app]
   unfold layP
   cases h2:x.2 with
   | true =>
    simp only[if_true]
    simp
   | false =>
    simp only[Bool.false_eq_true,if_false]
    rw[grdp (by unfold roomLim;omega)]
    simp
 exact key _ [] rfl
def tryS (a:Ak) (c:Ch) (ps:List Pi_) (n:Nat):Int ⊕ (Unit ⊕ List UInt8) :=
 if (encM (layM a (codeS c) ps n)).2=1 then .inr (.inr []) else if (encM (layM a (codeS c) ps n)).2=0∧((encM (layM a (codeS c) ps n)).1.length:Int)≤limS (oA a) then .inr (.inr (encM (layM a (codeS c) ps n)).1) else .inl ((n:Int)-1)
theorem build_step {a:Ak} {c:Ch} {ps:List Pi_} {n:Nat} (hn:(a.2.2.1.length:Int)≤maxI) (hp:fewP ps) (hle:n≤ps.length):step_reply_Build_0 a c ps (n:Int)=some (tryS a c ps n):=by
 have hp13:=hp.1
 unfold step_reply_Build_0
 simp only[grdEq_self]
 have e1:F_reply_code (c.fst,c.snd.fst,c.snd.snd.fst,c.snd.snd.snd.fst,c.snd.snd.snd.snd.fst,c.snd.snd.snd.snd.snd.fst,c.snd.snd.snd.snd.snd.snd.fst,c.snd.snd.snd.snd.snd.snd.snd.fst,c.snd.snd.snd.snd.snd.snd.snd.snd)=some (codeS c):=reply_code_eq c
 rw[if_pos (by simp),e1,bnd_some]
 refine (head_eq a (codeS_b c).1 (codeS_b c).2 _).trans ?_
 show natOf (n:Int) _=_
 rw[natOf_nat,grdp hle,lay_loop hp hle,bnd_some]
 have hfine:=layM_fine (code:=codeS c) (n:=n) hn hp
 have hE:=msg_Encode_eq hfine
 have hlim:F_edns_Opt_Limit (a.snd.snd.snd.snd.snd.fst,a.snd.snd.snd.snd.snd.snd.fst,a.snd.snd.snd.snd.snd.snd.snd.fst,a.snd.snd.snd.snd.snd.snd.snd.snd.fst,a.snd.snd.snd.snd.snd.snd.snd.snd.snd)=some (limS (oA a)):=limit_eq (oA a)
 have hw:Go.IntKind.i64.wrap ((n:Int)-1)=(n:Int)-1:=wrap_id (by omega) (by omega)
 have fin:bnd (F_msg_Encode (layM a (codeS c) ps n)) (fun v=>if (v.2==1)=true then some (.inr (.inr [])) else if (v.2==0)=true then bnd (F_edns_Opt_Limit (a.snd.snd.snd.snd.snd.fst,a.snd.snd.snd.snd.snd.snd.fst,a.snd.snd.snd.snd.snd.snd.snd.fst,a.snd.snd.snd.snd.snd.snd.snd.snd.fst,a.snd.snd.snd.snd.snd.snd.snd.snd.snd)) fun v34=>if decide ((v.1.length:Int)≤v34)=true then some (.inr (.inr v.1)) else some (.inl (Go.IntKind.i64.wrap ((n:Int)-1))) else some (.inl (Go.IntKind.i64.wrap ((n:Int)-1))))=some (tryS a c ps n):=by
  rw[hE,bnd_some,hlim,hw]
  unfold tryS
  by_cases h1:(encM (layM a (codeS c) ps n)).2=1
  · rw[if_pos h1,if_pos (by simpa using h1)]
  · rw[if_neg h1,if_neg (by simpa using h1)]
    by_cases h2:(encM (layM a (codeS c) ps n)).2=0
    · rw[if_pos (by simpa using h2),bnd_some]
      by_cases h3:((encM (layM a (codeS c) ps n)).1.length:Int)≤limS (oA a)
      · rw[if_pos (decide_eq_true h3),if_pos ⟨h2,h3⟩]
      · rw[if_neg (by simpa using h3),if_neg (fun h=>h3 h.2)]
    · rw[if_neg (by simpa using h2),if_neg (fun h=>h2 h.1)]
 by_cases hlt:n<ps.length
 · have g:decide ((n:Int)<(ps.length:Int))=true:=decide_eq_true (by omega)
   rw[g]
   simp only[if_true,answerS_TC,bnd_some]
   have hM:layM a (codeS c) ps n=(a.1,answerS a.2.1 (codeS c)+512,qsA a,(layL (ps.take n)).1,(layL (ps.take n)).2,arA a (codeS c)):=by
    unfold layM headM;rw[if_pos hlt]
   rw[hM] at fin
   exact fin
 · have g:decide ((n:Int)<(ps.length:Int))=false:=decide_eq_false (by omega)
   rw[g]
   simp only[Bool.false_eq_true,if_false,bnd_some]
   have hM:layM a (codeS c) ps n=(a.1,answerS a.2.1 (codeS c),qsA a,(layL (ps.take n)).1,(layL (ps.take n)).2,arA a (codeS c)):=by
    unfold layM headM;rw[if_neg hlt]
   rw[hM] at fin
   exact fin
def outB (o:Unit ⊕ List UInt8):List UInt8:=match o with
 | .inl _=>[]
 | .inr s=>s
theorem build_loop {a:Ak} {c:Ch} {ps:List Pi_} (hn:(a.2.2.1.length:Int)≤maxI) (hp:fewP ps):∀n,n≤ps.length→∃o,loopS (step_reply_Build_0 a c ps) (n:Int)=some o∧outB o=buildW a (codeS c) ps n:=by
 have hend:step_reply_Build_0 a c ps (-1)=some (.inr (.inl ())):=by
  unfold step_reply_Build_0
  simp only[grdEq_self]
  rw[if_neg (by simp)]
 intro n
 induction n with
 | zero =>
  intro hle
  have hs:=build_step (c:=c) hn hp hle
  unfold tryS at hs
  unfold buildW
  split at hs
  · rename_i h
    exact⟨_,loopS_out hs,by rw[if_pos h];rfl⟩
  · rename_i h
    rw[if_neg h]
    split at hs
    · rename_i h2
      exact⟨_,loopS_out hs,by rw[if_pos h2];rfl⟩
    · rename_i h2
      rw[if_neg h2]
      exact⟨_,(loopS_next hs).trans (loopS_out hend),rfl⟩
 | succ n ih =>
  intro hle
  have hs:=build_step (c:=c) hn hp hle
  unfold tryS at hs
  unfold buildW
  split at hs
  · rename_i h
    exact⟨_,loopS_out hs,by rw[if_pos h];rfl⟩
  · rename_i h
    rw[if_neg h]
    split at hs
    · rename_i h2
      exact⟨_,loopS_out hs,by rw[if_pos h2];rfl⟩
    · rename_i h2
      rw[if_neg h2]
      obtain⟨o,h3,h4⟩:=ih (by omega)
      refine⟨o,(loopS_next hs).trans ?_,h4⟩
      rw[←h3]
      congr 1
      omega
theorem build_ref {a:Ak} {c:Ch} {turn:Int} (h:c.2.1<0∨2<c.2.1):buildS a c turn=refuseS a 2:=if_pos h
theorem build_yes {a:Ak} {c:Ch} {turn:Int} (h:¬(c.2.1<0∨2<c.2.1)):buildS a c turn=buildW a (codeS c) (piecesS c turn) (piecesS c turn).length:=if_neg h
theorem reply_Build_eq {a:Ak} {c:Ch} (hn:(a.2.2.1.length:Int)≤maxI) (hc:smallC c=true) (turn:Int):F_reply_Build a c turn=some (buildS a c turn):=by
 unfold F_reply_Build
 simp only[grdEq_self]
 have e1:F_reply_Refuse (a.fst,a.snd.fst,a.snd.snd.fst,a.snd.snd.snd.fst,a.snd.snd.snd.snd.fst,a.snd.snd.snd.snd.snd.fst,a.snd.snd.snd.snd.snd.snd.fst,a.snd.snd.snd.snd.snd.snd.snd.fst,a.snd.snd.snd.snd.snd.snd.snd.snd.fst,a.snd.snd.snd.snd.snd.snd.snd.snd.snd) 2=some (refuseS a 2):=reply_Refuse_eq hn 2
 have e2:F_reply_pieces (c.fst,c.snd.fst,c.snd.snd.fst,c.snd.snd.snd.fst,c.snd.snd.snd.snd.fst,c.snd.snd.snd.snd.snd.fst,c.snd.snd.snd.snd.snd.snd.fst,c.snd.snd.snd.snd.snd.snd.snd.fst,c.snd.snd.snd.snd.snd.snd.snd.snd) turn=some (piecesS c turn):=reply_pieces_eq hc turn
 rw[e1,e2]
 obtain⟨o,h1,h2⟩:=build_loop (c:=c) hn (pieces_few hc turn) (piecesS c turn).length (Nat.le_refl _)
 by_cases h0:c.2.1<0
 · have g:decide (c.2.1<0)=true:=decide_eq_true h0
   rw[build_ref (.inl h0)]
   simp only[g,Bool.true_eq_false,if_false,bnd_some,if_true]
 · have g:decide (c.2.1<0)=false:=decide_eq_false h0
   by_cases h3:2<c.2.1
   · have g3:decide (2<c.2.1)=true:=decide_eq_true h3
     rw[build_ref (.inr h3)]
     simp only[g,if_true,bnd_some,g3]
   · have g3:decide (2<c.2.1)=false:=decide_eq_false h3
     rw[build_yes (by omega),←h2]
     simp only[g,if_true,bnd_some,g3,if_false,Bool.false_eq_true,h1]
     cases o<;>rfl
end Go.Abs

namespace Go.Abs
open Go
@[reducible] def tAk:Ty:=(.agg (.cons (.int .i64) (.cons (.int .i64) (.cons .str (.cons (.int .i64) (.cons (.int .i64) (.cons .bool (.cons (.int .i64) (.cons (.int .i64) (.cons (.int .i64) .bool))))))))))
def okH (a:Ak):Bool:=inC a.1 65535&&(qsA a).all okQ
theorem data41:dataC 41 []=true:=by kernel_rfl
theorem root_name:nameS [0]=true:=by kernel_rfl
theorem optE_ok {e:Int} (h0:0≤e) (h1:e<16) (d:Bool):recC (optE e d)=true:=by
 unfold recC optE inC
 simp only[data41,root_name,Bool.true_and,Bool.and_true,Bool.and_eq_true,decide_eq_true_eq]
 cases d
 · simp;omega
 · simp;omega
theorem arA_ok {a:Ak} {code:Int} (h0:0≤code) (h1:code≤255):(∀r∈arA a code,recC r=true)∧(arA a code).length≤1:=by
 unfold arA
 split
 · exact⟨fun r hr=>by simp only[List.mem_singleton] at hr;subst hr;exact optE_ok (by omega) (by omega) _,by simp⟩
 · exact⟨by simp,by simp⟩
theorem check_head {a:Ak} {bits code:Int} {an ns:List RRt} (h0:0≤code) (h1:code≤255) (hb:0≤bits∧bits≤65535) (n1:an.length≤65535) (n2:ns.length≤65535) (r1:∀r∈an,recC r=true) (r2:∀r∈ns,recC r=true):checkM (headM a bits code an ns)=okH a:=by
 obtain⟨a1,a2⟩:=arA_ok (a:=a) h0 h1
 have q1:(qsA a).length≤1:=by unfold qsA;split<;>simp
 have i1:inC bits 65535=true:=by unfold inC;simp;omega
 have i2:inC ((qsA a).length:Int) 65535=true:=by unfold inC;simp;omega
 have i3:inC (an.length:Int) 65535=true:=by unfold inC;simp;omega
 have i4:inC (ns.length:Int) 65535=true:=by unfold inC;simp;omega
 have i5:inC ((arA a code).length:Int) 65535=true:=by unfold inC;simp;omega
 have l1:an.all recC=true:=by rw[List.all_eq_true];exact r1
 have l2:ns.all recC=true:=by rw[List.all_eq_true];exact r2
 have l3:(arA a code).all recC=true:=by rw[List.all_eq_true];exact a1
 unfold checkM okH headM
 simp only[i1,i2,i3,i4,i5,l1,l2,l3,Bool.and_true]
theorem qs_len {a:Ak} (h:okH a=true):((qsA a).map encQ).flatten.length≤259:=by
 unfold okH at h
 simp only[Bool.and_eq_true,List.all_eq_true] at h
 have:=encQs_len h.2
 have q1:(qsA a).length≤1:=by unfold qsA;split<;>simp
 omega
theorem write_root (base:List UInt8):writeS base 12 [0]=if nameS base=true then [0] else []:=by
 unfold writeS
 rw[lab_root]
 by_cases h:nameS base=true
 · rw[if_pos ⟨h,root_name,by omega,by omega⟩,if_pos h]
   rfl
 · rw[if_neg (fun q=>h q.1),if_neg h]
theorem optE_bytes {base:List UInt8} (hb:nameS base=true) {e:Int} (h0:0≤e) (h1:e<16) (d:Bool):recE base 12 (optE e d)=[0]++tailE (optE e d):=by
 have hw:writeS base 12 (optE e d).1=[0]:=by
  show writeS base 12 [0]=[0]
  rw[write_root,if_pos hb]
 unfold recE
 rw[hw,optE_ok h0 h1,if_neg (by simp)]
theorem tailE_sz (r:RRt):(tailE r).length=10+r.2.2.2.2.length:=by simp[tailE,put2,put4];omega
theorem optE_len {base:List UInt8} (e:Int) (d:Bool):(recE base 12 (optE e d)).length≤11:=by
 have hw:(writeS base 12 (optE e d).1).length≤1:=by
  show (writeS base 12 [0]).length≤1
  rw[write_root]
  split<;>simp
 unfold recE
 split
 · simp
 · rw[List.length_append,tailE_sz]
   simp only[optE,List.length_nil] at hw ⊢
   omega
theorem encs_ar (base:List UInt8) (a:Ak) (code:Int):(encs base (arA a code)).length≤11:=by
 unfold arA
 split
 · rw[encs_cons]
   have:=optE_len (base:=base) (code / 16) a.2.2.2.2.2.2.2.2.2
   simpa[encs] using this
 · simp[encs]
theorem layM_check {a:Ak} {c:Ch} {ps:List Pi_} {n:Nat} (hp:fewP ps):checkM (layM a (codeS c) ps n)=okH a:=by
 have hf:=layL_few (ps:=ps.take n) (fun p h=>hp.2 p (List.mem_of_mem_take h))
 have hl:(ps.take n).length≤13:=by rw[List.length_take];have:=hp.1;omega
 obtain⟨b1,_⟩:=answerS_of a.2.1 (codeS c)
 have hcb:=codeS_b c
 unfold layM
 exact check_head hcb.1 hcb.2 (by split<;>omega) (by omega) (by omega) (fun r hr=>(hf.2.2.1 r hr).1.2.2) (fun r hr=>(hf.2.2.2 r hr).1.2.2)
theorem encM_cases {m:Mt} (hc:checkM m=true):((wholeE m).length≤65535∧encM m=(wholeE m,0))∨(65535<(wholeE m).length∧(encM m).2=6):=by
 rcases Nat.lt_or_ge 65535 (wholeE m).length with h | h
 · refine .inr ⟨h,?_⟩
   by_cases h0:(encM m).2=0
   · have:=(encM_ok h0).2.2;omega
   · rcases (encM_err h0).2 with h1 | ⟨_,h1⟩
     · exact h1
     · rw[hc] at h1;simp at h1
 · exact .inl ⟨h,encM_mk hc h⟩
def fitP (a:Ak) (c:Ch) (ps:List Pi_) (n:Nat):Prop:=((wholeE (layM a (codeS c) ps n)).length:Int)≤limS (oA a)
theorem try_yes {a:Ak} {c:Ch} {ps:List Pi_} {n:Nat} (hp:fewP ps) (h:okH a=true) (hf:fitP a c ps n):encM (layM a (codeS c) ps n)=(wholeE (layM a (codeS c) ps n),0):=by
 have hl:=limS_b (oA a)
 unfold fitP at hf
 rcases encM_cases (m:=layM a (codeS c) ps n) (by rw[layM_check hp];exact h) with ⟨_,h2⟩ | ⟨h1,_⟩
 · exact h2
 · omega
theorem buildW_fit {a:Ak} {c:Ch} {ps:List Pi_} {n:Nat} (hp:fewP ps) (h:okH a=true) (hf:fitP a c ps n):buildW a (codeS c) ps n=wholeE (layM a (codeS c) ps n):=by
 have e:=try_yes hp h hf
 unfold fitP at hf
 cases n with
 | zero=>unfold buildW;rw[e];simp[hf]
 | succ n=>unfold buildW;rw[e];simp[hf]
theorem buildW_not {a:Ak} {c:Ch} {ps:List Pi_} {n:Nat} (hp:fewP ps) (h:okH a=true) (hf:¬fitP a c ps (n+1)):buildW a (codeS c) ps (n+1)=buildW a (codeS c) ps n:=by
 unfold fitP at hf
 rcases encM_cases (m:=layM a (codeS c) ps (n+1)) (by rw[layM_check hp];exact h) with ⟨h1,h2⟩ | ⟨h1,h2⟩
 · conv=>lhs;unfold buildW
   rw[h2]
   simp[hf]
 · conv=>lhs;unfold buildW
   rw[h2]
   simp
theorem whole_zero {a:Ak} {c:Ch} {ps:List Pi_} (hp:fewP ps) (h:okH a=true):fitP a c ps 0:=by
 have hl:=limS_b (oA a)
 unfold fitP
 have hq:=qs_len h
 have e1:layM a (codeS c) ps 0=headM a (if 0<ps.length then answerS a.2.1 (codeS c)+512 else answerS a.2.1 (codeS c)) (codeS c) [] []:=rfl
 rw[e1]
 have e2:∀bits,(wholeE (headM a bits (codeS c) [] [])).length≤282:=by
  intro bits
  have:=encs_ar (baseM (headM a bits (codeS c) [] [])) a (codeS c)
  unfold wholeE
  simp only[List.length_append,headE_len]
  have e3:(headM a bits (codeS c) [] []).2.2.1=qsA a:=rfl
  have e4:(headM a bits (codeS c) [] []).2.2.2.2.2=arA a (codeS c):=rfl
  have e5:∀b,(encs b (headM a bits (codeS c) [] []).2.2.2.1).length=0:=fun b=>rfl
  have e6:∀b,(encs b (headM a bits (codeS c) [] []).2.2.2.2.1).length=0:=fun b=>rfl
  rw[e3,e4,e5,e6]
  omega
 have:=e2 (if 0<ps.length then answerS a.2.1 (codeS c)+512 else answerS a.2.1 (codeS c))
 omega
theorem buildW_spec {a:Ak} {c:Ch} {ps:List Pi_} (hp:fewP ps) (h:okH a=true):∀n,∃k,k≤n∧buildW a (codeS c) ps n=wholeE (layM a (codeS c) ps k)∧fitP a c ps k∧∀j,k<j→j≤n→¬fitP a c ps j:=by
 intro n
 induction n with
 | zero =>
  have h0:=whole_zero (c:=c) hp h
  exact⟨0,Nat.le_refl _,buildW_fit hp h h0,h0,fun j h1 h2=>by omega⟩
 | succ n ih =>
  by_cases hf:fitP a c ps (n+1)
  · exact⟨n+1,Nat.le_refl _,buildW_fit hp h hf,hf,fun j h1 h2=>by omega⟩
  · obtain⟨k,h1,h2,h3,h4⟩:=ih
    refine⟨k,by omega,by rw[buildW_not hp h hf,h2],h3,fun j g1 g2=>?_⟩
    rcases Nat.lt_or_ge n j with g | g
    · have:j=n+1:=by omega
      rw[this];exact hf
    · exact h4 j g1 g
end Go.Abs

namespace Go.Abs
open Go
end Go.Abs

namespace Go.Abs
open Go
end Go.Abs

namespace Go.Abs
open Go
def lastS (ps:List Pi_):Prop:=∀(i:Nat) (p:Pi_),ps[i]? = some p→p.2=true→i+1=ps.length
theorem pieces_last (c:Ch) (turn:Int):lastS (piecesS c turn):=by
 intro i p hp h2
 unfold piecesS at hp ⊢
 rcases Nat.lt_or_ge i (c.1.map (fun h=>(flatS (hitS h) h.2.2.2.2.2 turn,false))).length with hlt | hge
 · rw[List.getElem?_append_left hlt] at hp
   obtain⟨x,_,rfl⟩:=List.mem_map.1 (List.mem_of_getElem? hp)
   simp at h2
 · rw[List.getElem?_append_right hge] at hp
   unfold soaP at hp ⊢
   split at hp
   · simp at hp
   · rename_i h0
     rw[if_neg h0]
     have hi:=(List.getElem?_eq_some_iff.1 hp).1
     simp only[List.length_singleton] at hi
     simp only[List.length_append,List.length_singleton]
     omega
theorem lay_step {ps:List Pi_} {k:Nat} {p:Pi_} (h:ps[k]? = some p):layL (ps.take (k+1))=layP (layL (ps.take k)) p:=by
 rw[take_next h,layL_app]
theorem lay_ns {ps:List Pi_} (hl:lastS ps):∀k,k<ps.length→(layL (ps.take k)).2=[]:=by
 intro k
 induction k with
 | zero=>intro _;rfl
 | succ k ih =>
  intro hk
  have hp:ps[k]? = some ps[k]:=List.getElem?_eq_getElem (by omega)
  rw[lay_step hp]
  have:ps[k].2=false:=by
   cases h2:ps[k].2 with
   | false=>rfl
   | true=>have:=hl k _ hp h2;omega
  unfold layP
  rw[this]
  exact ih (by omega)
theorem lay_grow {ps:List Pi_} (hl:lastS ps) (base:List UInt8):∀(d k:Nat),k+d≤ps.length→(layL (ps.take k)).1.length≤(layL (ps.take (k+d))).1.length∧(layL (ps.take k)).2.length≤(layL (ps.take (k+d))).2.length ∧
 (encs base (layL (ps.take k)).1).length≤(encs base (layL (ps.take (k+d))).1).length∧(encs base (layL (ps.take k)).2).length≤(encs base (layL (ps.take (k+d))).2).length:=by
 intro d
 induction d with
 | zero=>intro k _;exact⟨Nat.le_refl _,Nat.le_refl _,Nat.le_refl _,Nat.le_refl _⟩
 | succ d ih =>
  intro k hk
  obtain⟨i1,i2,i3,i4⟩:=ih k (by omega)
  have hp:ps[k+d]? = some ps[k+d]:=List.getElem?_eq_getElem (by omega)
  have hns:=lay_ns hl (k+d) (by omega)
  have e:k+(d+1)=(k+d)+1:=by omega
  rw[e,lay_step hp]
  unfold layP
  split
  · rw[hns] at i2 i4
    have z2:(layL (ps.take k)).2.length=0:=by simpa using i2
    have z4:(encs base (layL (ps.take k)).2).length=0:=by
     have:(encs base ([]:List RRt)).length=0:=rfl
     omega
    exact⟨i1,by omega,i3,by omega⟩
  · refine⟨by simp only[List.length_append];omega,i2,?_,i4⟩
    rw[encs_app,List.length_append]
    omega
theorem whole_head (a:Ak) (bits code:Int) (an ns:List RRt):(wholeE (headM a bits code an ns)).length=12+((qsA a).map encQ).flatten.length+(encs (baseM (headM a 0 0 [] [])) an).length+(encs (baseM (headM a 0 0 [] [])) ns).length+(encs (baseM (headM a 0 0 [] [])) (arA a code)).length:=by
 unfold wholeE
 simp only[List.length_append,headE_len]
 have e:baseM (headM a bits code an ns)=baseM (headM a 0 0 [] []):=rfl
 rw[e]
 unfold headM
 simp only
 omega
theorem whole_grow {a:Ak} {code:Int} {ps:List Pi_} (hl:lastS ps) {k j:Nat} (h:k≤j) (hj:j≤ps.length):(wholeE (layM a code ps k)).length≤(wholeE (layM a code ps j)).length:=by
 obtain⟨d,rfl⟩:=Nat.exists_eq_add_of_le h
 obtain⟨_,_,i3,i4⟩:=lay_grow hl (baseM (headM a 0 0 [] [])) d k hj
 unfold layM
 rw[whole_head,whole_head]
 omega
end Go.Abs

namespace Go.Abs
open Go
end Go.Abs

namespace Go.Abs
open Go
theorem whole_pos (m:Mt):wholeE m≠[]:=fun h=>by
 have:(wholeE m).length=0:=by rw[h];rfl
 unfold wholeE at this
 simp only[List.length_append,headE_len] at this
 omega
end Go.Abs

namespace Go.Abs
open Go
theorem live19:F_law19_live=some true:=by kernel_rfl
end Go.Abs

namespace Go.Abs
open Go
abbrev Ck:=List UInt8×Int×Int×Int×List UInt8×List Pc×Int×Int×List UInt8×Int×Int×Bool×Int×Int×Int×Bool×Int
def mkC (t:Tt) (a:Ak) (now:Int):Ck:=(t.1,t.2.1,t.2.2.1,t.2.2.2.1,t.2.2.2.2.1,t.2.2.2.2.2,a.1,a.2.1,a.2.2.1,a.2.2.2.1,a.2.2.2.2.1,a.2.2.2.2.2.1,a.2.2.2.2.2.2.1,a.2.2.2.2.2.2.2.1,a.2.2.2.2.2.2.2.2.1,a.2.2.2.2.2.2.2.2.2,now)
theorem patch_in_eq (n m:Int):F_patch_in n m=some (inC n m):=by
 unfold F_patch_in inC
 by_cases h:0≤n<;>simp[h]
def askedS (t:Tt) (a:Ak):Bool:=(lowN a.2.2.1 != [])&&(lowN a.2.2.1==t.1)&&(a.2.2.2.1==t.2.1)&&(a.2.2.2.2.1==t.2.2.1)&&inC a.2.2.2.1 65535&&inC a.2.2.2.2.1 65535
theorem asked_eq {t:Tt} {a:Ak} {now:Int} (hn:(a.2.2.1.length:Int)≤maxI):F_patch_copier_asked (mkC t a now)=some (askedS t a):=by
 unfold F_patch_copier_asked askedS mkC
 simp only[name_Low_eq hn,bnd_some,grdEq_self,patch_in_eq]
 by_cases h1:lowN a.2.2.1=[]
 · simp[h1]
 · by_cases h2:lowN a.2.2.1=t.1
   · by_cases h3:a.2.2.2.1=t.2.1
     · by_cases h4:a.2.2.2.2.1=t.2.2.1
       · have g1:¬t.1=[]:=fun e=>h1 (by rw[h2,e])
         cases h5:inC t.2.1 65535<;>simp[h1,h2,h3,h4,h5,g1]
       · simp[h1,h2,h3,h4]
     · simp[h1,h2,h3]
   · simp[h1,h2]
def soaR (ps:List Pc):Bool ⊕ Unit:=scanF (fun i p=>if (!p.2.2 || decide (i+1=ps.length))=true then none else some (.inl false)) (.inr ()) 0 ps
def soaB (ps:List Pc):Bool:=match soaR ps with | .inr _=>true | .inl _=>false
def fitsS (t:Tt) (a:Ak) (now:Int):Bool:=soaB t.2.2.2.2.2&&checkT t&&liveT t now&&inC t.2.2.2.1 15&&inC a.1 65535&&askedS t a
theorem fits_eq {t:Tt} {a:Ak} {now:Int} (ht:okT t) (hn:(a.2.2.1.length:Int)≤maxI):F_patch_copier_fits (mkC t a now)=some (fitsS t a now):=by
 have hm:maxI=9223372036854775807:=rfl
 have hl:(t.2.2.2.2.2.length:Int)≤maxI:=ht.2.1
 unfold F_patch_copier_fits
 have e0:loopS (step_patch_copier_fits_0 (mkC t a now)) 0=some (soaR t.2.2.2.2.2):=by
  refine loop_scan (l:=t.2.2.2.2.2) _ _ (fun i x hx=>?_) ?_
  · have hi:=(List.getElem?_eq_some_iff.1 hx).1
    have hc:(mkC t a now).2.2.2.2.2.1=t.2.2.2.2.2:=rfl
    unfold step_patch_copier_fits_0
    simp only[grdEq_self,hc]
    rw[if_pos (by simp;omega),natOf_nat,hx,bnd_some,wrap_id (show -9223372036854775808≤(i:Int)+1 by omega) (by omega),wrap_id (show -9223372036854775808≤(t.2.2.2.2.2.length:Int)-1 by omega) (by omega)]
    cases h2:x.2.2 with
    | false=>simp
    | true =>
     by_cases h3:i+1=t.2.2.2.2.2.length
     · have:((i:Int) != (t.2.2.2.2.2.length:Int)-1)=false:=by simp;omega
       simp[h3,this]
       omega
     · have:((i:Int) != (t.2.2.2.2.2.length:Int)-1)=true:=by simp;omega
       simp[h3,this]
  · have hc:(mkC t a now).2.2.2.2.2.1=t.2.2.2.2.2:=rfl
    unfold step_patch_copier_fits_0
    simp only[grdEq_self,hc]
    rw[if_neg (by simp)]
 rw[e0,bnd_some]
 unfold fitsS soaB
 have e1:F_tmpl_Template_Check ((mkC t a now).1,(mkC t a now).2.1,(mkC t a now).2.2.1,(mkC t a now).2.2.2.1,(mkC t a now).2.2.2.2.1,(mkC t a now).2.2.2.2.2.1)=some (checkT t):=tmpl_Check_eq ht
 have e2:F_tmpl_Template_Live ((mkC t a now).1,(mkC t a now).2.1,(mkC t a now).2.2.1,(mkC t a now).2.2.2.1,(mkC t a now).2.2.2.2.1,(mkC t a now).2.2.2.2.2.1) now=some (liveT t now):=tmpl_Live_eq hl now
 have e3:=asked_eq (t:=t) (a:=a) (now:=now) hn
 have hs:soaR t.2.2.2.2.2=.inr ()∨soaR t.2.2.2.2.2=.inl false:=scan_val (ok:=fun (i:Nat) (p:Pc)=>!p.2.2 || decide (i+1=t.2.2.2.2.2.length)) t.2.2.2.2.2 0
 rcases hs with hs | hs
 · rw[hs]
   simp only[grdEq_self]
   have h17:(mkC t a now).2.2.2.2.2.2.2.2.2.2.2.2.2.2.2.2=now:=rfl
   rw[e1,bnd_some,h17,e2,bnd_some]
   have h4:(mkC t a now).2.2.2.1=t.2.2.2.1:=rfl
   have h7:(mkC t a now).2.2.2.2.2.2.1=a.1:=rfl
   rw[h4,h7,patch_in_eq,bnd_some,patch_in_eq,bnd_some]
   have e3':F_patch_copier_asked ((mkC t a now).1,(mkC t a now).2.1,(mkC t a now).2.2.1,t.2.2.2.1,(mkC t a now).2.2.2.2.1,(mkC t a now).2.2.2.2.2.1,a.1,(mkC t a now).2.2.2.2.2.2.2.1,(mkC t a now).2.2.2.2.2.2.2.2.1,(mkC t a now).2.2.2.2.2.2.2.2.2.1,(mkC t a now).2.2.2.2.2.2.2.2.2.2.1,(mkC t a now).2.2.2.2.2.2.2.2.2.2.2.1,(mkC t a now).2.2.2.2.2.2.2.2.2.2.2.2.1,(mkC t a now).2.2.2.2.2.2.2.2.2.2.2.2.2.1,(mkC t a now).2.2.2.2.2.2.2.2.2.2.2.2.2.2.1,(mkC t a now).2.2.2.2.2.2.2.2.2.2.2.2.2.2.2.1,now)=some (askedS t a):=e3
   rw[e3',bnd_some]
   cases checkT t<;>cases liveT t now<;>cases inC t.2.2.2.1 15<;>cases inC a.1 65535<;>rfl
 · rw[hs];rfl
def sumS (l:List Sp):Int:=(l.map fun s=>s.2.1-s.1).sum
theorem sumS_app (l:List Sp) (s:Sp):sumS (l++[s])=sumS l+(s.2.1-s.1):=by simp[sumS]
theorem sumS_b {n:Nat}:∀l:List Sp,(∀s∈l,spanC n s=true)→0≤sumS l∧sumS l≤n*l.length:=by
 intro l
 induction l with
 | nil=>intro _;simp[sumS]
 | cons s l ih =>
  intro hs
  obtain⟨i1,i2⟩:=ih (fun x hx=>hs x (by simp[hx]))
  have:=spanC_iff.1 (hs s (by simp))
  have e1:sumS (s::l)=(s.2.1-s.1)+sumS l:=by simp[sumS]
  have e:(n:Int)*(((s::l).length:Nat):Int)=(n:Int)*(l.length:Int)+n:=by rw[List.length_cons,Int.natCast_add,Int.mul_add];simp
  rw[e1]
  constructor
  · omega
  · rw[e];omega
def bytesP (p:Pc):Int:=sumS p.1
theorem mul_b {n k:Nat} (hn:n≤2000000) (hk:k≤1000):(n:Int)*(k:Int)≤2000000000:=by
 have:=Nat.mul_le_mul hn hk
 have e:(n:Int)*(k:Int)=((n*k:Nat):Int):=by simp
 omega
theorem bytesP_b {n:Nat} {p:Pc} (hn:n≤2000000) (hl:p.1.length≤1000) (h:pieceC n p=true):0≤bytesP p∧bytesP p≤2000000000:=by
 have:=sumS_b p.1 (pieceC_iff h).2
 have:=mul_b hn hl
 unfold bytesP
 omega
theorem bytes_eq {n:Nat} {p:Pc} (hn:n≤2000000) (hl:p.1.length≤1000) (h:pieceC n p=true):F_patch_bytes p=some (bytesP p):=by
 obtain⟨_,h2⟩:=pieceC_iff h
 unfold F_patch_bytes
 have hb:∀i,0≤sumS (p.1.take i)∧sumS (p.1.take i)≤2000000000:=by
  intro i
  have b1:=sumS_b (n:=n) (p.1.take i) (fun s hs=>h2 s (List.mem_of_mem_take hs))
  have b2:(p.1.take i).length≤1000:=by rw[List.length_take];omega
  have:=mul_b hn b2
  omega
 have key:=loop_run (step:=step_patch_bytes_0 p) (t:=sumS p.1) (s:=fun i=>(sumS (p.1.take i),(i:Int))) p.1.length (fun i hi=>by
  have hx:p.1[i]? = some p.1[i]:=List.getElem?_eq_getElem hi
  have hs:=spanC_iff.1 (h2 p.1[i] (List.getElem_mem hi))
  have b1:=hb i
  have b2:=hb (i+1)
  have e:sumS (p.1.take (i+1))=sumS (p.1.take i)+(p.1[i].2.1-p.1[i].1):=by rw[take_next hx,sumS_app]
  unfold step_patch_bytes_0
  simp only[grdEq_self]
  rw[if_pos (by simp;omega),natOf_nat,hx,bnd_some,wrap_id (x:=p.1[i].2.1-p.1[i].1) (by omega) (by omega),wrap_id (x:=sumS (p.1.take i)+(p.1[i].2.1-p.1[i].1)) (by omega) (by omega),wrap_id (x:=(i:Int)+1) (by omega) (by omega),e]
  rfl) (by
  unfold step_patch_bytes_0
  simp only[grdEq_self]
  rw[if_neg (by simp),List.take_of_length_le (Nat.le_refl _)])
 have e0:loopS (step_patch_bytes_0 p) (0,0)=some (sumS p.1):=key
 rw[e0,bnd_some]
 rfl
def roomL (lim:Int):Int→Nat→List Pc→Int×Int
 | n,i,[]=>((i:Int),n)
 | n,i,p::ps=>if lim<n+bytesP p then ((i:Int),n) else roomL lim (n+bytesP p) (i+1) ps
def room0 (a:Ak):Int:=if a.2.2.2.2.2.1=true then 12+(a.2.2.1.length:Int)+4+11 else 12+(a.2.2.1.length:Int)+4
def roomS (t:Tt) (a:Ak):Int×Int:=roomL (limS (oA a)) (room0 a) 0 t.2.2.2.2.2
def outR (t:Tt) (o:(Int×Int) ⊕ Int):Int×Int:=match o with
 | .inl x=>x
 | .inr n=>((t.2.2.2.2.2.length:Int),n)
theorem room_loop {t:Tt} {a:Ak} {now lim:Int} (hf:fewT t) (hc:checkT t=true) (hlim:lim≤4096):∀(v u:List Pc) (n:Int),t.2.2.2.2.2=u++v→0≤n→n≤100000 →
 ∃o,loopS (step_patch_copier_room_0 (mkC t a now) lim) (n,(u.length:Int))=some o∧outR t o=roomL lim n u.length v:=by
 obtain⟨f1,f2,f3⟩:=hf
 have hcc:∀p∈t.2.2.2.2.2,pieceC t.2.2.2.2.1.length p=true:=by unfold checkT at hc;exact List.all_eq_true.1 hc
 have h5:(mkC t a now).2.2.2.2.2.1=t.2.2.2.2.2:=rfl
 intro v
 induction v with
 | nil =>
  intro u n hu h0 h1
  rw[List.append_nil] at hu
  refine⟨.inr n,loopS_out ?_,?_⟩
  · unfold step_patch_copier_room_0
    simp only[grdEq_self,h5]
    rw[hu,if_neg (by simp)]
  · unfold roomL outR
    rw[hu]
 | cons x v ih =>
  intro u n hu h0 h1
  have hx:t.2.2.2.2.2[u.length]? = some x:=by rw[hu];simp
  have hi:=(List.getElem?_eq_some_iff.1 hx).1
  have hm:x∈t.2.2.2.2.2:=List.mem_of_getElem? hx
  have hb:=bytesP_b f1 (f3 x hm).1 (hcc x hm)
  have he:F_patch_bytes (x.1,x.2.1,x.2.2)=some (bytesP x):=bytes_eq f1 (f3 x hm).1 (hcc x hm)
  by_cases hl:lim<n+bytesP x
  · refine⟨.inl ((u.length:Int),n),loopS_out ?_,?_⟩
    · unfold step_patch_copier_room_0
      simp only[grdEq_self,h5]
      rw[if_pos (by simp;omega),natOf_nat,hx,bnd_some,he,bnd_some,wrap_id (x:=n+bytesP x) (by omega) (by omega),if_pos (by simp;omega)]
    · unfold roomL outR
      rw[if_pos hl]
  · obtain⟨o,e1,e2⟩:=ih (u++[x]) (n+bytesP x) (by rw[hu];simp) (by omega) (by omega)
    refine⟨o,?_,?_⟩
    · rw[List.length_append,List.length_singleton] at e1
      refine (loopS_next ?_).trans e1
      unfold step_patch_copier_room_0
      simp only[grdEq_self,h5]
      rw[if_pos (by simp;omega),natOf_nat,hx,bnd_some,he,bnd_some,wrap_id (x:=n+bytesP x) (by omega) (by omega),if_neg (by simp;omega),wrap_id (x:=(u.length:Int)+1) (by omega) (by omega)]
      rfl
    · rw[e2]
      conv=>rhs;unfold roomL
      rw[if_neg hl,List.length_append,List.length_singleton]
theorem room_eq {t:Tt} {a:Ak} {now:Int} (hf:fewT t) (hc:checkT t=true) (hn:a.2.2.1.length≤60000):F_patch_copier_room (mkC t a now)=some (roomS t a):=by
 unfold F_patch_copier_room
 have hlim:=limS_b (oA a)
 have e1:(if (mkC t a now).2.2.2.2.2.2.2.2.2.2.2.1=true then some (Go.IntKind.i64.wrap (Go.IntKind.i64.wrap (Go.IntKind.i64.wrap (12+(((mkC t a now).2.2.2.2.2.2.2.2.1.length:Nat):Int))+4)+11)) else some (Go.IntKind.i64.wrap (Go.IntKind.i64.wrap (12+(((mkC t a now).2.2.2.2.2.2.2.2.1.length:Nat):Int))+4)))=some (room0 a):=by
  have h8:(mkC t a now).2.2.2.2.2.2.2.2.1=a.2.2.1:=rfl
  have h11:(mkC t a now).2.2.2.2.2.2.2.2.2.2.2.1=a.2.2.2.2.2.1:=rfl
  rw[h8,h11,wrap_id (x:=12+(a.2.2.1.length:Int)) (by omega) (by omega),wrap_id (x:=12+(a.2.2.1.length:Int)+4) (by omega) (by omega),wrap_id (x:=12+(a.2.2.1.length:Int)+4+11) (by omega) (by omega)]
  unfold room0
  split<;>rfl
 have e2:F_edns_Opt_Limit ((mkC t a now).2.2.2.2.2.2.2.2.2.2.2.1,(mkC t a now).2.2.2.2.2.2.2.2.2.2.2.2.1,(mkC t a now).2.2.2.2.2.2.2.2.2.2.2.2.2.1,(mkC t a now).2.2.2.2.2.2.2.2.2.2.2.2.2.2.1,(mkC t a now).2.2.2.2.2.2.2.2.2.2.2.2.2.2.2.1)=some (limS (oA a)):=limit_eq (oA a)
 have h0:0≤room0 a∧room0 a≤100000:=by unfold room0;split<;>omega
 obtain⟨o,l1,l2⟩:=room_loop (a:=a) (now:=now) (lim:=limS (oA a)) hf hc hlim.2 t.2.2.2.2.2 [] (room0 a) rfl h0.1 h0.2
 simp only[grdEq_self]
 rw[e1,bnd_some,e2,bnd_some]
 have l1':loopS (step_patch_copier_room_0 (mkC t a now) (limS (oA a))) (room0 a,0)=some o:=l1
 rw[l1',bnd_some]
 have:roomS t a=outR t o:=l2.symm
 rw[this]
 cases o<;>rfl
end Go.Abs

namespace Go.Abs
open Go
def smT (t:Tt):Prop:=fewT t∧t.2.2.2.2.2.length≤20∧∀p∈t.2.2.2.2.2,p.1.length≤60
def cntA (l:List Pc):Nat:=(l.map fun p=>if p.2.2=true then 0 else p.1.length).sum
def cntN (l:List Pc):Nat:=(l.map fun p=>if p.2.2=true then p.1.length else 0).sum
theorem cntA_app (l:List Pc) (p:Pc):cntA (l++[p])=cntA l+if p.2.2=true then 0 else p.1.length:=by simp[cntA]
theorem cntN_app (l:List Pc) (p:Pc):cntN (l++[p])=cntN l+if p.2.2=true then p.1.length else 0:=by simp[cntN]
theorem cnt_b:∀l:List Pc,(∀p∈l,p.1.length≤60)→cntA l≤60*l.length∧cntN l≤60*l.length:=by
 intro l
 induction l with
 | nil=>intro _;simp[cntA,cntN]
 | cons p l ih =>
  intro h
  obtain⟨i1,i2⟩:=ih (fun x hx=>h x (by simp[hx]))
  have:=h p (by simp)
  have e1:cntA (p::l)=(if p.2.2=true then 0 else p.1.length)+cntA l:=by simp[cntA]
  have e2:cntN (p::l)=(if p.2.2=true then p.1.length else 0)+cntN l:=by simp[cntN]
  rw[e1,e2,List.length_cons]
  split<;>omega
theorem counts_eq {l:List Pc} (hl:l.length≤1000) (hp:∀p∈l,p.1.length≤60):F_patch_counts l=some ((cntA l:Int),(cntN l:Int)):=by
 unfold F_patch_counts
 have hb:∀i,cntA (l.take i)≤60000∧cntN (l.take i)≤60000:=by
  intro i
  have:=cnt_b (l.take i) (fun p h=>hp p (List.mem_of_mem_take h))
  have:(l.take i).length≤1000:=by rw[List.length_take];omega
  omega
 have key:=loop_run (step:=step_patch_counts_0 l) (t:=((cntA l:Int),(cntN l:Int))) (s:=fun i=>((cntA (l.take i):Int),(cntN (l.take i):Int),(i:Int))) l.length (fun i hi=>by
  have hx:l[i]? = some l[i]:=List.getElem?_eq_getElem hi
  have b1:=hb i
  have hq:=hp l[i] (List.getElem_mem hi)
  have e1:cntA (l.take (i+1))=cntA (l.take i)+if l[i].2.2=true then 0 else l[i].1.length:=by rw[take_next hx,cntA_app]
  have e2:cntN (l.take (i+1))=cntN (l.take i)+if l[i].2.2=true then l[i].1.length else 0:=by rw[take_next hx,cntN_app]
  unfold step_patch_counts_0
  simp only[grdEq_self]
  rw[if_pos (by simp;omega),natOf_nat,hx,bnd_some,e1,e2,wrap_id (x:=(i:Int)+1) (by omega) (by omega),wrap_id (x:=(cntA (l.take i):Int)+(l[i].1.length:Int)) (by omega) (by omega),wrap_id (x:=(cntN (l.take i):Int)+(l[i].1.length:Int)) (by omega) (by omega)]
  cases l[i].2.2<;>rfl) (by
  unfold step_patch_counts_0
  simp only[grdEq_self]
  rw[if_neg (by simp),List.take_of_length_le (Nat.le_refl _)])
 have e0:loopS (step_patch_counts_0 l) (0,(0,0))=some ((cntA l:Int),(cntN l:Int)):=key
 rw[e0,bnd_some]
def optC (a:Ak):List UInt8×Int:=if a.2.2.2.2.2.1=true then ([0]++tailE (optE 0 a.2.2.2.2.2.2.2.2.2),1) else ([],0)
theorem two_eq {n:Int} (h0:0≤n) (h1:n<65536):F_patch_two n=some (put2 n):=by
 unfold F_patch_two
 rw[octet_put2 h0 h1,bnd_some]
theorem opt_eq (t:Tt) (a:Ak) (now:Int):F_patch_copier_opt (mkC t a now)=some (optC a):=by
 unfold F_patch_copier_opt optC
 have h11:(mkC t a now).2.2.2.2.2.2.2.2.2.2.2.1=a.2.2.2.2.2.1:=rfl
 have h15:(mkC t a now).2.2.2.2.2.2.2.2.2.2.2.2.2.2.2.1=a.2.2.2.2.2.2.2.2.2:=rfl
 simp only[grdEq_self]
 rw[h11]
 cases h:a.2.2.2.2.2.1 with
 | false=>rfl
 | true =>
  rw[if_neg (by simp),if_pos rfl,h15]
  generalize a.2.2.2.2.2.2.2.2.2=d
  have hm:maxStr=4611686018427387904∨True:=.inr trivial
  rw[opt_Record_eq (by omega) (by omega),bnd_some]
  have w1:F_patch_two (optE 0 d).2.1=some (put2 41):=two_eq (n:=41) (by decide) (by decide)
  have w2:F_patch_two (optE 0 d).2.2.1=some (put2 4096):=two_eq (n:=4096) (by decide) (by decide)
  have w3:F_octet_Put (optE 0 d).2.2.2.1 4=some (put4 (optE 0 d).2.2.2.1):=octet_put4 (by cases d<;>decide) (by cases d<;>decide)
  have w4:F_patch_two 0=some (put2 0):=two_eq (by decide) (by decide)
  show bnd (F_patch_two (optE 0 d).2.1) _=_
  rw[w1,bnd_some]
  refine Eq.trans (grdp (by simp[optE,put2,maxStr])) ?_
  show bnd (F_patch_two (optE 0 d).2.2.1) _=_
  rw[w2,bnd_some]
  refine Eq.trans (grdp (by simp[optE,put2,maxStr])) ?_
  show bnd (F_octet_Put (optE 0 d).2.2.2.1 4) _=_
  rw[w3,bnd_some]
  refine Eq.trans (grdp (by simp[optE,put2,put4,maxStr])) ?_
  show bnd (F_patch_two 0) _=_
  rw[w4,bnd_some]
  refine Eq.trans (grdp (by simp[optE,put2,put4,maxStr])) ?_
  cases d<;>rfl
theorem room_k {lim:Int}:∀(ps:List Pc) (n:Int) (i:Nat),∃k,k≤ps.length∧(roomL lim n i ps).1=((i+k:Nat):Int):=by
 intro ps
 induction ps with
 | nil=>intro n i;exact⟨0,by simp,rfl⟩
 | cons p ps ih =>
  intro n i
  unfold roomL
  split
  · exact⟨0,by simp,rfl⟩
  · obtain⟨k,h1,h2⟩:=ih (n+bytesP p) (i+1)
    exact⟨k+1,by simp;omega,by rw[h2];omega⟩
theorem room_many (t:Tt) (a:Ak):∃k,k≤t.2.2.2.2.2.length∧(roomS t a).1=(k:Int):=by
 obtain⟨k,h1,h2⟩:=room_k (lim:=limS (oA a)) t.2.2.2.2.2 (room0 a) 0
 exact⟨k,h1,by unfold roomS;rw[h2];omega⟩
def manyC (t:Tt) (a:Ak):Nat:=(roomS t a).1.toNat
theorem manyC_eq (t:Tt) (a:Ak):(roomS t a).1=(manyC t a:Int)∧manyC t a≤t.2.2.2.2.2.length:=by
 obtain⟨k,h1,h2⟩:=room_many t a
 unfold manyC
 rw[h2]
 exact⟨by omega,by omega⟩
def bitsC (t:Tt) (a:Ak):Int:=if manyC t a<t.2.2.2.2.2.length then answerS a.2.1 t.2.2.2.1+512 else answerS a.2.1 t.2.2.2.1
def headL (t:Tt) (a:Ak):List Int:=[a.1,bitsC t a,1,(cntA (t.2.2.2.2.2.take (manyC t a)):Int),(cntN (t.2.2.2.2.2.take (manyC t a)):Int),(optC a).2]
def partsS (t:Tt) (m:Nat) (now turn:Int):List UInt8:=(List.range m).flatMap fun (i:Nat)=>partS t (i:Int) now turn
def askC (a:Ak):List UInt8:=a.2.2.1++put2 a.2.2.2.1++put2 a.2.2.2.2.1
def copyS (t:Tt) (a:Ak) (now turn:Int):List UInt8:=(headL t a).flatMap put2++askC a++partsS t (manyC t a) now turn++(optC a).1
theorem part_b {t:Tt} (hf:fewT t) (hc:checkT t=true) (i now turn:Int):(partS t i now turn).length≤2000000000:=by
 obtain⟨f1,f2,f3⟩:=hf
 have hcc:∀p∈t.2.2.2.2.2,pieceC t.2.2.2.2.1.length p=true:=by unfold checkT at hc;exact List.all_eq_true.1 hc
 unfold partS
 split
 · simp
 · split
   · simp
   · rename_i p hp
     have hm:=List.mem_of_getElem? hp
     split
     · unfold partT
       have:=flat_len (g:=spanB t.2.2.2.2.1 (put4 (leftS now p.2.1))) (b:=2000000) (rot p.1 (if p.2.2=true then 0 else turn.toNat % p.1.length)) (fun s hs=>by
        have hs':=(pieceC_iff (hcc p hm)).2 s (rot_mem hs)
        rw[spanB_len (put4_len _) hs']
        have:=spanC_iff.1 hs'
        omega)
       rw[rot_len] at this
       have h3:=Nat.mul_le_mul_left 2000000 (f3 p hm).1
       omega
     · simp
theorem parts_next (t:Tt) (m:Nat) (now turn:Int):partsS t (m+1) now turn=partsS t m now turn++partS t (m:Int) now turn:=by
 unfold partsS
 rw[List.range_succ,List.flatMap_append]
 simp
theorem parts_b {t:Tt} (hf:fewT t) (hc:checkT t=true) (now turn:Int):∀m,(partsS t m now turn).length≤2000000000*m:=by
 intro m
 induction m with
 | zero=>simp[partsS]
 | succ m ih =>
  rw[parts_next,List.length_append]
  have:=part_b hf hc (m:Int) now turn
  omega
theorem optC_b (a:Ak):(optC a).1.length≤11∧0≤(optC a).2∧(optC a).2≤1:=by
 unfold optC
 split
 · refine⟨?_,by simp,by simp⟩
   show ([0]++tailE (optE 0 a.2.2.2.2.2.2.2.2.2)).length≤11
   rw[List.length_append,tailE_sz]
   simp[optE]
 · simp
theorem put2_len (n:Int):(put2 n).length=2:=rfl
theorem put2s_len (l:List Int):(l.flatMap put2).length=2*l.length:=by
 induction l with
 | nil=>rfl
 | cons x l ih=>rw[List.flatMap_cons,List.length_append,ih,List.length_cons,put2_len];omega
theorem fits_parts {t:Tt} {a:Ak} {now:Int} (h:fitsS t a now=true):checkT t=true∧liveT t now=true∧(0≤t.2.2.2.1∧t.2.2.2.1≤15)∧(0≤a.1∧a.1≤65535)∧lowN a.2.2.1≠[]∧lowN a.2.2.1=t.1∧a.2.2.2.1=t.2.1∧a.2.2.2.2.1=t.2.2.1∧(0≤a.2.2.2.1∧a.2.2.2.1≤65535)∧(0≤a.2.2.2.2.1∧a.2.2.2.2.1≤65535)∧soaB t.2.2.2.2.2=true:=by
 unfold fitsS askedS inC at h
 simp only[Bool.and_eq_true,decide_eq_true_eq,bne_iff_ne,beq_iff_eq,ne_eq] at h
 obtain⟨⟨⟨⟨⟨h1,h2⟩,h3⟩,h4⟩,h5⟩,⟨⟨⟨⟨⟨h6,h7⟩,h8⟩,h9⟩,h10⟩,h11⟩⟩:=h
 exact⟨h2,h3,h4,h5,h6,h7,h8,h9,h10,h11,h1⟩
theorem bitsC_b {t:Tt} {a:Ak} (h:0≤t.2.2.2.1∧t.2.2.2.1≤15):0≤bitsC t a∧bitsC t a≤65535:=by
 have:=(answerS_of a.2.1 t.2.2.2.1).1
 unfold bitsC
 split<;>omega
theorem headL_b {t:Tt} {a:Ak} {now:Int} (hs:smT t) (h:fitsS t a now=true):∀x∈headL t a,0≤x∧x<65536:=by
 obtain⟨_,_,h3,h4,_⟩:=fits_parts h
 have hb:=bitsC_b (t:=t) (a:=a) h3
 have hc:=cnt_b (t.2.2.2.2.2.take (manyC t a)) (fun p hp=>hs.2.2 p (List.mem_of_mem_take hp))
 have hl:(t.2.2.2.2.2.take (manyC t a)).length≤20:=by rw[List.length_take];have:=hs.2.1;omega
 have ho:=optC_b a
 intro x hx
 unfold headL at hx
 simp only[List.mem_cons,List.not_mem_nil,or_false] at hx
 rcases hx with rfl | rfl | rfl | rfl | rfl | rfl<;>omega
theorem copy_eq {t:Tt} {a:Ak} {now turn:Int} (hs:smT t) (hn:a.2.2.1.length≤60000) (h:fitsS t a now=true):F_patch_copier_copy (mkC t a now) turn=some (copyS t a now turn):=by
 obtain⟨hc,_,h3,h4,_,_,_,_,h5,h6,_⟩:=fits_parts h
 have hf:=hs.1
 obtain⟨m1,m2⟩:=manyC_eq t a
 have hL:=headL_b hs h
 have ml:manyC t a≤20:=Nat.le_trans m2 hs.2.1
 have ho:=optC_b a
 unfold F_patch_copier_copy
 have h0:(mkC t a now).2.2.2.2.2.2.1=a.1:=rfl
 have hp5:(mkC t a now).2.2.2.2.2.1=t.2.2.2.2.2:=rfl
 have h7:(mkC t a now).2.2.2.2.2.2.2.1=a.2.1:=rfl
 have hcd:(mkC t a now).2.2.2.1=t.2.2.2.1:=rfl
 have h8:(mkC t a now).2.2.2.2.2.2.2.2.1=a.2.2.1:=rfl
 have h9:(mkC t a now).2.2.2.2.2.2.2.2.2.1=a.2.2.2.1:=rfl
 have h10:(mkC t a now).2.2.2.2.2.2.2.2.2.2.1=a.2.2.2.2.1:=rfl
 have e1:F_patch_copier_room ((mkC t a now).1,(mkC t a now).2.1,(mkC t a now).2.2.1,(mkC t a now).2.2.2.1,(mkC t a now).2.2.2.2.1,(mkC t a now).2.2.2.2.2.1,(mkC t a now).2.2.2.2.2.2.1,(mkC t a now).2.2.2.2.2.2.2.1,(mkC t a now).2.2.2.2.2.2.2.2.1,(mkC t a now).2.2.2.2.2.2.2.2.2.1,(mkC t a now).2.2.2.2.2.2.2.2.2.2.1,(mkC t a now).2.2.2.2.2.2.2.2.2.2.2.1,(mkC t a now).2.2.2.2.2.2.2.2.2.2.2.2.1,(mkC t a now).2.2.2.2.2.2.2.2.2.2.2.2.2.1,(mkC t a now).2.2.2.2.2.2.2.2.2.2.2.2.2.2.1,(mkC t a now).2.2.2.2.2.2.2.2.2.2.2.2.2.2.2.1,(mkC t a now).2.2.2.2.2.2.2.2.2.2.2.2.2.2.2.2)=some (roomS t a):=room_eq hf hc hn
 have e2:F_patch_copier_opt ((mkC t a now).1,(mkC t a now).2.1,(mkC t a now).2.2.1,(mkC t a now).2.2.2.1,(mkC t a now).2.2.2.2.1,(mkC t a now).2.2.2.2.2.1,(mkC t a now).2.2.2.2.2.2.1,(mkC t a now).2.2.2.2.2.2.2.1,(mkC t a now).2.2.2.2.2.2.2.2.1,(mkC t a now).2.2.2.2.2.2.2.2.2.1,(mkC t a now).2.2.2.2.2.2.2.2.2.2.1,(mkC t a now).2.2.2.2.2.2.2.2.2.2.2.1,(mkC t a now).2.2.2.2.2.2.2.2.2.2.2.2.1,(mkC t a now).2.2.2.2.2.2.2.2.2.2.2.2.2.1,(mkC t a now).2.2.2.2.2.2.2.2.2.2.2.2.2.2.1,(mkC t a now).2.2.2.2.2.2.2.2.2.2.2.2.2.2.2.1,(mkC t a now).2.2.2.2.2.2.2.2.2.2.2.2.2.2.2.2)=some (optC a):=opt_eq t a now
 have er:roomS t a=((manyC t a:Int),(roomS t a).2):=by rw[←m1]
 have e3:(if decide ((manyC t a:Int)<((List.length t.2.2.2.2.2:Nat):Int))=true then bnd (F_flag_Field_With 3 (answerS a.2.1 t.2.2.2.1) 1) fun x=>match x with | (v6,v7)=>some v6 else some (answerS a.2.1 t.2.2.2.1))=some (bitsC t a):=by
  unfold bitsC
  rw[answerS_TC,bnd_some]
  by_cases hq:manyC t a<t.2.2.2.2.2.length
  · rw[if_pos (by simp;omega),if_pos hq]
  · rw[if_neg (by simp;omega),if_neg hq]
 have hcn:F_patch_counts (t.2.2.2.2.2.take (manyC t a))=some ((cntA (t.2.2.2.2.2.take (manyC t a)):Int),(cntN (t.2.2.2.2.2.take (manyC t a)):Int)):=counts_eq (by rw[List.length_take];omega) (fun p hp=>hs.2.2 p (List.mem_of_mem_take hp))
 simp only[grdEq_self]
 rw[e1,er]
 simp only[bnd_some,h7,hcd,hp5]
 rw[flag_Answer_eq h3.1 (by omega),bnd_some]
 refine Eq.trans (congrArg (fun o=>bnd o _) e3) ?_
 rw[bnd_some,natOf_nat,grdp m2,hcn]
 simp only[bnd_some]
 simp only[h7,hcd,hp5] at e2
 rw[e2]
 simp only[bnd_some]
 have l0:loopS (step_patch_copier_copy_0 (mkC t a now) turn (manyC t a:Int) (bitsC t a) (cntA (t.2.2.2.2.2.take (manyC t a)):Int) (cntN (t.2.2.2.2.2.take (manyC t a)):Int) (optC a).1 (optC a).2) (0,[])=some (ints ((headL t a).flatMap put2)):=by
  have key:=loop_run (step:=step_patch_copier_copy_0 (mkC t a now) turn (manyC t a:Int) (bitsC t a) (cntA (t.2.2.2.2.2.take (manyC t a)):Int) (cntN (t.2.2.2.2.2.take (manyC t a)):Int) (optC a).1 (optC a).2) (t:=ints ((headL t a).flatMap put2)) (s:=fun i=>((i:Int),ints (((headL t a).take i).flatMap put2))) 6 (fun i hi=>by
   have hx:(headL t a)[i]? = some (headL t a)[i]:=List.getElem?_eq_getElem hi
   have hx':[(mkC t a now).2.2.2.2.2.2.1,bitsC t a,1,(cntA (t.2.2.2.2.2.take (manyC t a)):Int),(cntN (t.2.2.2.2.2.take (manyC t a)):Int),(optC a).2][i]? = some (headL t a)[i]:=hx
   have hb:=hL _ (List.getElem_mem hi)
   have e:((headL t a).take (i+1)).flatMap put2=((headL t a).take i).flatMap put2++put2 (headL t a)[i]:=by rw[take_next hx,List.flatMap_append];simp
   have hl:=put2s_len ((headL t a).take i)
   have hl2:((headL t a).take i).length≤6:=by rw[List.length_take];exact Nat.min_le_right _ _
   unfold step_patch_copier_copy_0
   simp only[grdEq_self]
   rw[if_pos (by simp;omega),natOf_nat,hx',bnd_some,two_eq hb.1 hb.2,bnd_some,e]
   simp only[ints_map]
   refine Eq.trans (grdp (by rw[ints_length,ints_length,put2_len];unfold roomLim;omega)) ?_
   rw[wrap_id (x:=(i:Int)+1) (by omega) (by omega),ints_app]
   rfl) (by
   unfold step_patch_copier_copy_0
   simp only[grdEq_self]
   rw[if_neg (by simp)]
   rfl)
  exact key
 rw[l0,bnd_some,h8,h9,h10,two_eq h5.1 (by omega),bnd_some]
 have hq:(put2 a.2.2.2.1).length=2∧(put2 a.2.2.2.2.1).length=2:=⟨rfl,rfl⟩
 refine Eq.trans (grdp (by rw[put2_len];unfold maxStr;omega)) ?_
 rw[two_eq h6.1 (by omega),bnd_some]
 refine Eq.trans (grdp (by rw[List.length_append,put2_len,put2_len];unfold maxStr;omega)) ?_
 simp only[ints_map]
 have hH:((headL t a).flatMap put2).length=12:=by rw[put2s_len];rfl
 refine Eq.trans (grdp (by simp only[ints_length,List.length_append,put2_len,hH];unfold roomLim;omega)) ?_
 rw[←ints_app]
 have l1:loopS (step_patch_copier_copy_1 (mkC t a now) turn (manyC t a:Int) (optC a).1) (0,ints ((headL t a).flatMap put2++(a.2.2.1++put2 a.2.2.2.1++put2 a.2.2.2.2.1)))=some (ints ((headL t a).flatMap put2++askC a++partsS t (manyC t a) now turn)):=by
  have key:=loop_run (step:=step_patch_copier_copy_1 (mkC t a now) turn (manyC t a:Int) (optC a).1) (t:=ints ((headL t a).flatMap put2++askC a++partsS t (manyC t a) now turn)) (s:=fun i=>((i:Int),ints ((headL t a).flatMap put2++askC a++partsS t i now turn))) (manyC t a) (fun i hi=>by
   have e:=tmpl_Part_eq hf (i:Int) now turn
   have e':F_tmpl_Template_Part ((mkC t a now).1,(mkC t a now).2.1,(mkC t a now).2.2.1,(mkC t a now).2.2.2.1,(mkC t a now).2.2.2.2.1,(mkC t a now).2.2.2.2.2.1) (i:Int) (mkC t a now).2.2.2.2.2.2.2.2.2.2.2.2.2.2.2.2 turn=some (partS t (i:Int) now turn):=e
   have b1:=part_b hf hc (i:Int) now turn
   have b2:=parts_b hf hc now turn i
   have b3:(askC a).length≤60004:=by unfold askC;simp only[List.length_append,put2_len];omega
   unfold step_patch_copier_copy_1
   simp only[grdEq_self]
   rw[if_pos (by simp;omega),e',bnd_some,parts_next]
   simp only[ints_map]
   refine Eq.trans (grdp (by simp only[ints_length,List.length_append,hH];unfold roomLim;omega)) ?_
   rw[wrap_id (x:=(i:Int)+1) (by omega) (by omega),←ints_app]
   simp only[List.append_assoc]
   rfl) (by
   unfold step_patch_copier_copy_1
   simp only[grdEq_self]
   rw[if_neg (by simp)])
  have e0:partsS t 0 now turn=[]:=rfl
  simp only[e0,List.append_nil] at key
  exact key
 rw[l1,bnd_some]
 have b2:=parts_b hf hc now turn (manyC t a)
 have b3:(askC a).length≤60004:=by unfold askC;simp only[List.length_append,put2_len];omega
 refine Eq.trans (grdp (by simp only[ints_length,List.length_append,hH];unfold roomLim;omega)) ?_
 refine Eq.trans (grdp (by simp only[ints_length,List.length_append,List.length_map,hH];omega)) ?_
 refine Eq.trans (grdp (fun n hn=>ints_bound ((headL t a).flatMap put2++askC a++partsS t (manyC t a) now turn++(optC a).1) n (by rw[ints_app];exact hn))) ?_
 show some (List.map _ (ints ((headL t a).flatMap put2++askC a++partsS t (manyC t a) now turn)++ints (optC a).1))=_
 rw[←ints_app,ints_back]
 rfl
theorem patch_Copy_eq {t:Tt} {a:Ak} {now turn:Int} (hs:smT t) (hn:a.2.2.1.length≤60000):F_patch_Copy t a now turn=some (if turn<0∨fitsS t a now=false then ([],false) else (copyS t a now turn,true)):=by
 have hm:maxI=9223372036854775807:=rfl
 unfold F_patch_Copy
 by_cases ht:turn<0
 · rw[if_neg (by simp[ht]),if_pos (.inl ht)]
 · have e1:=fits_eq (t:=t) (a:=a) (now:=now) (okT_of hs.1) (by omega)
   have e1':F_patch_copier_fits (t.1,t.2.1,t.2.2.1,t.2.2.2.1,t.2.2.2.2.1,t.2.2.2.2.2,a.1,a.2.1,a.2.2.1,a.2.2.2.1,a.2.2.2.2.1,a.2.2.2.2.2.1,a.2.2.2.2.2.2.1,a.2.2.2.2.2.2.2.1,a.2.2.2.2.2.2.2.2.1,a.2.2.2.2.2.2.2.2.2,now)=some (fitsS t a now):=e1
   rw[if_pos (by simp;omega),e1',bnd_some]
   cases h:fitsS t a now with
   | false=>simp
   | true =>
    have e2:=copy_eq (turn:=turn) hs hn h
    have e2':F_patch_copier_copy (t.1,t.2.1,t.2.2.1,t.2.2.2.1,t.2.2.2.2.1,t.2.2.2.2.2,a.1,a.2.1,a.2.2.1,a.2.2.2.1,a.2.2.2.2.1,a.2.2.2.2.2.1,a.2.2.2.2.2.2.1,a.2.2.2.2.2.2.2.1,a.2.2.2.2.2.2.2.2.1,a.2.2.2.2.2.2.2.2.2,now) turn=some (copyS t a now turn):=e2
    rw[if_neg (by simp),e2',bnd_some,if_neg (by rintro (q | q);exact ht q;simp at q)]
end Go.Abs

namespace Go.Abs
open Go
end Go.Abs

namespace Go.Abs
open Go
theorem makeS_sm {now:Int} {q:Qq} {c:Ch} (hs:smallC c=true):smT (makeS now q c).1∧((makeS now q c).2=true→(makeS now q c).1.1=q.1∧(makeS now q c).1.2.1=q.2.1∧(makeS now q c).1.2.2.1=q.2.2∧okA q=true):=by
 obtain⟨h1,h2,h3⟩:=smallC_iff hs
 rcases makeS_made (now:=now) (q:=q) hs with e | ⟨code,t,t0,e,htm,hok,hmk,hm,hn,hd⟩
 · rw[e]
   exact⟨⟨⟨by simp[tt0],by simp[tt0],by simp[tt0]⟩,by simp[tt0],by simp[tt0]⟩,by simp⟩
 · have hb:=okA_name hok
   obtain⟨f1,ps,f2,f3,f4⟩:=makeL_fit hb htm c.1 ([],[]) t0 h2 ⟨by simp,by simp⟩ hmk
   have key:∃n,n≤13∧Made t n∧∀p∈t.2,p.2.1≤4000000000000:=by
    rcases hd with ⟨_,_,rfl⟩ | ⟨_,g2,g3,_⟩
    · exact⟨_,by omega,hm,f1.till⟩
    · obtain⟨k1,_⟩:=layS_fit hb h3 htm f1 g2
      exact⟨_,by omega,g3,k1.till⟩
   obtain⟨n,n1,n2,n3⟩:=key
   rw[e]
   refine⟨⟨⟨?_,?_,fun p hp=>⟨?_,?_⟩⟩,?_,fun p hp=>n2.few p hp⟩,fun _=>⟨rfl,rfl,rfl,hok⟩⟩
   · have:=n2.len
     show t.1.length≤2000000
     omega
   · have:=n2.num
     show t.2.length≤1000
     omega
   · have:=n2.few p hp;omega
   · have:=n3 p hp;unfold maxI;omega
   · have:=n2.num
     show t.2.length≤20
     omega
end Go.Abs

namespace Go.Abs
open Go
theorem lowB_low (b:UInt8):lowB (lowB b)=lowB b:=by
 unfold lowB
 by_cases h:65≤b.toNat∧b.toNat≤90
 · rw[if_pos h,if_neg]
   have:(UInt8.ofNat (b.toNat+32)).toNat=b.toNat+32:=by simp;omega
   omega
 · rw[if_neg h,if_neg h]
theorem lowS_low (s:List UInt8):lowS (lowS s)=lowS s:=by
 unfold lowS
 rw[List.map_map]
 exact List.map_congr_left (fun b _=>lowB_low b)
theorem low_nm:∀L:List (List UInt8),okL L→lowS (nm L)=nm (L.map lowS)
 | [],_=>rfl
 | x::L,h=>by
  have h1:=(h x (by simp)).2
  have hb:lowB (UInt8.ofNat x.length)=UInt8.ofNat x.length:=by
   unfold lowB
   have:(UInt8.ofNat x.length).toNat=x.length:=by simp;omega
   rw[if_neg (by omega)]
  rw[nm_cons,List.map_cons,nm_cons]
  have e:lowS (UInt8.ofNat x.length::(x++nm L))=lowB (UInt8.ofNat x.length)::(lowS x++lowS (nm L)):=by simp[lowS]
  rw[e,hb,low_nm L (okL_tail h),lowS_len]
theorem okL_low {L:List (List UInt8)} (h:okL L):okL (L.map lowS):=by
 intro x hx
 obtain⟨y,hy,rfl⟩:=List.mem_map.1 hx
 rw[lowS_len]
 exact h y hy
theorem nameS_low {n:List UInt8} (h:nameS n=true):nameS (lowS n)=true:=by
 obtain⟨L,rfl,h1,h2⟩:=nameS_L h
 rw[low_nm L h1]
 exact nameS_nm (okL_low h1) (by rw[←low_nm L h1,lowS_len];exact h2)
theorem same_low {L:List (List UInt8)} (h:okL L) (hl:(nm L).length≤255) (n:List UInt8):sameS (nm (L.map lowS)) n=sameS (nm L) n:=by
 unfold sameS
 have h1:=nameS_nm h hl
 have h2:=nameS_low h1
 rw[low_nm L h] at h2
 rw[h1,h2,←low_nm L h,lowS_low]
theorem place_low:∀(B:List (List UInt8)) (n:List UInt8),okL B→(nm B).length≤255→placeW (B.map lowS) n=(placeW B n).map (List.map lowS)
 | [],_,_,_=>rfl
 | x::L,n,h,hl=>by
  have hlc:=nm_len_cons x L
  unfold placeW
  have e:=same_low h hl n
  rw[List.map_cons] at e
  rw[List.map_cons]
  simp only
  rw[e]
  split
  · rfl
  · exact place_low L n (okL_tail h) (by omega)
theorem nm_low_len {L:List (List UInt8)} (h:okL L):(nm (L.map lowS)).length=(nm L).length:=by rw[←low_nm L h,lowS_len]
theorem writeW_low {B:List (List UInt8)} (h:okL B) (hl:(nm B).length≤255) (a:Int) (n:List UInt8):∀M,writeW (B.map lowS) a n M=writeW B a n M
 | []=>rfl
 | y::M=>by
  unfold writeW
  rw[place_low B _ h hl]
  cases hp:placeW B (nm (y::M)) with
  | none=>exact writeW_low h hl a n M
  | some E =>
   obtain⟨U,hU,_,_⟩:=placeW_end hp
   have hE:okL E:=fun x hx=>h x (by rw[hU];simp[hx])
   simp only[Option.map_some,nm_low_len h,nm_low_len hE]
theorem writeS_low {base:List UInt8} (h:nameS base=true) (a:Int) (n:List UInt8):writeS (lowS base) a n=writeS base a n:=by
 unfold writeS
 rw[h,nameS_low h]
 obtain⟨L,rfl,h1,h2⟩:=nameS_L h
 rw[low_nm L h1,labW_nm h1,labW_nm (okL_low h1)]
 simp only[Option.getD_some,writeW_low h1 h2]
theorem recE_low {base:List UInt8} (h:nameS base=true) (a:Int) (r:RRt):recE (lowS base) a r=recE base a r:=by
 unfold recE
 rw[writeS_low h]
theorem encs_low {base:List UInt8} (h:nameS base=true) (l:List RRt):encs (lowS base) l=encs base l:=by
 unfold encs
 congr 1
 exact List.map_congr_left (fun r _=>recE_low h 12 r)
theorem lowN_name {n:List UInt8} (h:lowN n≠[]):nameS n=true∧lowN n=lowS n:=by
 unfold lowN at h ⊢
 split
 · rename_i q;exact⟨q,rfl⟩
 · rename_i q;rw[if_neg q] at h;exact absurd rfl h
theorem sumS_cat (l m:List Sp):sumS (l++m)=sumS l+sumS m:=by simp[sumS]
theorem sumS_rot (l:List Sp) (k:Nat):sumS (rot l k)=sumS l:=by
 unfold rot
 have:sumS l=sumS (l.take k)+sumS (l.drop k):=by rw[←sumS_cat,List.take_append_drop]
 rw[sumS_cat,this]
 omega
theorem flat_sum {text left:List UInt8} (hl:left.length=4):∀l:List Sp,(∀s∈l,spanC text.length s=true)→((l.flatMap (spanB text left)).length:Int)=sumS l:=by
 intro l
 induction l with
 | nil=>intro _;rfl
 | cons s l ih =>
  intro h
  have hs:=h s (by simp)
  have h2:=spanC_iff.1 hs
  have i:=ih (fun x hx=>h x (by simp[hx]))
  have e:sumS (s::l)=(s.2.1-s.1)+sumS l:=by simp[sumS]
  rw[List.flatMap_cons,List.length_append,spanB_len hl hs,e,←i]
  omega
theorem partT_bytes {t:Tt} {now turn:Int} {p:Pc} (h:pieceC t.2.2.2.2.1.length p=true):((partT t now turn p).length:Int)=bytesP p:=by
 unfold partT bytesP
 rw[flat_sum (put4_len _) _ (fun s hs=>(pieceC_iff h).2 s (rot_mem hs)),sumS_rot]
theorem part_recs2 {base:List UInt8} {t:Tt} {s:Se} {l0 u later turn:Int} {soa:Bool} {pre post:List UInt8} (hb:nameS base=true) (hs:smallS s=true) (hne:flatS s l0 0≠[])
 (ht:t.2.2.2.2.1=pre++(encs base (flatS s l0 0)++post)) (htu:0≤turn) :
 partT t later turn (spansW base pre.length (flatS s l0 0),u,soa)=encs base (flatS s (leftS later u) (if soa then 0 else turn))∧(flatS s l0 0).length=(flatS s (leftS later u) (if soa then 0 else turn)).length:=by
 obtain⟨y1,y2⟩:=flatS_yes hne
 have hlb:=leftS_le later u
 have y3:inC (leftS later u) 2147483647=true:=by unfold inC;simp;omega
 have hpos:0<s.2.2.2.1.length:=by
  unfold setC at y1
  simp only[Bool.and_eq_true,decide_eq_true_eq] at y1
  exact y1.2
 have hall:∀ttl:Int,inC ttl 2147483647=true→∀d∈s.2.2.2.1,recC (recI s ttl d)=true:=by
  intro ttl hi d hd
  have hm:recI s ttl d∈flatS s ttl 0:=by
   rw[flatS_val y1 hi (by omega)]
   simp only[Int.toNat_zero,Nat.zero_mod,rot_zero]
   exact List.mem_map.2 ⟨d,hd,rfl⟩
  exact (flatS_mem hs hm).1.2.2
 have hf0:flatS s l0 0=s.2.2.2.1.map (recI s l0):=by
  rw[flatS_val y1 y2 (by omega)]
  simp only[Int.toNat_zero,Nat.zero_mod,rot_zero]
 have hsp:=spans_recs (ttl:=leftS later u) hb (flatS s l0 0) pre post (fun r hr=>by
  rw[hf0] at hr
  obtain⟨d,hd,rfl⟩:=List.mem_map.1 hr
  exact⟨hall _ y2 d hd,hall _ y3 d hd⟩)
 have hlen:(spansW base pre.length (flatS s l0 0)).length=s.2.2.2.1.length:=by rw[spansW_len,hf0,List.length_map]
 have hmap:(flatS s l0 0).map (fun r=>recE base 12 (setT (leftS later u) r))=s.2.2.2.1.map fun d=>recE base 12 (recI s (leftS later u) d):=by
  rw[hf0,List.map_map];rfl
 have hsel:(if soa then (0:Int) else turn).toNat % s.2.2.2.1.length=if soa then 0 else turn.toNat % s.2.2.2.1.length:=by
  cases soa
  · rfl
  · simp
 have hval:flatS s (leftS later u) (if soa then 0 else turn)=(rot s.2.2.2.1 (if soa then 0 else turn.toNat % s.2.2.2.1.length)).map (recI s (leftS later u)):=by
  rw[flatS_val y1 y3 (by cases soa<;>simp[htu]),hsel]
 have hgoal:encs base (flatS s (leftS later u) (if soa then 0 else turn))=(rot (s.2.2.2.1.map fun d=>recE base 12 (recI s (leftS later u) d)) (if soa then 0 else turn.toNat % s.2.2.2.1.length)).flatten:=by
  rw[hval,rot_map]
  unfold encs
  rw[List.map_map]
  rfl
 constructor
 · rw[hgoal]
   unfold partT
   simp only[hlen]
   rw[ht,List.flatMap_def,←rot_map,hsp,hmap]
 · rw[hval,hf0,List.length_map,List.length_map,rot_len]
end Go.Abs

namespace Go.Abs
open Go
def hiL (now later:Int) (h:Hi):Hi:=(h.1,h.2.1,h.2.2.1,h.2.2.2.1,h.2.2.2.2.1,leftS later (now+h.2.2.2.2.2))
def chL (now later:Int) (c:Ch):Ch:=(c.1.map (hiL now later),c.2.1,c.2.2.1,hiL now later c.2.2.2)
theorem chL_small {now later:Int} {c:Ch} (h:smallC c=true):smallC (chL now later c)=true:=by
 have e:smallC (chL now later c)=smallC c:=by
  unfold smallC chL
  simp only[List.all_map,List.length_map]
  rfl
 rw[e,h]
theorem pieces_chL (now later:Int) (c:Ch) (turn:Int):piecesS (chL now later c) turn=c.1.map (fun h=>(flatS (hitS h) (leftS later (now+h.2.2.2.2.2)) turn,false))++(if c.2.1=0 then [] else [(flatS (hitS c.2.2.2) (leftS later (now+c.2.2.2.2.2.2.2.2)) 0,true)]):=by
 unfold piecesS chL soaP
 simp only[List.map_map]
 rfl
structure PieceOf (t:Tt) (base:List UInt8) (later turn:Int) (p:Pc) (P:Pi_):Prop where
 soa:P.2=p.2.2
 len:p.1.length=P.1.length
 bytes:partT t later turn p=encs base P.1
 ok:pieceC t.2.2.2.2.1.length p=true
theorem made_pieces {now later turn:Int} {q:Qq} {c:Ch} (hs:smallC c=true) (h2:(makeS now q c).2=true) (htu:0≤turn) :
 (makeS now q c).1.2.2.2.1=codeS c∧(makeS now q c).1.2.2.2.2.2.length=(piecesS (chL now later c) turn).length ∧
 ∀(i:Nat) (p:Pc),(makeS now q c).1.2.2.2.2.2[i]? = some p→∃P,(piecesS (chL now later c) turn)[i]? = some P∧PieceOf (makeS now q c).1 q.1 later turn p P:=by
 obtain⟨k1,k2,k3⟩:=smallC_iff hs
 rw[pieces_chL]
 rcases makeS_made (now:=now) (q:=q) hs with h | ⟨code,t,t0,h,htm,hok,hmk,hmd,hfl,hend⟩
 · rw[h] at h2;simp at h2
 · have hcode:code=codeS c:=by
    have hu:=h
    unfold makeS at hu
    unfold codeS
    split at hu
    · rw[hmk] at hu
      simp only at hu
      by_cases e0:c.2.1=0
      · rw[if_pos e0] at hu
        simp only[Prod.mk.injEq] at hu
        rw[if_neg (by omega)]
        exact hu.1.2.2.2.1.symm
      · rw[if_neg e0] at hu
        split at hu
        · simp at hu
        · simp only[Prod.mk.injEq] at hu
          exact hu.1.2.2.2.1.symm
    · simp at hu
   rw[h]
   have hb:=okA_name hok
   obtain⟨f0,-⟩:=makeL_fit hb htm c.1 ([],[]) t0 k2 ⟨by simp,by simp⟩ hmk
   obtain⟨ps,suf,p1,p2,_,p3⟩:=makeL_get c.1 ([],[]) t0 hmk
   rw[List.nil_append] at p1
   have key:Fit t∧(∃r,t.2=t0.2++r)∧(∃r,t.1=t0.1++r):=by
    rcases hend with ⟨_,_,rfl⟩ | ⟨_,hl,n1,sp,u,n2⟩
    · exact⟨f0,⟨[],by simp⟩,⟨[],by simp⟩⟩
    · refine⟨(layS_fit hb k3 htm f0 hl).1,⟨_,n2⟩,?_⟩
      unfold layS at hl
      split at hl
      · simp at hl
      · simp only[Option.some.injEq] at hl
        exact⟨_,by rw[←hl]⟩
   obtain⟨ft,⟨r2,hr2⟩,⟨r1,hr1⟩⟩:=key
   have hps:∀(i:Nat) (x:Hi),c.1[i]? = some x→∃pre post,t.1=pre++(encs q.1 (flatS (hitS x) x.2.2.2.2.2 0)++post)∧t.2[i]? = some (spansW q.1 pre.length (flatS (hitS x) x.2.2.2.2.2 0),now+x.2.2.2.2.2,false) ∧
    flatS (hitS x) x.2.2.2.2.2 0≠[]:=by
    intro i x hx
    obtain⟨pre,post,g1,g2,g3,g4,g5⟩:=p3 i x hx
    have hi:=(List.getElem?_eq_some_iff.1 hx).1
    refine⟨pre,post++r1,by rw[hr1,g1];simp only[List.append_assoc],?_,g3⟩
    rw[hr2,p1,List.getElem?_append_left (by rw[p2];exact hi)]
    exact g2
   have hsoa:c.2.1≠0→∃pre post,t.1=pre++(encs q.1 (flatS (hitS c.2.2.2) c.2.2.2.2.2.2.2.2 0)++post)∧t.2[c.1.length]? = some (spansW q.1 pre.length (flatS (hitS c.2.2.2) c.2.2.2.2.2.2.2.2 0),now+c.2.2.2.2.2.2.2.2,true) ∧
    flatS (hitS c.2.2.2) c.2.2.2.2.2.2.2.2 0≠[]∧t.2.length=c.1.length+1:=by
    intro hne
    rcases hend with ⟨h0,_⟩ | ⟨_,hl,n1,sp,u,n2⟩
    · exact absurd h0 hne
    · unfold layS at hl
      split at hl
      · simp at hl
      · rename_i hnn
        simp only[not_or,Int.not_lt] at hnn
        simp only[Option.some.injEq] at hl
        have hlen0:t0.2.length=c.1.length:=hmd.num
        refine⟨t0.1,[],by rw[←hl];simp,?_,hnn.1,n1.num⟩
        rw[←hl,←hlen0]
        simp
   have hnum:t.2.length=c.1.length+if c.2.1=0 then 0 else 1:=by
    by_cases h0:c.2.1=0
    · rcases hend with ⟨_,_,rfl⟩ | ⟨h1,_⟩
      · rw[hmd.num,if_pos h0];rfl
      · exact absurd h0 h1
    · obtain⟨_,_,_,_,_,g⟩:=hsoa h0
      rw[g,if_neg h0]
   refine⟨hcode,?_,fun i p hp=>?_⟩
   · show t.2.length=_
     rw[hnum,List.length_append,List.length_map]
     split<;>rfl
   · have hp:t.2[i]? = some p:=hp
     have hit:=(List.getElem?_eq_some_iff.1 hp).1
     have hpc:=ft.ok p (List.mem_of_getElem? hp)
     by_cases hic:i<c.1.length
     · have hx:c.1[i]? = some c.1[i]:=List.getElem?_eq_getElem hic
       obtain⟨pre,post,g1,g2,g3⟩:=hps i _ hx
       have hsx:=k2 c.1[i] (List.getElem_mem hic)
       rw[hp] at g2
       simp only[Option.some.injEq] at g2
       have hr:=part_recs2 (t:=(q.1,q.2.1,q.2.2,code,t.1,t.2)) (u:=now+c.1[i].2.2.2.2.2) (later:=later) (soa:=false) hb hsx g3 g1 htu
       rw[←g2] at hr
       refine⟨_,by rw[List.getElem?_append_left (by rw[List.length_map];exact hic),List.getElem?_map,hx];rfl,by rw[g2],?_,hr.1,hpc⟩
       rw[g2]
       show (spansW q.1 pre.length (flatS (hitS c.1[i]) c.1[i].2.2.2.2.2 0)).length=_
       rw[spansW_len]
       exact hr.2
     · have hne:c.2.1≠0:=by
        intro h0
        rw[hnum,if_pos h0] at hit
        omega
       obtain⟨pre,post,g1,g2,g3,g6⟩:=hsoa hne
       have hi:i=c.1.length:=by omega
       rw[hi,g2] at hp
       simp only[Option.some.injEq] at hp
       have hr:=part_recs2 (t:=(q.1,q.2.1,q.2.2,code,t.1,t.2)) (u:=now+c.2.2.2.2.2.2.2.2) (later:=later) (soa:=true) hb k3 g3 g1 htu
       rw[hp] at hr
       refine⟨_,by rw[hi,List.getElem?_append_right (by rw[List.length_map];exact Nat.le_refl _),List.length_map,Nat.sub_self,if_neg hne];rfl,by rw[←hp],?_,hr.1,hpc⟩
       rw[←hp]
       show (spansW q.1 pre.length (flatS (hitS c.2.2.2) c.2.2.2.2.2.2.2.2 0)).length=_
       rw[spansW_len]
       exact hr.2
structure CopyOf (t:Tt) (base:List UInt8) (later turn:Int) (ps:List Pi_):Prop where
 num:t.2.2.2.2.2.length=ps.length
 get:∀(i:Nat) (p:Pc),t.2.2.2.2.2[i]? = some p→∃P,ps[i]? = some P∧PieceOf t base later turn p P
 last:lastS ps
def sumB (l:List Pc):Int:=(l.map bytesP).sum
theorem sumB_app (l:List Pc) (p:Pc):sumB (l++[p])=sumB l+bytesP p:=by simp[sumB]
theorem copy_parts {t:Tt} {base:List UInt8} {later turn:Int} {ps:List Pi_} (hc:CopyOf t base later turn ps) (hck:checkT t=true) (hlv:liveT t later=true) (htu:0≤turn):∀k,k≤ps.length →
 partsS t k later turn=encs base (layL (ps.take k)).1++encs base (layL (ps.take k)).2∧cntA (t.2.2.2.2.2.take k)=(layL (ps.take k)).1.length∧cntN (t.2.2.2.2.2.take k)=(layL (ps.take k)).2.length∧((partsS t k later turn).length:Int)=sumB (t.2.2.2.2.2.take k):=by
 have hal:∀p∈t.2.2.2.2.2,aliveS later p.2.1=true:=by
  unfold liveT at hlv
  rw[Bool.and_eq_true,List.all_eq_true] at hlv
  exact hlv.1
 intro k
 induction k with
 | zero=>intro _;exact⟨rfl,rfl,rfl,rfl⟩
 | succ k ih =>
  intro hk
  obtain⟨i1,i2,i3,i4⟩:=ih (by omega)
  have hkl:k<t.2.2.2.2.2.length:=by rw[hc.num];omega
  have hp:t.2.2.2.2.2[k]? = some t.2.2.2.2.2[k]:=List.getElem?_eq_getElem hkl
  obtain⟨P,hP,hPO⟩:=hc.get k _ hp
  have hns:=lay_ns hc.last k (by omega)
  have hst:=lay_step hP
  have ha:=hal _ (List.getElem_mem hkl)
  have hpart:partS t (k:Int) later turn=encs base P.1:=by
   rw[partS_at hck htu hp,if_pos ha,hPO.bytes]
  have hbytes:((encs base P.1).length:Int)=bytesP t.2.2.2.2.2[k]:=by
   rw[←hPO.bytes]
   exact partT_bytes hPO.ok
  rw[parts_next,hpart,take_next hp,hst,cntA_app,cntN_app,sumB_app,List.length_append,i2,i3]
  unfold layP
  have hsoa:=hPO.soa
  have hlen:=hPO.len
  rw[hns] at i1 ⊢
  cases h2:P.2 with
  | true =>
   rw[h2] at hsoa
   simp only[←hsoa,if_true]
   rw[i1]
   refine⟨by simp[encs],by omega,by simp[hlen],?_⟩
   rw[←i4,i1]
   omega
  | false =>
   rw[h2] at hsoa
   simp only[←hsoa,Bool.false_eq_true,if_false]
   rw[i1]
   refine⟨by rw[encs_app];simp[encs],by rw[List.length_append,hlen],by simp,?_⟩
   rw[←i4,i1]
   omega
theorem room_spec {lim:Int}:∀(ps:List Pc) (n:Int) (i:Nat),∃k,k≤ps.length∧roomL lim n i ps=(((i+k:Nat):Int),n+sumB (ps.take k))∧(n≤lim→n+sumB (ps.take k)≤lim)∧(k<ps.length→lim<n+sumB (ps.take (k+1))):=by
 intro ps
 induction ps with
 | nil=>intro n i;exact⟨0,by simp,by simp[roomL,sumB],by simp[sumB],by simp⟩
 | cons p ps ih =>
  intro n i
  unfold roomL
  by_cases h:lim<n+bytesP p
  · rw[if_pos h]
    exact⟨0,by simp,by simp[sumB],by simp[sumB],fun _=>by simpa[sumB] using h⟩
  · rw[if_neg h]
    obtain⟨k,k1,k2,k3,k4⟩:=ih (n+bytesP p) (i+1)
    have e:∀j,sumB ((p::ps).take (j+1))=bytesP p+sumB (ps.take j):=fun j=>by simp[sumB]
    refine⟨k+1,by simp;omega,?_,fun _=>?_,fun hk=>?_⟩
    · rw[k2,e]
      congr 1
      · omega
      · omega
    · rw[e];have:=k3 (by omega);omega
    · rw[e];have:=k4 (by simpa using hk);omega
end Go.Abs

namespace Go.Abs
open Go
theorem fits_name {t:Tt} {a:Ak} {now:Int} (h:fitsS t a now=true):nameS a.2.2.1=true∧lowN a.2.2.1=lowS a.2.2.1∧a.2.2.1≠[]∧qsA a=[qA a]∧okH a=true:=by
 obtain⟨_,_,_,h4,h5,_,_,_,h9,h10,_⟩:=fits_parts h
 obtain⟨n1,n2⟩:=lowN_name h5
 have hne:a.2.2.1≠[]:=by
  intro e
  obtain⟨L,hL,_,_⟩:=nameS_L n1
  rw[e] at hL
  have:=nm_pos L
  rw[←hL] at this
  simp at this
 have hq:qsA a=[qA a]:=by unfold qsA;rw[if_neg hne]
 refine⟨n1,n2,hne,hq,?_⟩
 unfold okH
 rw[hq]
 unfold inC okQ qA inC
 simp[n1,h4,h9,h10]
theorem arC {a:Ak} {c:Ch} {base:List UInt8} (hb:nameS base=true):encs base (arA a (codeS c))=(optC a).1∧(optC a).2=((arA a (codeS c)).length:Int):=by
 have hk:codeS c / 16=0:=by unfold codeS;split<;>decide
 unfold arA optC
 rw[hk]
 cases a.2.2.2.2.2.1 with
 | false=>exact⟨rfl,rfl⟩
 | true =>
  refine⟨?_,rfl⟩
  show encs base [optE 0 a.2.2.2.2.2.2.2.2.2]=[0]++tailE (optE 0 a.2.2.2.2.2.2.2.2.2)
  rw[←optE_bytes hb (by decide) (by decide)]
  simp[encs]
theorem base_lay {a:Ak} (hq:qsA a=[qA a]) (bits code:Int) (an ns:List RRt):baseM (headM a bits code an ns)=a.2.2.1:=by
 unfold headM baseM
 rw[hq]
 rfl
theorem copy_whole {t:Tt} {a:Ak} {c:Ch} {later turn:Int} {ps:List Pi_} (hc:CopyOf t (lowN a.2.2.1) later turn ps) (hfit:fitsS t a later=true) (htu:0≤turn) (hcode:t.2.2.2.1=codeS c) :
 copyS t a later turn=wholeE (layM a (codeS c) ps (manyC t a)):=by
 obtain⟨f1,f2,_⟩:=fits_parts hfit
 obtain⟨n1,n2,n3,hq,_⟩:=fits_name hfit
 obtain⟨m1,m2⟩:=manyC_eq t a
 have hml:manyC t a≤ps.length:=by rw[←hc.num];exact m2
 obtain⟨c1,c2,c3,_⟩:=copy_parts hc f1 f2 htu (manyC t a) hml
 obtain⟨r1,r2⟩:=arC (a:=a) (c:=c) n1
 have hb:bitsC t a=if manyC t a<ps.length then answerS a.2.1 (codeS c)+512 else answerS a.2.1 (codeS c):=by
  unfold bitsC
  rw[hc.num,hcode]
 rw[n2,encs_low n1,encs_low n1] at c1
 unfold copyS wholeE layM
 rw[base_lay hq]
 unfold headE headM askC headL
 simp only[hq,c1,←r1,c2,c3,r2,hb,List.flatMap_cons,List.flatMap_nil,List.append_nil,List.append_assoc,List.map_cons,List.map_nil,List.flatten_cons,List.flatten_nil,encQ,qA]
 rfl
theorem whole_room {t:Tt} {a:Ak} {c:Ch} {later turn:Int} {ps:List Pi_} (hc:CopyOf t (lowN a.2.2.1) later turn ps) (hfit:fitsS t a later=true) (htu:0≤turn) {k:Nat} (hk:k≤ps.length) :
 ((wholeE (layM a (codeS c) ps k)).length:Int)=room0 a+sumB (t.2.2.2.2.2.take k):=by
 obtain⟨f1,f2,_⟩:=fits_parts hfit
 obtain⟨n1,n2,n3,hq,_⟩:=fits_name hfit
 obtain⟨c1,_,_,c4⟩:=copy_parts hc f1 f2 htu k hk
 obtain⟨r1,r2⟩:=arC (a:=a) (c:=c) n1
 rw[n2,encs_low n1,encs_low n1] at c1
 rw[c1,List.length_append] at c4
 unfold layM
 rw[whole_head,base_lay hq,r1,hq]
 have e1:((List.map encQ [qA a]).flatten).length=a.2.2.1.length+4:=by
  simp only[List.map_cons,List.map_nil,List.flatten_cons,List.flatten_nil,List.append_nil,encQ,qA,List.length_append,put2_len]
 have e2:((optC a).1.length:Int)=if a.2.2.2.2.2.1=true then 11 else 0:=by
  unfold optC
  split
  · show (([0]++tailE (optE 0 a.2.2.2.2.2.2.2.2.2)).length:Int)=11
    rw[List.length_append,tailE_sz]
    rfl
  · rfl
 rw[e1]
 unfold room0
 split
 · rename_i h;rw[if_pos h] at e2;omega
 · rename_i h;rw[if_neg h] at e2;omega
theorem many_fit {t:Tt} {a:Ak} {c:Ch} {later turn:Int} {ps:List Pi_} (hc:CopyOf t (lowN a.2.2.1) later turn ps) (hfit:fitsS t a later=true) (htu:0≤turn) :
 fitP a c ps (manyC t a)∧(manyC t a<ps.length→¬fitP a c ps (manyC t a+1))∧(roomS t a).2=((wholeE (layM a (codeS c) ps (manyC t a))).length:Int):=by
 obtain⟨n1,n2,n3,hq,_⟩:=fits_name hfit
 obtain⟨k,k1,k2,k3,k4⟩:=room_spec (lim:=limS (oA a)) t.2.2.2.2.2 (room0 a) 0
 have hr:roomS t a=(((0+k:Nat):Int),room0 a+sumB (t.2.2.2.2.2.take k)):=k2
 have hm:manyC t a=k:=by unfold manyC;rw[hr];simp
 have hl:a.2.2.1.length≤255:=by
  have:=(nameS_L n1)
  obtain⟨L,e,_,h⟩:=this
  rw[e];exact h
 have hlim:=limS_b (oA a)
 have h0:room0 a≤limS (oA a):=by unfold room0;split<;>omega
 rw[hm]
 have hkp:k≤ps.length:=by rw[←hc.num];exact k1
 refine⟨?_,fun h=>?_,?_⟩
 · unfold fitP
   rw[whole_room hc hfit htu hkp]
   exact k3 h0
 · unfold fitP
   rw[whole_room hc hfit htu (show k+1≤ps.length by omega)]
   have:=k4 (by rw[hc.num];exact h)
   omega
 · rw[hr,whole_room hc hfit htu hkp]
theorem copy_built {t:Tt} {a:Ak} {c:Ch} {later turn:Int} {ps:List Pi_} (hp:fewP ps) (hc:CopyOf t (lowN a.2.2.1) later turn ps) (hfit:fitsS t a later=true) (htu:0≤turn) (hcode:t.2.2.2.1=codeS c) :
 buildW a (codeS c) ps ps.length=copyS t a later turn:=by
 obtain⟨_,_,_,_,hok⟩:=fits_name hfit
 obtain⟨m1,m2⟩:=manyC_eq t a
 have hml:manyC t a≤ps.length:=by rw[←hc.num];exact m2
 obtain⟨g1,g2,_⟩:=many_fit (c:=c) hc hfit htu
 obtain⟨k,k1,k2,k3,k4⟩:=buildW_spec (a:=a) (c:=c) hp hok ps.length
 rw[k2,copy_whole hc hfit htu hcode]
 have:k=manyC t a:=by
  rcases Nat.lt_trichotomy k (manyC t a) with h | h | h
  · exact absurd g1 (k4 _ h hml)
  · exact h
  · exfalso
    refine g2 (by omega) ?_
    have:=whole_grow (a:=a) (code:=codeS c) hc.last (show manyC t a+1≤k by omega) k1
    unfold fitP at k3 ⊢
    omega
 rw[this]
theorem made_copy {now later turn:Int} {q:Qq} {c:Ch} (hs:smallC c=true) (h2:(makeS now q c).2=true) (htu:0≤turn):CopyOf (makeS now q c).1 q.1 later turn (piecesS (chL now later c) turn):=by
 obtain⟨_,g2,g3⟩:=made_pieces (later:=later) hs h2 htu
 exact⟨g2,g3,pieces_last _ _⟩
end Go.Abs

namespace Go.Abs
open Go
end Go.Abs

namespace Go.Abs
open Go
def hiW (by_:Int) (h:Hi):Hi:=(h.1,h.2.1,h.2.2.1,h.2.2.2.1,h.2.2.2.2.1,Go.IntKind.i64.wrap (h.2.2.2.2.2-by_))
def laterC (c:Ch) (by_:Int):Ch:=(c.1.map (hiW by_),c.2.1,c.2.2.1,hiW by_ c.2.2.2)
theorem later_eq {c:Ch} (hl:c.1.length≤12) (by_:Int):F_law19_later c by_=some (laterC c by_):=by
 unfold F_law19_later
 have key:=loop_run (step:=step_law19_later_0 c by_) (t:=c.1.map (hiW by_)) (s:=fun i=>((i:Int),(c.1.take i).map (hiW by_))) c.1.length (fun i hi=>by
  have hx:c.1[i]? = some c.1[i]:=List.getElem?_eq_getElem hi
  unfold step_law19_later_0
  simp only[grdEq_self]
  rw[if_pos (by simp;omega),natOf_nat,hx,bnd_some]
  refine Eq.trans (grdp (by unfold roomLim;simp;omega)) ?_
  rw[wrap_id (x:=(i:Int)+1) (by omega) (by omega),take_next hx,List.map_append]
  rfl) (by
  unfold step_law19_later_0
  simp only[grdEq_self]
  rw[if_neg (by simp),List.take_of_length_le (Nat.le_refl _)])
 have e0:loopS (step_law19_later_0 c by_) (0,[])=some (c.1.map (hiW by_)):=key
 rw[e0,bnd_some]
 rfl
theorem later_small {c:Ch} (h:smallC c=true) (by_:Int):smallC (laterC c by_)=true:=by
 have e:smallC (laterC c by_)=smallC c:=by
  unfold smallC laterC
  simp only[List.all_map,List.length_map]
  rfl
 rw[e,h]
theorem made_left {now:Int} {q:Qq} {c:Ch} (hs:smallC c=true) (h2:(makeS now q c).2=true) :
 (c.2.1=0∨c.2.1=1∨c.2.1=2)∧(∀h∈c.1,(∃p∈(makeS now q c).1.2.2.2.2.2,p.2.1=now+h.2.2.2.2.2)∧1≤h.2.2.2.2.2∧h.2.2.2.2.2≤604800) ∧
 (c.2.1≠0→(∃p∈(makeS now q c).1.2.2.2.2.2,p.2.1=now+c.2.2.2.2.2.2.2.2)∧1≤c.2.2.2.2.2.2.2.2∧c.2.2.2.2.2.2.2.2≤604800):=by
 obtain⟨k1,k2,k3⟩:=smallC_iff hs
 have hkind:c.2.1=0∨c.2.1=1∨c.2.1=2:=by
  unfold makeS at h2
  split at h2
  · rename_i h;exact h.1
  · simp at h2
 rcases makeS_made (now:=now) (q:=q) hs with h | ⟨code,t,t0,h,htm,hok,hmk,hmd,hfl,hend⟩
 · rw[h] at h2;simp at h2
 · rw[h]
   have hb:=okA_name hok
   obtain⟨f0,ps,p1,p2,p3⟩:=makeL_fit hb htm c.1 ([],[]) t0 k2 ⟨by simp,by simp⟩ hmk
   rw[List.nil_append] at p1
   refine⟨hkind,fun x hx=>?_,fun hne=>?_⟩
   · obtain⟨i,hi⟩:=List.getElem?_of_mem hx
     obtain⟨sp,g1,_,g2,g3⟩:=p3 i x hi
     refine⟨⟨(sp,now+x.2.2.2.2.2,false),?_,rfl⟩,g2,g3⟩
     · have hm:(sp,now+x.2.2.2.2.2,false)∈t0.2:=by rw[p1];exact List.mem_of_getElem? g1
       show (sp,now+x.2.2.2.2.2,false)∈t.2
       rcases hend with ⟨_,_,rfl⟩ | ⟨_,hl,n1,sp2,u,n2⟩
       · exact hm
       · rw[n2];exact List.mem_append_left _ hm
   · rcases hend with ⟨h0,_⟩ | ⟨_,hl,n1,sp,u,n2⟩
     · exact absurd h0 hne
     · obtain⟨_,sp3,g1,_,g2,g3⟩:=layS_fit hb k3 htm f0 hl
       refine⟨⟨(sp3,now+c.2.2.2.2.2.2.2.2,true),?_,rfl⟩,g2,g3⟩
       show (sp3,now+c.2.2.2.2.2.2.2.2,true)∈t.2
       rw[g1]
       exact List.mem_append_right _ (List.mem_singleton.2 rfl)
theorem left_by {now by_ l:Int} (h0:0≤by_) (h1:l≤604800) (ha:aliveS (now+by_) (now+l)=true):leftS (now+by_) (now+l)=l-by_:=by
 have:=aliveS_iff.1 ha
 unfold leftS
 rw[if_pos ha,if_neg (by omega)]
 omega
theorem later_pieces {now by_ turn:Int} {q:Qq} {c:Ch} (hs:smallC c=true) (h2:(makeS now q c).2=true) (hb0:0≤by_) (hb1:by_≤1099511627776) (hlv:liveT (makeS now q c).1 (now+by_)=true) :
 piecesS (laterC c by_) turn=piecesS (chL now (now+by_) c) turn:=by
 obtain⟨_,g1,g2⟩:=made_left hs h2
 have hal:∀p∈(makeS now q c).1.2.2.2.2.2,aliveS (now+by_) p.2.1=true:=by
  unfold liveT at hlv
  rw[Bool.and_eq_true,List.all_eq_true] at hlv
  exact hlv.1
 rw[pieces_chL]
 unfold piecesS laterC soaP
 simp only[List.map_map]
 congr 1
 · refine List.map_congr_left (fun h hh=>?_)
   obtain⟨⟨p,p1,p2⟩,l1,l2⟩:=g1 h hh
   have ha:=hal p p1
   rw[p2] at ha
   show (flatS (hitS h) (Go.IntKind.i64.wrap (h.2.2.2.2.2-by_)) turn,false)=_
   rw[left_by hb0 l2 ha,wrap_id (by omega) (by omega)]
 · by_cases h0:c.2.1=0
   · rw[if_pos h0,if_pos h0]
   · obtain⟨⟨p,p1,p2⟩,l1,l2⟩:=g2 h0
     have ha:=hal p p1
     rw[p2] at ha
     rw[if_neg h0,if_neg h0,left_by hb0 l2 ha]
     show [(flatS (hitS c.2.2.2) (Go.IntKind.i64.wrap (c.2.2.2.2.2.2.2.2-by_)) 0,true)]=_
     rw[wrap_id (by omega) (by omega)]
theorem law_PatchBuilt (at_:Int×Int×Int) (a:Ak) (c:Ch) (hc:okC c):F_law19_PatchBuilt at_ a c=some true:=by
 unfold F_law19_PatchBuilt
 rw[live19]
 have e1:F_ref17_Small (c.1,c.2.1,c.2.2.1,c.2.2.2.1,c.2.2.2.2.1,c.2.2.2.2.2.1,c.2.2.2.2.2.2.1,c.2.2.2.2.2.2.2.1,c.2.2.2.2.2.2.2.2)=some (smallC c):=ref17_Small_eq hc
 simp only[e1,bnd_some,grdEq_self]
 cases hsm:smallC c with
 | false=>rfl
 | true =>
  obtain⟨s1,s2,s3⟩:=smallC_all hsm
  by_cases h1:300<(a.2.2.1.length:Int)
  · simp only[Bool.not_true,if_true,decide_eq_true h1,Bool.true_eq_false,if_false,bnd_some]
  · by_cases h2:at_.2.1<0
    · simp only[Bool.not_true,if_true,decide_eq_false h1,decide_eq_true h2,Bool.true_eq_false,if_false,bnd_some]
    · by_cases h3:1099511627776<at_.2.1
      · simp only[Bool.not_true,if_true,decide_eq_false h1,decide_eq_false h2,decide_eq_true h3,Bool.true_eq_false,if_false,bnd_some]
      · by_cases h4:at_.1<0
        · simp only[Bool.not_true,if_true,decide_eq_false h1,decide_eq_false h2,decide_eq_false h3,decide_eq_true h4,Bool.true_eq_false,if_false,bnd_some]
        · by_cases h5:1099511627776<at_.1
          · simp only[Bool.not_true,if_true,decide_eq_false h1,decide_eq_false h2,decide_eq_false h3,decide_eq_false h4,decide_eq_true h5,Bool.true_eq_false,if_false,bnd_some]
          · by_cases h6:at_.2.2<0
            · simp only[Bool.not_true,if_true,decide_eq_false h1,decide_eq_false h2,decide_eq_false h3,decide_eq_false h4,decide_eq_false h5,decide_eq_true h6,Bool.true_eq_false,if_false,bnd_some]
            · have hm:maxI=9223372036854775807:=rfl
              have hll:=lowN_len a.2.2.1
              have e2:F_law17_Chain (c.1,c.2.1,c.2.2.1,c.2.2.2.1,c.2.2.2.2.1,c.2.2.2.2.2.1,c.2.2.2.2.2.2.1,c.2.2.2.2.2.2.2.1,c.2.2.2.2.2.2.2.2)=some c:=chain_eq s2
              have e3:F_tmpl_Make at_.1 (lowN a.2.2.1,a.2.2.2.1,a.2.2.2.2.1) (c.1,c.2.1,c.2.2.1,c.2.2.2.1,c.2.2.2.2.1,c.2.2.2.2.2.1,c.2.2.2.2.2.2.1,c.2.2.2.2.2.2.2.1,c.2.2.2.2.2.2.2.2)=some (makeS at_.1 (lowN a.2.2.1,a.2.2.2.1,a.2.2.2.2.1) c):=tmpl_Make_eq (by show ((lowN a.2.2.1).length:Int)≤maxI;omega) hsm
              have e4:F_law17_Own (a.1,a.2.1,a.2.2.1,a.2.2.2.1,a.2.2.2.2.1,a.2.2.2.2.2.1,a.2.2.2.2.2.2.1,a.2.2.2.2.2.2.2.1,a.2.2.2.2.2.2.2.2.1,a.2.2.2.2.2.2.2.2.2)=some a:=own17_eq a
              have hw:Go.IntKind.i64.wrap (at_.1+at_.2.1)=at_.1+at_.2.1:=wrap_id (by omega) (by omega)
              simp only[Bool.not_true,if_true,decide_eq_false h1,decide_eq_false h2,decide_eq_false h3,decide_eq_false h4,decide_eq_false h5,decide_eq_false h6,Bool.false_eq_true,if_false,bnd_some,ref02_Low_eq (show (a.2.2.1.length:Int)≤maxI by omega),e2,e3,e4,hw]
              obtain⟨k1,k2⟩:=makeS_sm (now:=at_.1) (q:=(lowN a.2.2.1,a.2.2.2.1,a.2.2.2.2.1)) hsm
              have k8:=fun h2 htu=>made_copy (now:=at_.1) (later:=at_.1+at_.2.1) (turn:=at_.2.2) (q:=(lowN a.2.2.1,a.2.2.2.1,a.2.2.2.2.1)) hsm h2 htu
              have k9:=fun h2=>(made_pieces (now:=at_.1) (later:=at_.1+at_.2.1) (turn:=0) (q:=(lowN a.2.2.1,a.2.2.2.1,a.2.2.2.2.1)) hsm h2 (by omega)).1
              have k10:=fun h2 hlv=>later_pieces (now:=at_.1) (by_:=at_.2.1) (turn:=at_.2.2) (q:=(lowN a.2.2.1,a.2.2.2.1,a.2.2.2.2.1)) hsm h2 (by omega) (by omega) hlv
              have k11:=fun h2=>(made_left (now:=at_.1) (q:=(lowN a.2.2.1,a.2.2.2.1,a.2.2.2.2.1)) hsm h2).1
              revert k1 k2 k8 k9 k10 k11
              generalize makeS at_.1 (lowN a.2.2.1,a.2.2.2.1,a.2.2.2.2.1) c=T
              obtain⟨t,ok⟩:=T
              intro k1 k2 k8 k9 k10 k11
              simp only at k1 k2 k8 k9 k10 k11
              cases ok with
              | false=>rfl
              | true =>
               have k8:=k8 rfl
               have k9:=k9 rfl
               have k10:=k10 rfl
               have k11:=k11 rfl
               have e5:F_patch_Fits (t.1,t.2.1,t.2.2.1,t.2.2.2.1,t.2.2.2.2.1,t.2.2.2.2.2) (a.1,a.2.1,a.2.2.1,a.2.2.2.1,a.2.2.2.2.1,a.2.2.2.2.2.1,a.2.2.2.2.2.2.1,a.2.2.2.2.2.2.2.1,a.2.2.2.2.2.2.2.2.1,a.2.2.2.2.2.2.2.2.2) (at_.1+at_.2.1)=some (fitsS t a (at_.1+at_.2.1)):=by
                have e:=fits_eq (t:=t) (a:=a) (now:=at_.1+at_.2.1) (okT_of k1.1) (by omega)
                have e':F_patch_copier_fits (t.1,t.2.1,t.2.2.1,t.2.2.2.1,t.2.2.2.2.1,t.2.2.2.2.2,a.1,a.2.1,a.2.2.1,a.2.2.2.1,a.2.2.2.2.1,a.2.2.2.2.2.1,a.2.2.2.2.2.2.1,a.2.2.2.2.2.2.2.1,a.2.2.2.2.2.2.2.2.1,a.2.2.2.2.2.2.2.2.2,at_.1+at_.2.1)=some (fitsS t a (at_.1+at_.2.1)):=e
                unfold F_patch_Fits
                rw[e',bnd_some]
               have e7:F_patch_Copy (t.1,t.2.1,t.2.2.1,t.2.2.2.1,t.2.2.2.2.1,t.2.2.2.2.2) (a.1,a.2.1,a.2.2.1,a.2.2.2.1,a.2.2.2.2.1,a.2.2.2.2.2.1,a.2.2.2.2.2.2.1,a.2.2.2.2.2.2.2.1,a.2.2.2.2.2.2.2.2.1,a.2.2.2.2.2.2.2.2.2) (at_.1+at_.2.1) at_.2.2=some (if at_.2.2<0∨fitsS t a (at_.1+at_.2.1)=false then ([],false) else (copyS t a (at_.1+at_.2.1) at_.2.2,true)):=patch_Copy_eq (a:=a) k1 (by omega)
               simp only[Bool.not_true,Bool.false_eq_true,if_true,if_false,bnd_some,e5,e7]
               cases hf:fitsS t a (at_.1+at_.2.1) with
               | false=>rfl
               | true =>
                rw[if_neg (show ¬(at_.2.2<0∨true=false) by simp;omega)]
                have hcp:=k8 (by omega)
                have hcode:t.2.2.2.1=codeS (chL at_.1 (at_.1+at_.2.1) c):=k9
                obtain⟨f1,f2,_⟩:=fits_parts hf
                have hpc:=k10 f2
                have hpf:=pieces_few (c:=chL at_.1 (at_.1+at_.2.1) c) (chL_small hsm) at_.2.2
                have hbt:=copy_built hpf hcp hf (by omega) hcode
                have hsml:=later_small hsm at_.2.1
                have e8:F_law19_later (c.1,c.2.1,c.2.2.1,c.2.2.2.1,c.2.2.2.2.1,c.2.2.2.2.2.1,c.2.2.2.2.2.2.1,c.2.2.2.2.2.2.2.1,c.2.2.2.2.2.2.2.2) at_.2.1=some (laterC c at_.2.1):=later_eq s2 at_.2.1
                have e9:F_law17_Chain ((laterC c at_.2.1).1,(laterC c at_.2.1).2.1,(laterC c at_.2.1).2.2.1,(laterC c at_.2.1).2.2.2.1,(laterC c at_.2.1).2.2.2.2.1,(laterC c at_.2.1).2.2.2.2.2.1,(laterC c at_.2.1).2.2.2.2.2.2.1,(laterC c at_.2.1).2.2.2.2.2.2.2.1,(laterC c at_.2.1).2.2.2.2.2.2.2.2)=some (laterC c at_.2.1):=chain_eq (c:=laterC c at_.2.1) (by show (c.1.map (hiW at_.2.1)).length≤12;rw[List.length_map];exact s2)
                have e10:F_reply_Build (a.1,a.2.1,a.2.2.1,a.2.2.2.1,a.2.2.2.2.1,a.2.2.2.2.2.1,a.2.2.2.2.2.2.1,a.2.2.2.2.2.2.2.1,a.2.2.2.2.2.2.2.2.1,a.2.2.2.2.2.2.2.2.2) ((laterC c at_.2.1).1,(laterC c at_.2.1).2.1,(laterC c at_.2.1).2.2.1,(laterC c at_.2.1).2.2.2.1,(laterC c at_.2.1).2.2.2.2.1,(laterC c at_.2.1).2.2.2.2.2.1,(laterC c at_.2.1).2.2.2.2.2.2.1,(laterC c at_.2.1).2.2.2.2.2.2.2.1,(laterC c at_.2.1).2.2.2.2.2.2.2.2) at_.2.2=some (buildS a (laterC c at_.2.1) at_.2.2):=reply_Build_eq (a:=a) (c:=laterC c at_.2.1) (by omega) hsml at_.2.2
                have hbs:buildS a (laterC c at_.2.1) at_.2.2=copyS t a (at_.1+at_.2.1) at_.2.2:=by
                 rw[build_yes (by show ¬(c.2.1<0∨2<c.2.1);omega),hpc,←hbt]
                 rfl
                have hne:(copyS t a (at_.1+at_.2.1) at_.2.2==[])=false:=by
                 have:copyS t a (at_.1+at_.2.1) at_.2.2≠[]:=by
                  rw[copy_whole hcp hf (by omega) hcode]
                  exact whole_pos _
                 simpa using this
                simp only[Bool.not_true,Bool.not_false,Bool.false_eq_true,if_true,if_false,bnd_some,hne,e8,e9,e10,hbs,beq_self_eq_true]
end Go.Abs
