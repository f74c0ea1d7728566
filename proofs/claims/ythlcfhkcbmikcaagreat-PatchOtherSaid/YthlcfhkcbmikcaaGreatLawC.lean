/- Part of a proof. -/
import Derived.Test.YthlcfhkcbmikcaaGreatLawB
import Derived.Test.YthlcfhkcbmikcaaGreatSxB
import Derived.Test.YthlcfhkcbmikcaaGreatSnD
set_option linter.unusedSimpArgs false
set_option linter.unusedVariables false
set_option linter.unusedSectionVars false
namespace Go.Abs
open Go
theorem loop_run {σ τ:Type} {step:σ→Option (σ ⊕ τ)} {t:τ} {s:Nat→σ}:∀(m:Nat),(∀i,i<m→step (s i)=some (.inl (s (i+1))))→step (s m)=some (.inr t)→loopS step (s 0)=some t:=by
 intro m
 suffices h:∀k,k≤m→(∀i,i<m→step (s i)=some (.inl (s (i+1))))→step (s m)=some (.inr t)→loopS step (s (m-k))=some t by
  intro h1 h2
  have:=h m (Nat.le_refl _) h1 h2
  rwa [Nat.sub_self] at this
 intro k
 induction k with
 | zero=>intro _ _ h2;exact loopS_out h2
 | succ k ih =>
  intro hk h1 h2
  rw[loopS_next (h1 (m-(k+1)) (by omega)),show m-(k+1)+1=m-k by omega]
  exact ih (by omega) h1 h2
theorem take_next {β:Type} {l:List β} {i:Nat} {x:β} (h:l[i]? = some x):l.take (i+1)=l.take i++[x]:=by
 rw[List.take_add_one,h];rfl
def timeS (n:Int):Bool:=inC n 1099511627776
def aliveS (now u:Int):Bool:=timeS now&&decide (now<u)
def leftS (now u:Int):Int:=if aliveS now u then (if 604800<u-now then 604800 else u-now) else 0
theorem tmpl_in_eq (n m:Int):F_tmpl_in n m=some (inC n m):=by
 unfold F_tmpl_in inC
 by_cases h:0≤n<;>simp[h]
theorem age_within_eq (n m:Int):F_age_within_int n m=some (inC n m):=by
 unfold F_age_within_int inC
 by_cases h:0≤n<;>simp[h]
theorem age_Live_eq (now u:Int):F_age_Live now u=some (aliveS now u):=by
 unfold F_age_Live aliveS
 rw[age_within_eq,bnd_some]
 show (if timeS now=true then _ else _)=_
 cases timeS now<;>simp
theorem aliveS_iff {now u:Int}:aliveS now u=true↔0≤now∧now≤1099511627776∧now<u:=by
 unfold aliveS timeS inC
 simp only[Bool.and_eq_true,decide_eq_true_eq]
 omega
theorem age_Left_eq {now u:Int} (hu:u≤maxI):F_age_Left now u=some (leftS now u):=by
 have hm:maxI=9223372036854775807:=rfl
 unfold F_age_Left leftS
 rw[age_Live_eq,bnd_some]
 cases h:aliveS now u with
 | false=>simp
 | true =>
  have:=aliveS_iff.1 h
  rw[wrap_id (by omega) (by omega)]
  simp
theorem leftS_le (now u:Int):0≤leftS now u∧leftS now u≤604800:=by
 unfold leftS
 split
 · rename_i h
   have:=aliveS_iff.1 h
   split<;>omega
 · omega
abbrev Sp:=Int×Int×Int
abbrev Pc:=List Sp×Int×Bool
abbrev Tt:=List UInt8×Int×Int×Int×List UInt8×List Pc
def spanC (n:Nat) (s:Sp):Bool:=decide (0≤s.1)&&decide (s.1≤s.2.2)&&decide (s.2.1≤n)&&decide (s.2.2≤s.2.1)&&decide (4≤s.2.1-s.2.2)
theorem spanC_iff {n:Nat} {s:Sp}:spanC n s=true↔0≤s.1∧s.1≤s.2.2∧s.2.1≤n∧s.2.2+4≤s.2.1:=by
 unfold spanC
 simp only[Bool.and_eq_true,decide_eq_true_eq]
 omega
def pieceC (n:Nat) (p:Pc):Bool:=decide (p.1≠[])&&p.1.all (spanC n)
def checkT (t:Tt):Bool:=t.2.2.2.2.2.all (pieceC t.2.2.2.2.1.length)
def okT (t:Tt):Prop:=(t.2.2.2.2.1.length:Int)≤maxI∧(t.2.2.2.2.2.length:Int)≤maxI∧∀p∈t.2.2.2.2.2,(p.1.length:Int)≤maxI
theorem len0 (n:Nat):((n:Int)==0)=decide (n=0):=by
 rw[Bool.eq_iff_iff];simp
theorem spans_loop {t:Tt} {x:Pc} (h1:(t.2.2.2.2.1.length:Int)≤maxI) (h2:(x.1.length:Int)≤maxI) (z:Int):∃r,loopS (step_tmpl_Template_Check_1 t z x) 0=some r∧(if x.1.all (spanC t.2.2.2.2.1.length)=true then r=.inr () else ∃i:Nat,r=.inl false):=by
 have hm:maxI=9223372036854775807:=rfl
 refine all_loop (bad:=fun _=>false) x.1 ?_ (fun i s hs=>?_)
 · simp only[step_tmpl_Template_Check_1,grdEq_self]
   rw[if_neg (by simp)]
 · have hi:=(List.getElem?_eq_some_iff.1 hs).1
   simp only[step_tmpl_Template_Check_1,natOf_nat,hs,bnd_some,grdEq_self]
   rw[if_pos (by simp;omega),wrap_id (x:=(i:Int)+1) (by omega) (by omega)]
   by_cases c1:0≤s.1
   · by_cases c2:s.1≤s.2.2
     · by_cases c3:s.2.1≤t.2.2.2.2.1.length
       · by_cases c4:s.2.2≤s.2.1
         · rw[wrap_id (x:=s.2.1-s.2.2) (by omega) (by omega)]
           by_cases c5:4≤s.2.1-s.2.2<;>simp[spanC,c1,c2,c3,c4,c5]
         · simp[spanC,c1,c2,c3,c4]
       · simp[spanC,c1,c2,c3]
     · simp[spanC,c1,c2]
   · simp[spanC,c1]
theorem tmpl_Check_eq {t:Tt} (h:okT t):F_tmpl_Template_Check t=some (checkT t):=by
 have hm:maxI=9223372036854775807:=rfl
 obtain⟨h1,h2,h3⟩:=h
 unfold F_tmpl_Template_Check checkT
 obtain⟨r,r1,r2⟩:=all_loop (ok:=pieceC t.2.2.2.2.1.length) (bad:=fun _=>false) (step:=step_tmpl_Template_Check_0 t) t.2.2.2.2.2 (by
  simp only[step_tmpl_Template_Check_0,grdEq_self]
  rw[if_neg (by simp)]) (fun i x hx=>by
  have hi:=(List.getElem?_eq_some_iff.1 hx).1
  have hp:=h3 x (List.mem_of_getElem? hx)
  simp only[step_tmpl_Template_Check_0,natOf_nat,hx,bnd_some,grdEq_self]
  rw[if_pos (by simp;omega),wrap_id (x:=(i:Int)+1) (by omega) (by omega)]
  obtain⟨q,q1,q2⟩:=spans_loop (t:=t) (x:=x) h1 hp (i:Int)
  rw[len0]
  unfold pieceC
  by_cases c:x.1=[]
  · simp[c]
  · have c':¬x.1.length=0:=by simpa using c
    simp only[c,c',decide_false,Bool.false_eq_true,if_false,q1,bnd_some,ne_eq,not_false_eq_true,decide_true,Bool.true_and]
    by_cases hq:x.1.all (spanC t.2.2.2.2.1.length)=true
    · rw[if_pos hq] at q2
      subst q2
      simp only[hq,if_true];rfl
    · rw[if_neg hq] at q2
      obtain⟨_,rfl⟩:=q2
      rw[if_neg hq])
 rw[r1,bnd_some]
 by_cases h:t.2.2.2.2.2.all (pieceC t.2.2.2.2.1.length)=true
 · rw[if_pos h] at r2;subst r2;simp only[h]
 · rw[if_neg h] at r2;obtain⟨_,rfl⟩:=r2
   simp only[Bool.not_eq_true] at h
   simp only[h]
def liveT (t:Tt) (now:Int):Bool:=t.2.2.2.2.2.all (fun p=>aliveS now p.2.1)&&timeS now
theorem tmpl_Live_eq {t:Tt} (h:(t.2.2.2.2.2.length:Int)≤maxI) (now:Int):F_tmpl_Template_Live t now=some (liveT t now):=by
 have hm:maxI=9223372036854775807:=rfl
 unfold F_tmpl_Template_Live liveT
 obtain⟨r,r1,r2⟩:=all_loop (ok:=fun p:Pc=>aliveS now p.2.1) (bad:=fun _=>false) (step:=step_tmpl_Template_Live_0 t now) t.2.2.2.2.2 (by
  simp only[step_tmpl_Template_Live_0,grdEq_self]
  rw[if_neg (by simp)]) (fun i x hx=>by
  have hi:=(List.getElem?_eq_some_iff.1 hx).1
  simp only[step_tmpl_Template_Live_0,natOf_nat,hx,bnd_some,grdEq_self,age_Live_eq]
  rw[if_pos (by simp;omega),wrap_id (x:=(i:Int)+1) (by omega) (by omega)]
  cases aliveS now x.2.1<;>simp)
 rw[r1,bnd_some]
 by_cases h:t.2.2.2.2.2.all (fun p:Pc=>aliveS now p.2.1)=true
 · rw[if_pos h] at r2;subst r2
   simp only[h,tmpl_in_eq,bnd_some,Bool.true_and];rfl
 · rw[if_neg h] at r2;obtain⟨_,rfl⟩:=r2
   simp only[Bool.not_eq_true] at h
   simp only[h,Bool.false_and]
end Go.Abs

namespace Go.Abs
open Go
def rot {β:Type} (l:List β) (a:Nat):List β:=l.drop a++l.take a
theorem rot_len {β:Type} (l:List β) (a:Nat):(rot l a).length=l.length:=by simp[rot];omega
theorem rot_get {β:Type} {l:List β} {a k:Nat} (ha:a<l.length) (hk:k<l.length):(rot l a)[k]? = l[(a+k) % l.length]? := by
 unfold rot
 by_cases h:a+k<l.length
 · rw[Nat.mod_eq_of_lt h,List.getElem?_append_left (by simp;omega),List.getElem?_drop]
 · have e:(a+k) % l.length=a+k-l.length:=by
    rw[Nat.mod_eq_sub_mod (by omega),Nat.mod_eq_of_lt (by omega)]
   rw[e,List.getElem?_append_right (by simp;omega),List.getElem?_take]
   simp only[List.length_drop]
   rw[if_pos (by omega)]
   congr 1
   omega
theorem rot_mem {β:Type} {l:List β} {a:Nat} {x:β} (h:x∈rot l a):x∈l:=by
 unfold rot at h
 rcases List.mem_append.1 h with h | h
 · exact List.mem_of_mem_drop h
 · exact List.mem_of_mem_take h
theorem at_eq {turn:Int} {n:Nat} (h:0≤turn) (hn:0<n):turn.tmod (n:Int)=((turn.toNat % n:Nat):Int):=by
 obtain⟨m,rfl⟩:=Int.eq_ofNat_of_zero_le h
 rw[Int.tmod_eq_emod_of_nonneg (by omega)]
 rfl
def seg (s:List UInt8) (a b:Nat):List UInt8:=List.drop a (List.take b s)
theorem seg_len {s:List UInt8} {a b:Nat} (h2:b≤s.length):(seg s a b).length=b-a:=by
 unfold seg;simp;omega
theorem flat_len {β:Type} {g:β→List UInt8} {b:Nat}:∀(l:List β),(∀x∈l,(g x).length≤b)→(l.flatMap g).length≤b*l.length
 | [],_=>by simp
 | x::l,h=>by
  have h1:=h x (by simp)
  have h2:=flat_len l (fun y hy=>h y (by simp[hy]))
  rw[List.flatMap_cons,List.length_append,List.length_cons,Nat.mul_succ]
  omega
def spanB (text left:List UInt8) (s:Sp):List UInt8:=seg text s.1.toNat s.2.2.toNat++left++seg text (s.2.2.toNat+4) s.2.1.toNat
def partT (t:Tt) (now turn:Int) (p:Pc):List UInt8 :=
 (rot p.1 (if p.2.2 then 0 else turn.toNat % p.1.length)).flatMap (spanB t.2.2.2.2.1 (put4 (leftS now p.2.1)))
def partS (t:Tt) (i now turn:Int):List UInt8 :=
 if checkT t=false∨i<0∨turn<0 then [] else
 match t.2.2.2.2.2[i.toNat]? with
 | none=>[]
 | some p=>if aliveS now p.2.1 then partT t now turn p else []
def fewT (t:Tt):Prop:=t.2.2.2.2.1.length≤2000000∧t.2.2.2.2.2.length≤1000∧(∀p∈t.2.2.2.2.2,p.1.length≤1000∧p.2.1≤maxI)
theorem okT_of {t:Tt} (h:fewT t):okT t:=by
 have hm:maxI=9223372036854775807:=rfl
 obtain⟨h1,h2,h3⟩:=h
 exact⟨by omega,by omega,fun p hp=>by have:=(h3 p hp).1;omega⟩
theorem put4_len (n:Int):(put4 n).length=4:=rfl
theorem spanB_len {text left:List UInt8} {s:Sp} (hl:left.length=4) (h:spanC text.length s=true):(spanB text left s).length=s.2.1.toNat-s.1.toNat:=by
 have:=spanC_iff.1 h
 unfold spanB
 rw[List.length_append,List.length_append,seg_len (by omega),seg_len (by omega)]
 omega
theorem pieceC_iff {n:Nat} {p:Pc} (h:pieceC n p=true):0<p.1.length∧∀s∈p.1,spanC n s=true:=by
 unfold pieceC at h
 simp only[Bool.and_eq_true,decide_eq_true_eq,List.all_eq_true] at h
 exact⟨List.length_pos_iff.2 h.1,h.2⟩
theorem ints_seg (s:List UInt8) (a b:Nat):List.map (fun b:UInt8=>(b.toNat:Int)) (List.drop a (List.take b s))=ints (seg s a b):=rfl
theorem ints_map (s:List UInt8):List.map (fun b:UInt8=>(b.toNat:Int)) s=ints s:=rfl
theorem ints_length (s:List UInt8):(ints s).length=s.length:=by simp[ints]
theorem ints_bound (s:List UInt8):∀n:(Ty.int IntKind.u8).den,n∈ints s→0≤n∧n<256:=by
 intro n hn
 obtain⟨b,_,rfl⟩:=List.mem_map.1 hn
 have:=b.toNat_lt
 exact⟨Int.natCast_nonneg _,Int.ofNat_lt.2 this⟩
theorem ints_back (s:List UInt8):List.map (fun n:Int=>UInt8.ofNat (Int.toNat n)) (ints s)=s:=by
 unfold ints
 rw[List.map_map]
 conv=>rhs;rw[←List.map_id s]
 apply List.map_congr_left
 intro b _
 simp
theorem part_loop {t:Tt} {x:Pc} (hf:fewT t) (hx:x∈t.2.2.2.2.2) (hc:pieceC t.2.2.2.2.1.length x=true) {a:Nat} (ha:a<x.1.length) {left:List UInt8} (hl:left.length=4) :
 loopS (step_tmpl_Template_Part_0 t x (a:Int) left) (0,[])=some (ints ((rot x.1 a).flatMap (spanB t.2.2.2.2.1 left))):=by
 have hm:maxI=9223372036854775807:=rfl
 obtain⟨f1,f2,f3⟩:=hf
 obtain⟨g1,g2⟩:=f3 x hx
 obtain⟨c1,c2⟩:=pieceC_iff hc
 have hb:∀i,(((rot x.1 a).take i).flatMap (spanB t.2.2.2.2.1 left)).length≤2000000000:=by
  intro i
  have:=flat_len (g:=spanB t.2.2.2.2.1 left) (b:=2000000) ((rot x.1 a).take i) (fun s hs=>by
   have hs':=c2 s (rot_mem (List.mem_of_mem_take hs))
   rw[spanB_len hl hs']
   have:=spanC_iff.1 hs'
   omega)
  have h2:((rot x.1 a).take i).length≤1000:=by rw[List.length_take,rot_len];omega
  have:=Nat.mul_le_mul_left 2000000 h2
  omega
 have:=loop_run (step:=step_tmpl_Template_Part_0 t x (a:Int) left) (t:=ints ((rot x.1 a).flatMap (spanB t.2.2.2.2.1 left))) (s:=fun i=>((i:Int),ints (((rot x.1 a).take i).flatMap (spanB t.2.2.2.2.1 left)))) x.1.length (fun i hi=>by
  have hb1:=hb i
  have hb2:=hb (i+1)
  obtain⟨s,hs⟩:∃s,(rot x.1 a)[i]? = some s:=⟨(rot x.1 a)[i]'(by rw[rot_len];exact hi),by simp⟩
  have hs2:=hs
  rw[rot_get ha hi] at hs2
  have hsc:=c2 s (List.mem_of_getElem? hs2)
  have hsi:=spanC_iff.1 hsc
  have htk:((rot x.1 a).take (i+1)).flatMap (spanB t.2.2.2.2.1 left)=((rot x.1 a).take i).flatMap (spanB t.2.2.2.2.1 left)++spanB t.2.2.2.2.1 left s:=by
   rw[take_next hs,List.flatMap_append];simp
  rw[htk] at hb2 ⊢
  have hsl:=spanB_len (left:=left) hl hsc
  have hmod:((a:Int)+(i:Int)).tmod (x.1.length:Int)=(((a+i) % x.1.length:Nat):Int):=by
   rw[Int.tmod_eq_emod_of_nonneg (by omega)];rfl
  simp only[step_tmpl_Template_Part_0,grdEq_self]
  rw[if_pos (by simp;omega),if_neg (by omega),wrap_id (x:=(a:Int)+(i:Int)) (by omega) (by omega),hmod,natOf_nat,hs2,bnd_some]
  rw[show s.2.2=((s.2.2.toNat:Nat):Int) by omega,natOf_nat,grdp (by omega)]
  rw[show s.1=((s.1.toNat:Nat):Int) by omega,natOf_nat,grdp (by omega)]
  simp only[ints_seg,ints_map]
  have l1:(seg t.2.2.2.2.1 s.1.toNat s.2.2.toNat).length≤2000000:=by rw[seg_len (by omega)];omega
  have l0:(ints (List.drop s.1.toNat (List.take s.2.2.toNat t.2.2.2.2.1))).length≤2000000:=by rw[ints_length];exact l1
  refine Eq.trans (grdp (by simp only[List.length_append,ints_length] at l0 ⊢;unfold roomLim;omega)) ?_
  refine Eq.trans (grdp (by simp only[List.length_append,ints_length] at l0 ⊢;unfold roomLim;omega)) ?_
  rw[show s.2.1=((s.2.1.toNat:Nat):Int) by omega,natOf_nat,grdp (by omega)]
  rw[wrap_id (x:=((s.2.2.toNat:Nat):Int)+4) (by omega) (by omega),show ((s.2.2.toNat:Nat):Int)+4=((s.2.2.toNat+4:Nat):Int) by omega,natOf_nat,grdp (by omega)]
  have l2:(seg t.2.2.2.2.1 (s.2.2.toNat+4) s.2.1.toNat).length≤2000000:=by rw[seg_len (by omega)];omega
  have l3:(ints (List.drop (s.2.2.toNat+4) (List.take s.2.1.toNat t.2.2.2.2.1))).length≤2000000:=by rw[ints_length];exact l2
  refine Eq.trans (grdp (by simp only[List.length_append,ints_length] at l0 l3 ⊢;unfold roomLim;omega)) ?_
  rw[wrap_id (x:=(i:Int)+1) (by omega) (by omega)]
  simp only[spanB,ints_app,List.append_assoc]
  rfl) (by
  simp only[step_tmpl_Template_Part_0,grdEq_self]
  rw[if_neg (by simp),List.take_of_length_le (by rw[rot_len];exact Nat.le_refl _)])
 simpa[ints] using this
theorem tmpl_Part_eq {t:Tt} (hf:fewT t) (i now turn:Int):F_tmpl_Template_Part t i now turn=some (partS t i now turn):=by
 have hm:maxI=9223372036854775807:=rfl
 unfold F_tmpl_Template_Part partS
 have e:F_tmpl_Template_Check (t.fst,t.snd.fst,t.snd.snd.fst,t.snd.snd.snd.fst,t.snd.snd.snd.snd.fst,t.snd.snd.snd.snd.snd)=some (checkT t):=tmpl_Check_eq (okT_of hf)
 simp only[e,bnd_some,grdEq_self]
 by_cases c1:i<0
 · simp[c1];rfl
 · by_cases c2:(t.2.2.2.2.2.length:Int)≤i
   · have:t.2.2.2.2.2[i.toNat]? = none:=List.getElem?_eq_none (by omega)
     simp only[c1,c2,this,decide_true,decide_false,Bool.true_eq_false,if_true,if_false,bnd_some]
     simp
   · by_cases c3:turn<0
     · simp only[c1,c2,c3,decide_true,decide_false,Bool.true_eq_false,if_true,if_false,bnd_some]
       simp
     · cases c4:checkT t with
       | false =>
        simp only[c1,c2,c3,decide_true,decide_false,Bool.true_eq_false,if_true,if_false,bnd_some,Bool.not_false]
        simp
       | true =>
        simp only[c1,c2,c3,decide_true,decide_false,Bool.true_eq_false,Bool.false_eq_true,if_true,if_false,bnd_some,Bool.not_true]
        obtain⟨x,hx⟩:∃x,t.2.2.2.2.2[i.toNat]? = some x:=⟨t.2.2.2.2.2[i.toNat]'(by omega),by simp⟩
        have hmem:=List.mem_of_getElem? hx
        obtain⟨g1,g2⟩:=hf.2.2 x hmem
        have hpc:pieceC t.2.2.2.2.1.length x=true:=by
         unfold checkT at c4
         exact List.all_eq_true.1 c4 x hmem
        obtain⟨p1,p2⟩:=pieceC_iff hpc
        rw[show i=((i.toNat:Nat):Int) by omega,natOf_nat]
        simp only[Int.toNat_natCast,hx,bnd_some,age_Live_eq]
        simp only[or_self,if_false]
        cases c5:aliveS now x.2.1 with
        | false=>simp
        | true =>
         simp only[Bool.not_true,Bool.false_eq_true,if_false,if_true]
         rw[if_neg (show ¬((x.fst.length:Nat):Int)=0 by omega)]
         have hat:(if x.2.2=true then some (0:Int) else some (turn.tmod (x.1.length:Int)))=some (((if x.2.2 then 0 else turn.toNat % x.1.length:Nat):Nat):Int):=by
          cases x.2.2
          · simp[at_eq (show 0≤turn by omega) p1]
          · simp
         have ha:(if x.2.2 then 0 else turn.toNat % x.1.length:Nat)<x.1.length:=by
          split
          · exact p1
          · exact Nat.mod_lt _ p1
         have hle:=leftS_le now x.2.1
         rw[hat,bnd_some,age_Left_eq g2,bnd_some,octet_put4 hle.1 (by omega),bnd_some,part_loop hf hmem hpc ha (put4_len _),bnd_some]
         have hlen:((rot x.1 (if x.2.2 then 0 else turn.toNat % x.1.length)).flatMap (spanB t.2.2.2.2.1 (put4 (leftS now x.2.1)))).length≤2000000*x.1.length:=by
          have:=flat_len (g:=spanB t.2.2.2.2.1 (put4 (leftS now x.2.1))) (b:=2000000) (rot x.1 (if x.2.2 then 0 else turn.toNat % x.1.length)) (fun s hs=>by
           have hs':=p2 s (rot_mem hs)
           rw[spanB_len (put4_len _) hs']
           have:=spanC_iff.1 hs'
           have:=hf.1
           omega)
          rwa [rot_len] at this
         have hl2:=Nat.mul_le_mul_left 2000000 g1
         rw[grdp (by rw[ints_length];omega),grdp (ints_bound _),ints_back]
         rfl
end Go.Abs

namespace Go.Abs
open Go
def scanF {β τ:Type} (f:Nat→β→Option τ) (e:τ):Nat→List β→τ
 | _,[]=>e
 | i,x::l=>match f i x with
  | some t=>t
  | none=>scanF f e (i+1) l
theorem loop_scan {β τ:Type} {l:List β} {step:Int→Option (Int ⊕ τ)} (f:Nat→β→Option τ) (e:τ)
 (hs:∀(i:Nat) x,l[i]? = some x→step (i:Int)=some (match f i x with | some t=>.inr t | none=>.inl ((i+1:Nat):Int))) (he:step (l.length:Int)=some (.inr e)):loopS step 0=some (scanF f e 0 l):=by
 suffices h:∀(v u:List β),l=u++v→loopS step (u.length:Int)=some (scanF f e u.length v) from h l [] rfl
 intro v
 induction v with
 | nil =>
  intro u hu
  rw[List.append_nil] at hu
  subst hu
  exact loopS_out he
 | cons x v ih =>
  intro u hu
  have hx:=hs u.length x (by rw[hu];simp)
  unfold scanF
  cases hf:f u.length x with
  | some t=>rw[hf] at hx;exact loopS_out hx
  | none =>
   rw[hf] at hx
   rw[loopS_next hx]
   have:=ih (u++[x]) (by rw[hu];simp)
   simpa using this
def lowN (n:List UInt8):List UInt8:=if nameS n then lowS n else []
theorem name_Low_eq {n:List UInt8} (h:(n.length:Int)≤maxI):F_name_Low n=some (lowN n):=by
 unfold F_name_Low lowN
 rw[name_Check_eq h,bnd_some,name_low_eq h]
 cases nameS n<;>rfl
theorem ref02_Low_eq {n:List UInt8} (h:(n.length:Int)≤maxI):F_ref02_Low n=some (lowN n):=by
 unfold F_ref02_Low lowN
 rw[ref02_Check_eq,bnd_some,ref02_Small_eq h]
 cases nameS n<;>rfl
theorem map_set {α:Type} {l:List α} {f:α→α} {i:Nat} {x:α} (h:l[i]? = some x):((l.take i).map f++l.drop i).set i (f x)=(l.take (i+1)).map f++l.drop (i+1):=by
 have hi:=(List.getElem?_eq_some_iff.1 h).1
 have e:l.drop i=x::l.drop (i+1):=by
  rw[List.drop_eq_getElem_cons hi]
  congr 1
  have:=List.getElem?_eq_getElem hi
  rw[h] at this
  exact (Option.some.inj this).symm
 rw[e,take_next h,List.set_append_right _ _ (by rw[List.length_map,List.length_take];omega),List.map_append]
 simp[Nat.min_eq_left (Nat.le_of_lt hi)]
end Go.Abs

namespace Go.Abs
open Go
end Go.Abs

namespace Go.Abs
open Go
theorem scan_val {β:Type} {ok:Nat→β→Bool}:∀(l:List β) (i:Nat),scanF (fun i x=>if ok i x then none else some (Sum.inl (β:=Unit) false)) (.inr ()) i l=.inr ()∨scanF (fun i x=>if ok i x then none else some (Sum.inl (β:=Unit) false)) (.inr ()) i l=.inl false
 | [],i=>.inl rfl
 | x::l,i=>by
  unfold scanF
  by_cases h:ok i x=true
  · rw[if_pos h];exact scan_val l (i+1)
  · rw[if_neg h];exact .inr rfl
end Go.Abs

namespace Go.Abs
open Go
abbrev TP:=List UInt8×List Pc
end Go.Abs

namespace Go.Abs
open Go
end Go.Abs

namespace Go.Abs
open Go
def covW:Int→List Sp→Int→Prop
 | a,[],b=>a=b
 | a,s::l,b=>s.1=a∧0≤s.1∧s.1≤4000000∧s.1≤s.2.1∧s.1+5≤s.2.2∧covW s.2.1 l b
def covP:Int→List Pc→Int→Prop
 | a,[],b=>a=b
 | a,p::l,b=>∃m,covW a p.1 m∧covP m l b
structure Made (t:TP) (n:Nat):Prop where
 cov:covP 0 t.2 (t.1.length:Int)
 len:t.1.length≤136020*n
 num:t.2.length=n
 few:∀p∈t.2,p.1.length≤60
end Go.Abs

namespace Go.Abs
open Go
end Go.Abs

namespace Go.Abs
open Go
structure Fit (t:TP):Prop where
 ok:∀p∈t.2,pieceC t.1.length p=true
 till:∀p∈t.2,p.2.1≤4000000000000
end Go.Abs

namespace Go.Abs
open Go
def smallT (t:Tt):Bool:=t.2.2.2.2.2.all (fun p=>decide (p.1.length≤60)&&decide (t.2.2.2.2.2.length≤20))&&decide (t.2.2.2.2.1.length≤20000)&&decide (t.1.length≤300)
def okTT (t:Tt):Prop:=(t.2.2.2.2.2.length:Int)≤maxI∧∀p∈t.2.2.2.2.2,(p.1.length:Int)≤maxI∧p.2.1≤maxI
theorem ref18_Small_eq {t:Tt} (h:okTT t):F_ref18_Small t=some (smallT t):=by
 have hm:maxI=9223372036854775807:=rfl
 obtain⟨h1,h2⟩:=h
 unfold F_ref18_Small smallT
 obtain⟨r,r1,r2⟩:=all_loop (ok:=fun p:Pc=>decide (p.1.length≤60)&&decide (t.2.2.2.2.2.length≤20)) (bad:=fun _=>false) (step:=step_ref18_Small_0 t) t.2.2.2.2.2 (by
  simp only[step_ref18_Small_0,grdEq_self]
  rw[if_neg (by simp)]) (fun i x hx=>by
  have hi:=(List.getElem?_eq_some_iff.1 hx).1
  simp only[step_ref18_Small_0,natOf_nat,hx,bnd_some,grdEq_self]
  rw[if_pos (by simp;omega),wrap_id (by omega) (by omega)]
  by_cases g1:x.1.length≤60
  · have e1:¬(60:Int)<(x.1.length:Int):=by omega
    by_cases g2:t.2.2.2.2.2.length≤20
    · have e2:¬(20:Int)<(t.2.2.2.2.2.length:Int):=by omega
      simp[g1,g2,e1,e2]
    · have e2:(20:Int)<(t.2.2.2.2.2.length:Int):=by omega
      simp[g1,g2,e1,e2]
  · have e1:(60:Int)<(x.1.length:Int):=by omega
    simp[g1,e1])
 rw[r1,bnd_some]
 have e1:decide ((t.2.2.2.2.1.length:Int)≤20000)=decide (t.2.2.2.2.1.length≤20000):=by rw[Bool.eq_iff_iff];simp;omega
 have e2:decide ((t.1.length:Int)≤300)=decide (t.1.length≤300):=by rw[Bool.eq_iff_iff];simp;omega
 by_cases h:t.2.2.2.2.2.all (fun p:Pc=>decide (p.1.length≤60)&&decide (t.2.2.2.2.2.length≤20))=true
 · rw[if_pos h] at r2;subst r2
   simp only[h,e1,e2,Bool.true_and]
   cases decide (t.2.2.2.2.1.length≤20000)<;>simp
 · rw[if_neg h] at r2;obtain⟨_,rfl⟩:=r2
   simp only[Bool.not_eq_true] at h
   simp only[h,Bool.false_and]
theorem smallT_few {t:Tt} (h:okTT t) (hs:smallT t=true):fewT t∧t.2.2.2.2.2.length≤20∧∀p∈t.2.2.2.2.2,p.1.length≤60:=by
 unfold smallT at hs
 simp only[Bool.and_eq_true,List.all_eq_true,decide_eq_true_eq] at hs
 obtain⟨⟨h1,h2⟩,h3⟩:=hs
 have hn:t.2.2.2.2.2.length≤20:=by
  cases hd:t.2.2.2.2.2 with
  | nil=>simp
  | cons x l=>rw[←hd];exact (h1 x (by rw[hd];simp)).2
 exact⟨⟨by omega,by omega,fun p hp=>⟨by have:=(h1 p hp).1;omega,(h.2 p hp).2⟩⟩,hn,fun p hp=>(h1 p hp).1⟩
theorem own_loop {t:Tt} {i:Nat} {p x5 x7:Pc} {ps:List Pc} (hp:t.2.2.2.2.2[i]? = some p) (hl:p.1.length≤60):loopS (step_law18_Own_1 t (i:Int) x5 x7) (0,(ps,[]))=some (ps,p.1):=by
 have:=loop_run (step:=step_law18_Own_1 t (i:Int) x5 x7) (t:=(ps,p.1)) (s:=fun k=>((k:Int),(ps,p.1.take k))) p.1.length (fun k hk=>by
  obtain⟨x,hx⟩:∃x,p.1[k]? = some x:=⟨p.1[k],by simp[hk]⟩
  simp only[step_law18_Own_1,grdEq_self,natOf_nat,hp,bnd_some,hx]
  rw[if_pos (by simp;omega),grdp (by unfold roomLim;simp;omega),wrap_id (by omega) (by omega),take_next hx]
  rfl) (by
  simp only[step_law18_Own_1,grdEq_self,natOf_nat,hp,bnd_some]
  rw[if_neg (by simp)]
  simp)
 simpa using this
theorem own_eq {t:Tt} (hn:t.2.2.2.2.2.length≤20) (hl:∀p∈t.2.2.2.2.2,p.1.length≤60):F_law18_Own t=some t:=by
 unfold F_law18_Own
 have:=loop_run (step:=step_law18_Own_0 t) (t:=t.2.2.2.2.2) (s:=fun i=>((i:Int),t.2.2.2.2.2.take i)) t.2.2.2.2.2.length (fun i hi=>by
  obtain⟨x,hx⟩:∃x,t.2.2.2.2.2[i]? = some x:=⟨t.2.2.2.2.2[i],by simp[hi]⟩
  simp only[step_law18_Own_0,grdEq_self,natOf_nat,hx,bnd_some]
  rw[if_pos (by simp;omega),own_loop hx (hl x (List.mem_of_getElem? hx)),bnd_some]
  simp only
  rw[grdp (by unfold roomLim;simp;omega),wrap_id (by omega) (by omega),take_next hx]
  rfl) (by
  simp only[step_law18_Own_0,grdEq_self]
  rw[if_neg (by simp)]
  simp)
 simp only[List.take_zero,Int.natCast_zero] at this
 rw[this,bnd_some]
@[reducible] def tTt:Ty:=(.agg (.cons .str (.cons (.int .i64) (.cons (.int .i64) (.cons (.int .i64) (.cons .str (.list (.agg (.cons (.list tK) (.cons (.int .i64) .bool))))))))))
theorem okTT_of {t:Tt} (w:wfd tTt t):okTT t:=by
 have hl:maxLen=9223372036854775807:=rfl
 have hm:maxI=9223372036854775807:=rfl
 obtain⟨_,_,_,_,_,w1,w2⟩:=w
 rw[hl] at w1
 refine⟨by omega,fun p hp=>?_⟩
 obtain⟨⟨w3,_⟩,w4,_⟩:=w2 p hp
 rw[hl] at w3
 have hi:p.2.1≤IntKind.i64.max:=w4.2
 have hx:IntKind.i64.max=9223372036854775807:=rfl
 omega
end Go.Abs

namespace Go.Abs
open Go
end Go.Abs

namespace Go.Abs
open Go
theorem and_mask (n k:Nat) (hn:n<9223372036854775808) (hk:k<60):Go.bits .and .i64 (n:Int) ((2 ^ k-1:Nat):Int)=((n % 2 ^ k:Nat):Int):=by
 have hp:2 ^ k<2 ^ 63:=Nat.pow_lt_pow_right (by omega) (by omega)
 rw[i64_and_nat n (2 ^ k-1) hn (by omega),Nat.and_two_pow_sub_one_eq_mod]
def goodB (b:Int):Bool:=decide (0≤b)&&decide (b≤65535)
theorem goodB_iff {b:Int}:goodB b=true↔0≤b∧b≤65535:=by simp[goodB]
def ofS (d m:Int) (b:Int):Int:=if goodB b then b / d % m else 0
theorem ofS_yes {d m b:Int} (h0:0≤b) (h1:b≤65535):ofS d m b=b / d % m:=by unfold ofS;rw[if_pos (goodB_iff.2 ⟨h0,h1⟩)]
theorem ofS_lt {d m b:Int} (hm:0<m):0≤ofS d m b∧ofS d m b<m:=by
 unfold ofS
 split
 · exact⟨Int.emod_nonneg _ (by omega),Int.emod_lt_of_pos _ hm⟩
 · exact⟨by omega,hm⟩
theorem may_eq {f b:Int} (h0:0≤f) (h1:f<9):F_flag_Field_may f b=some (goodB b):=by
 unfold F_flag_Field_may goodB
 by_cases h2:0≤b
 · by_cases h3:b≤65535
   · simp[h0,h1,h2,h3]
   · simp[h2,h3]
 · simp[h2]
theorem fof_core {b:Int} (hg:goodB b=true) (s k:Nat) (hs:s<20) (hk:k<10):Go.bits .and .i64 (b.fdiv ((2 ^ s:Nat):Int)) ((2 ^ k-1:Nat):Int)=b / ((2 ^ s:Nat):Int) % ((2 ^ k:Nat):Int):=by
 obtain⟨h0,h1⟩:=goodB_iff.1 hg
 obtain⟨n,rfl⟩:=Int.eq_ofNat_of_zero_le h0
 have e:((n:Int)).fdiv ((2 ^ s:Nat):Int)=((n / 2 ^ s:Nat):Int):=by
  rw[Int.fdiv_eq_ediv_of_nonneg _ (Int.natCast_nonneg _)];rfl
 have hle:n / 2 ^ s≤n:=Nat.div_le_self _ _
 rw[e,and_mask (n / 2 ^ s) k (by omega) (by omega)]
 rfl
theorem mask_4_1:F_flag_place_mask (4,1)=some 1:=by kernel_rfl
theorem mask_8_1:F_flag_place_mask (8,1)=some 1:=by kernel_rfl
theorem mask_11_4:F_flag_place_mask (11,4)=some 15:=by kernel_rfl
theorem of1_eq (b:Int):F_flag_Field_Of 1 b=some (ofS 2048 16 b):=by
 unfold F_flag_Field_Of ofS
 rw[may_eq (by omega) (by omega),bnd_some]
 cases hg:goodB b with
 | false=>rfl
 | true =>
  simp only[Bool.not_true,Bool.false_eq_true,if_false,beq_self_eq_true,if_true,mask_11_4,bnd_some,show ((1:Int)==0)=false from rfl]
  exact congrArg some (fof_core hg 11 4 (by omega) (by omega))
theorem of4_eq (b:Int):F_flag_Field_Of 4 b=some (ofS 256 2 b):=by
 unfold F_flag_Field_Of ofS
 rw[may_eq (by omega) (by omega),bnd_some]
 cases hg:goodB b with
 | false=>rfl
 | true =>
  simp only[Bool.not_true,Bool.false_eq_true,if_false,beq_self_eq_true,if_true,mask_8_1,bnd_some,show ((4:Int)==0)=false from rfl,show ((4:Int)==1)=false from rfl,show ((4:Int)==2)=false from rfl,show ((4:Int)==3)=false from rfl]
  exact congrArg some (fof_core hg 8 1 (by omega) (by omega))
theorem of7_eq (b:Int):F_flag_Field_Of 7 b=some (ofS 16 2 b):=by
 unfold F_flag_Field_Of ofS
 rw[may_eq (by omega) (by omega),bnd_some]
 cases hg:goodB b with
 | false=>rfl
 | true =>
  simp only[Bool.not_true,Bool.false_eq_true,if_false,beq_self_eq_true,if_true,mask_4_1,bnd_some,show ((7:Int)==0)=false from rfl,show ((7:Int)==1)=false from rfl,show ((7:Int)==2)=false from rfl,show ((7:Int)==3)=false from rfl,show ((7:Int)==4)=false from rfl,show ((7:Int)==5)=false from rfl,show ((7:Int)==6)=false from rfl]
  exact congrArg some (fof_core hg 4 1 (by omega) (by omega))
def ansB (o r c k:Int):Int:=32768+2048*o+256*r+128+16*c+k
theorem lay_5:F_flag_Field_lay 5 0 1=some 128:=by kernel_rfl
theorem lay_0:F_flag_Field_lay 0 128 1=some 32896:=by kernel_rfl
def tab8:Bool:=(List.range 16).all fun (k:Nat)=>decide (F_flag_Field_lay 8 32896 (k:Int)=some (32896+(k:Int)))
theorem tab8_ok:tab8=true:=by kernel_rfl
def tab1:Bool:=(List.range 16).all fun (k:Nat)=>(List.range 16).all fun (o:Nat)=>decide (F_flag_Field_lay 1 (32896+(k:Int)) (o:Int)=some (32896+(k:Int)+2048*(o:Int)))
theorem tab1_ok:tab1=true:=by kernel_rfl
def tab4:Bool:=(List.range 16).all fun (k:Nat)=>(List.range 16).all fun (o:Nat)=>(List.range 2).all fun (r:Nat)=>decide (F_flag_Field_lay 4 (32896+(k:Int)+2048*(o:Int)) (r:Int)=some (32896+(k:Int)+2048*(o:Int)+256*(r:Int)))
theorem tab4_ok:tab4=true:=by kernel_rfl
def tab7:Bool:=(List.range 16).all fun (k:Nat)=>(List.range 16).all fun (o:Nat)=>(List.range 2).all fun (r:Nat)=>(List.range 2).all fun (c:Nat)=>decide (F_flag_Field_lay 7 (32896+(k:Int)+2048*(o:Int)+256*(r:Int)) (c:Int)=some (ansB o r c k))
theorem tab7_ok:tab7=true:=by kernel_rfl
def tabW:Bool:=(List.range 16).all fun (k:Nat)=>(List.range 16).all fun (o:Nat)=>(List.range 2).all fun (r:Nat)=>(List.range 2).all fun (c:Nat)=>decide (F_flag_Field_With 3 (ansB o r c k) 1=some (ansB o r c k+512,true))
theorem tabW_ok:tabW=true:=by kernel_rfl
theorem all_range {n:Nat} {p:Nat→Bool} (h:(List.range n).all p=true) {x:Int} (h0:0≤x) (h1:x<n):∃k:Nat,x=(k:Int)∧p k=true:=by
 obtain⟨k,rfl⟩:=Int.eq_ofNat_of_zero_le h0
 rw[List.all_eq_true] at h
 exact⟨k,rfl,h k (by simp;omega)⟩
theorem lay8_eq {k:Int} (h0:0≤k) (h1:k<16):F_flag_Field_lay 8 32896 k=some (32896+k):=by
 obtain⟨n,rfl,h⟩:=all_range (n:=16) tab8_ok h0 (by omega)
 exact of_decide_eq_true h
theorem lay1_eq {k o:Int} (h0:0≤k) (h1:k<16) (h2:0≤o) (h3:o<16):F_flag_Field_lay 1 (32896+k) o=some (32896+k+2048*o):=by
 obtain⟨n,rfl,h⟩:=all_range (n:=16) tab1_ok h0 (by omega)
 obtain⟨m,rfl,h⟩:=all_range (n:=16) h h2 (by omega)
 exact of_decide_eq_true h
theorem lay4_eq {k o r:Int} (h0:0≤k) (h1:k<16) (h2:0≤o) (h3:o<16) (h4:0≤r) (h5:r<2):F_flag_Field_lay 4 (32896+k+2048*o) r=some (32896+k+2048*o+256*r):=by
 obtain⟨n,rfl,h⟩:=all_range (n:=16) tab4_ok h0 (by omega)
 obtain⟨m,rfl,h⟩:=all_range (n:=16) h h2 (by omega)
 obtain⟨x,rfl,h⟩:=all_range (n:=2) h h4 (by omega)
 exact of_decide_eq_true h
theorem lay7_eq {k o r c:Int} (h0:0≤k) (h1:k<16) (h2:0≤o) (h3:o<16) (h4:0≤r) (h5:r<2) (h6:0≤c) (h7:c<2):F_flag_Field_lay 7 (32896+k+2048*o+256*r) c=some (ansB o r c k):=by
 obtain⟨n,rfl,h⟩:=all_range (n:=16) tab7_ok h0 (by omega)
 obtain⟨m,rfl,h⟩:=all_range (n:=16) h h2 (by omega)
 obtain⟨x,rfl,h⟩:=all_range (n:=2) h h4 (by omega)
 obtain⟨y,rfl,h⟩:=all_range (n:=2) h h6 (by omega)
 exact of_decide_eq_true h
theorem withTC_eq {k o r c:Int} (h0:0≤k) (h1:k<16) (h2:0≤o) (h3:o<16) (h4:0≤r) (h5:r<2) (h6:0≤c) (h7:c<2):F_flag_Field_With 3 (ansB o r c k) 1=some (ansB o r c k+512,true):=by
 obtain⟨n,rfl,h⟩:=all_range (n:=16) tabW_ok h0 (by omega)
 obtain⟨m,rfl,h⟩:=all_range (n:=16) h h2 (by omega)
 obtain⟨x,rfl,h⟩:=all_range (n:=2) h h4 (by omega)
 obtain⟨y,rfl,h⟩:=all_range (n:=2) h h6 (by omega)
 exact of_decide_eq_true h
def answerS (asked code:Int):Int:=ansB (ofS 2048 16 asked) (ofS 256 2 asked) (ofS 16 2 asked) (code % 16)
theorem flag_Answer_eq {asked code:Int} (h0:0≤code) (h1:code≤255):F_flag_Answer asked code=some (answerS asked code):=by
 have ho:=ofS_lt (d:=2048) (m:=16) (b:=asked) (by omega)
 have hr:=ofS_lt (d:=256) (m:=2) (b:=asked) (by omega)
 have hc:=ofS_lt (d:=16) (m:=2) (b:=asked) (by omega)
 have hk:Go.bits Go.BinOp.and Go.IntKind.i64 (if 0 > code then 0 else code) 15=code % 16:=by
  rw[if_neg (by omega)]
  obtain⟨n,rfl⟩:=Int.eq_ofNat_of_zero_le h0
  exact and_mask n 4 (by omega) (by omega)
 have hk0:0≤code % 16∧code % 16<16:=by omega
 unfold F_flag_Answer
 simp only[lay_5,bnd_some,lay_0,hk,lay8_eq hk0.1 hk0.2]
 have e1:step_flag_Answer_0 asked (32896+code % 16,0)=some (.inl (32896+code % 16+2048*ofS 2048 16 asked,1)):=by
  unfold step_flag_Answer_0
  simp only[show decide ((0:Int)<3)=true from rfl,if_true,natOf,show ((0:Int)≤0) from by omega,Int.toNat_zero,List.getElem?_cons_zero,bnd_some,of1_eq,lay1_eq hk0.1 hk0.2 ho.1 ho.2,grdEq_self]
  rfl
 have e2:step_flag_Answer_0 asked (32896+code % 16+2048*ofS 2048 16 asked,1)=some (.inl (32896+code % 16+2048*ofS 2048 16 asked+256*ofS 256 2 asked,2)):=by
  unfold step_flag_Answer_0
  simp only[show decide ((1:Int)<3)=true from rfl,if_true,natOf,show ((0:Int)≤1) from by omega,show Int.toNat 1=1 from rfl,List.getElem?_cons_succ,List.getElem?_cons_zero,bnd_some,of4_eq,lay4_eq hk0.1 hk0.2 ho.1 ho.2 hr.1 hr.2,grdEq_self]
  rfl
 have e3:step_flag_Answer_0 asked (32896+code % 16+2048*ofS 2048 16 asked+256*ofS 256 2 asked,2)=some (.inl (answerS asked code,3)):=by
  unfold step_flag_Answer_0 answerS
  simp only[show decide ((2:Int)<3)=true from rfl,if_true,natOf,show ((0:Int)≤2) from by omega,show Int.toNat 2=2 from rfl,List.getElem?_cons_succ,List.getElem?_cons_zero,bnd_some,of7_eq,lay7_eq hk0.1 hk0.2 ho.1 ho.2 hr.1 hr.2 hc.1 hc.2,grdEq_self]
  rfl
 have e4:step_flag_Answer_0 asked (answerS asked code,3)=some (.inr (answerS asked code)):=by
  unfold step_flag_Answer_0
  rfl
 rw[loopS_next e1,loopS_next e2,loopS_next e3,loopS_out e4]
 rfl
theorem answerS_TC (asked code:Int):F_flag_Field_With 3 (answerS asked code) 1=some (answerS asked code+512,true):=by
 have ho:=ofS_lt (d:=2048) (m:=16) (b:=asked) (by omega)
 have hr:=ofS_lt (d:=256) (m:=2) (b:=asked) (by omega)
 have hc:=ofS_lt (d:=16) (m:=2) (b:=asked) (by omega)
 exact withTC_eq (by omega) (by omega) ho.1 ho.2 hr.1 hr.2 hc.1 hc.2
theorem answerS_of (asked code:Int):(0≤answerS asked code∧answerS asked code+512≤65535)∧ofS 32768 2 (answerS asked code)=1∧ofS 512 2 (answerS asked code)=0∧ofS 1 16 (answerS asked code)=code % 16 ∧
 ofS 32768 2 (answerS asked code+512)=1∧ofS 512 2 (answerS asked code+512)=1∧ofS 1 16 (answerS asked code+512)=code % 16:=by
 have ho:=ofS_lt (d:=2048) (m:=16) (b:=asked) (by omega)
 have hr:=ofS_lt (d:=256) (m:=2) (b:=asked) (by omega)
 have hc:=ofS_lt (d:=16) (m:=2) (b:=asked) (by omega)
 have hb:0≤answerS asked code∧answerS asked code+512≤65535:=by unfold answerS ansB;omega
 rw[ofS_yes hb.1 (by omega),ofS_yes hb.1 (by omega),ofS_yes hb.1 (by omega),ofS_yes (by omega) hb.2,ofS_yes (by omega) hb.2,ofS_yes (by omega) hb.2]
 refine⟨hb,?_⟩
 unfold answerS ansB
 generalize ofS 2048 16 asked=o at *
 generalize ofS 256 2 asked=r at *
 generalize ofS 16 2 asked=c at *
 omega
end Go.Abs

namespace Go.Abs
open Go
abbrev Ep:=Bool×Int×Int×Int×Bool
def optE (e:Int) (d:Bool):RRt:=([0],41,4096,e*16777216+(if d=true then 32768 else 0),[])
def tabO:Bool:=(List.range 16).all fun (e:Nat)=>decide (F_edns_Opt_Record (true,4096,(e:Int),0,true)=some (optE e true,true))&&decide (F_edns_Opt_Record (true,4096,(e:Int),0,false)=some (optE e false,true))
theorem tabO_ok:tabO=true:=by kernel_rfl
theorem opt_Record_eq {e:Int} (h0:0≤e) (h1:e<16) (d:Bool):F_edns_Opt_Record (true,4096,e,0,d)=some (optE e d,true):=by
 obtain⟨n,rfl,h⟩:=all_range (n:=16) tabO_ok h0 (by omega)
 simp only[Bool.and_eq_true] at h
 cases d with
 | true=>exact of_decide_eq_true h.1
 | false=>exact of_decide_eq_true h.2
def limS (o:Ep):Int:=if o.1=false then 512 else if 4096<(if 512 > o.2.1 then 512 else o.2.1) then 4096 else if 512 > o.2.1 then 512 else o.2.1
theorem limit_eq (o:Ep):F_edns_Opt_Limit o=some (limS o):=by
 unfold F_edns_Opt_Limit limS
 cases o.1<;>rfl
theorem limS_b (o:Ep):512≤limS o∧limS o≤4096:=by
 unfold limS
 split
 · omega
 · split
   · omega
   · split<;>omega
end Go.Abs

namespace Go.Abs
open Go
abbrev Ak:=Int×Int×List UInt8×Int×Int×Bool×Int×Int×Int×Bool
def q0:Qt:=([],0,0)
def oA (a:Ak):Ep:=(a.2.2.2.2.2.1,a.2.2.2.2.2.2.1,a.2.2.2.2.2.2.2.1,a.2.2.2.2.2.2.2.2.1,a.2.2.2.2.2.2.2.2.2)
theorem own17_eq (a:Ak):F_law17_Own a=some a:=rfl
end Go.Abs

namespace Go.Abs
open Go
end Go.Abs

namespace Go.Abs
open Go
end Go.Abs

namespace Go.Abs
open Go
end Go.Abs

namespace Go.Abs
open Go
@[reducible] def tAk:Ty:=(.agg (.cons (.int .i64) (.cons (.int .i64) (.cons .str (.cons (.int .i64) (.cons (.int .i64) (.cons .bool (.cons (.int .i64) (.cons (.int .i64) (.cons (.int .i64) .bool))))))))))
theorem tailE_sz (r:RRt):(tailE r).length=10+r.2.2.2.2.length:=by simp[tailE,put2,put4];omega
end Go.Abs

namespace Go.Abs
open Go
end Go.Abs

namespace Go.Abs
open Go
end Go.Abs

namespace Go.Abs
open Go
end Go.Abs

namespace Go.Abs
open Go
end Go.Abs

namespace Go.Abs
open Go
end Go.Abs

namespace Go.Abs
open Go
theorem live19:F_law19_live=some true:=by kernel_rfl
end Go.Abs

namespace Go.Abs
open Go
abbrev Ck:=List UInt8×Int×Int×Int×List UInt8×List Pc×Int×Int×List UInt8×Int×Int×Bool×Int×Int×Int×Bool×Int
def mkC (t:Tt) (a:Ak) (now:Int):Ck:=(t.1,t.2.1,t.2.2.1,t.2.2.2.1,t.2.2.2.2.1,t.2.2.2.2.2,a.1,a.2.1,a.2.2.1,a.2.2.2.1,a.2.2.2.2.1,a.2.2.2.2.2.1,a.2.2.2.2.2.2.1,a.2.2.2.2.2.2.2.1,a.2.2.2.2.2.2.2.2.1,a.2.2.2.2.2.2.2.2.2,now)
theorem patch_in_eq (n m:Int):F_patch_in n m=some (inC n m):=by
 unfold F_patch_in inC
 by_cases h:0≤n<;>simp[h]
def askedS (t:Tt) (a:Ak):Bool:=(lowN a.2.2.1 != [])&&(lowN a.2.2.1==t.1)&&(a.2.2.2.1==t.2.1)&&(a.2.2.2.2.1==t.2.2.1)&&inC a.2.2.2.1 65535&&inC a.2.2.2.2.1 65535
theorem asked_eq {t:Tt} {a:Ak} {now:Int} (hn:(a.2.2.1.length:Int)≤maxI):F_patch_copier_asked (mkC t a now)=some (askedS t a):=by
 unfold F_patch_copier_asked askedS mkC
 simp only[name_Low_eq hn,bnd_some,grdEq_self,patch_in_eq]
 by_cases h1:lowN a.2.2.1=[]
 · simp[h1]
 · by_cases h2:lowN a.2.2.1=t.1
   · by_cases h3:a.2.2.2.1=t.2.1
     · by_cases h4:a.2.2.2.2.1=t.2.2.1
       · have g1:¬t.1=[]:=fun e=>h1 (by rw[h2,e])
         cases h5:inC t.2.1 65535<;>simp[h1,h2,h3,h4,h5,g1]
       · simp[h1,h2,h3,h4]
     · simp[h1,h2,h3]
   · simp[h1,h2]
def soaR (ps:List Pc):Bool ⊕ Unit:=scanF (fun i p=>if (!p.2.2 || decide (i+1=ps.length))=true then none else some (.inl false)) (.inr ()) 0 ps
def soaB (ps:List Pc):Bool:=match soaR ps with | .inr _=>true | .inl _=>false
def fitsS (t:Tt) (a:Ak) (now:Int):Bool:=soaB t.2.2.2.2.2&&checkT t&&liveT t now&&inC t.2.2.2.1 15&&inC a.1 65535&&askedS t a
theorem fits_eq {t:Tt} {a:Ak} {now:Int} (ht:okT t) (hn:(a.2.2.1.length:Int)≤maxI):F_patch_copier_fits (mkC t a now)=some (fitsS t a now):=by
 have hm:maxI=9223372036854775807:=rfl
 have hl:(t.2.2.2.2.2.length:Int)≤maxI:=ht.2.1
 unfold F_patch_copier_fits
 have e0:loopS (step_patch_copier_fits_0 (mkC t a now)) 0=some (soaR t.2.2.2.2.2):=by
  refine loop_scan (l:=t.2.2.2.2.2) _ _ (fun i x hx=>?_) ?_
  · have hi:=(List.getElem?_eq_some_iff.1 hx).1
    have hc:(mkC t a now).2.2.2.2.2.1=t.2.2.2.2.2:=rfl
    unfold step_patch_copier_fits_0
    simp only[grdEq_self,hc]
    rw[if_pos (by simp;omega),natOf_nat,hx,bnd_some,wrap_id (show -9223372036854775808≤(i:Int)+1 by omega) (by omega),wrap_id (show -9223372036854775808≤(t.2.2.2.2.2.length:Int)-1 by omega) (by omega)]
    cases h2:x.2.2 with
    | false=>simp
    | true =>
     by_cases h3:i+1=t.2.2.2.2.2.length
     · have:((i:Int) != (t.2.2.2.2.2.length:Int)-1)=false:=by simp;omega
       simp[h3,this]
       omega
     · have:((i:Int) != (t.2.2.2.2.2.length:Int)-1)=true:=by simp;omega
       simp[h3,this]
  · have hc:(mkC t a now).2.2.2.2.2.1=t.2.2.2.2.2:=rfl
    unfold step_patch_copier_fits_0
    simp only[grdEq_self,hc]
    rw[if_neg (by simp)]
 rw[e0,bnd_some]
 unfold fitsS soaB
 have e1:F_tmpl_Template_Check ((mkC t a now).1,(mkC t a now).2.1,(mkC t a now).2.2.1,(mkC t a now).2.2.2.1,(mkC t a now).2.2.2.2.1,(mkC t a now).2.2.2.2.2.1)=some (checkT t):=tmpl_Check_eq ht
 have e2:F_tmpl_Template_Live ((mkC t a now).1,(mkC t a now).2.1,(mkC t a now).2.2.1,(mkC t a now).2.2.2.1,(mkC t a now).2.2.2.2.1,(mkC t a now).2.2.2.2.2.1) now=some (liveT t now):=tmpl_Live_eq hl now
 have e3:=asked_eq (t:=t) (a:=a) (now:=now) hn
 have hs:soaR t.2.2.2.2.2=.inr ()∨soaR t.2.2.2.2.2=.inl false:=scan_val (ok:=fun (i:Nat) (p:Pc)=>!p.2.2 || decide (i+1=t.2.2.2.2.2.length)) t.2.2.2.2.2 0
 rcases hs with hs | hs
 · rw[hs]
   simp only[grdEq_self]
   have h17:(mkC t a now).2.2.2.2.2.2.2.2.2.2.2.2.2.2.2.2=now:=rfl
   rw[e1,bnd_some,h17,e2,bnd_some]
   have h4:(mkC t a now).2.2.2.1=t.2.2.2.1:=rfl
   have h7:(mkC t a now).2.2.2.2.2.2.1=a.1:=rfl
   rw[h4,h7,patch_in_eq,bnd_some,patch_in_eq,bnd_some]
   have e3':F_patch_copier_asked ((mkC t a now).1,(mkC t a now).2.1,(mkC t a now).2.2.1,t.2.2.2.1,(mkC t a now).2.2.2.2.1,(mkC t a now).2.2.2.2.2.1,a.1,(mkC t a now).2.2.2.2.2.2.2.1,(mkC t a now).2.2.2.2.2.2.2.2.1,(mkC t a now).2.2.2.2.2.2.2.2.2.1,(mkC t a now).2.2.2.2.2.2.2.2.2.2.1,(mkC t a now).2.2.2.2.2.2.2.2.2.2.2.1,(mkC t a now).2.2.2.2.2.2.2.2.2.2.2.2.1,(mkC t a now).2.2.2.2.2.2.2.2.2.2.2.2.2.1,(mkC t a now).2.2.2.2.2.2.2.2.2.2.2.2.2.2.1,(mkC t a now).2.2.2.2.2.2.2.2.2.2.2.2.2.2.2.1,now)=some (askedS t a):=e3
   rw[e3',bnd_some]
   cases checkT t<;>cases liveT t now<;>cases inC t.2.2.2.1 15<;>cases inC a.1 65535<;>rfl
 · rw[hs];rfl
def sumS (l:List Sp):Int:=(l.map fun s=>s.2.1-s.1).sum
theorem sumS_app (l:List Sp) (s:Sp):sumS (l++[s])=sumS l+(s.2.1-s.1):=by simp[sumS]
theorem sumS_b {n:Nat}:∀l:List Sp,(∀s∈l,spanC n s=true)→0≤sumS l∧sumS l≤n*l.length:=by
 intro l
 induction l with
 | nil=>intro _;simp[sumS]
 | cons s l ih =>
  intro hs
  obtain⟨i1,i2⟩:=ih (fun x hx=>hs x (by simp[hx]))
  have:=spanC_iff.1 (hs s (by simp))
  have e1:sumS (s::l)=(s.2.1-s.1)+sumS l:=by simp[sumS]
  have e:(n:Int)*(((s::l).length:Nat):Int)=(n:Int)*(l.length:Int)+n:=by rw[List.length_cons,Int.natCast_add,Int.mul_add];simp
  rw[e1]
  constructor
  · omega
  · rw[e];omega
def bytesP (p:Pc):Int:=sumS p.1
theorem mul_b {n k:Nat} (hn:n≤2000000) (hk:k≤1000):(n:Int)*(k:Int)≤2000000000:=by
 have:=Nat.mul_le_mul hn hk
 have e:(n:Int)*(k:Int)=((n*k:Nat):Int):=by simp
 omega
theorem bytesP_b {n:Nat} {p:Pc} (hn:n≤2000000) (hl:p.1.length≤1000) (h:pieceC n p=true):0≤bytesP p∧bytesP p≤2000000000:=by
 have:=sumS_b p.1 (pieceC_iff h).2
 have:=mul_b hn hl
 unfold bytesP
 omega
theorem bytes_eq {n:Nat} {p:Pc} (hn:n≤2000000) (hl:p.1.length≤1000) (h:pieceC n p=true):F_patch_bytes p=some (bytesP p):=by
 obtain⟨_,h2⟩:=pieceC_iff h
 unfold F_patch_bytes
 have hb:∀i,0≤sumS (p.1.take i)∧sumS (p.1.take i)≤2000000000:=by
  intro i
  have b1:=sumS_b (n:=n) (p.1.take i) (fun s hs=>h2 s (List.mem_of_mem_take hs))
  have b2:(p.1.take i).length≤1000:=by rw[List.length_take];omega
  have:=mul_b hn b2
  omega
 have key:=loop_run (step:=step_patch_bytes_0 p) (t:=sumS p.1) (s:=fun i=>(sumS (p.1.take i),(i:Int))) p.1.length (fun i hi=>by
  have hx:p.1[i]? = some p.1[i]:=List.getElem?_eq_getElem hi
  have hs:=spanC_iff.1 (h2 p.1[i] (List.getElem_mem hi))
  have b1:=hb i
  have b2:=hb (i+1)
  have e:sumS (p.1.take (i+1))=sumS (p.1.take i)+(p.1[i].2.1-p.1[i].1):=by rw[take_next hx,sumS_app]
  unfold step_patch_bytes_0
  simp only[grdEq_self]
  rw[if_pos (by simp;omega),natOf_nat,hx,bnd_some,wrap_id (x:=p.1[i].2.1-p.1[i].1) (by omega) (by omega),wrap_id (x:=sumS (p.1.take i)+(p.1[i].2.1-p.1[i].1)) (by omega) (by omega),wrap_id (x:=(i:Int)+1) (by omega) (by omega),e]
  rfl) (by
  unfold step_patch_bytes_0
  simp only[grdEq_self]
  rw[if_neg (by simp),List.take_of_length_le (Nat.le_refl _)])
 have e0:loopS (step_patch_bytes_0 p) (0,0)=some (sumS p.1):=key
 rw[e0,bnd_some]
 rfl
def roomL (lim:Int):Int→Nat→List Pc→Int×Int
 | n,i,[]=>((i:Int),n)
 | n,i,p::ps=>if lim<n+bytesP p then ((i:Int),n) else roomL lim (n+bytesP p) (i+1) ps
def room0 (a:Ak):Int:=if a.2.2.2.2.2.1=true then 12+(a.2.2.1.length:Int)+4+11 else 12+(a.2.2.1.length:Int)+4
def roomS (t:Tt) (a:Ak):Int×Int:=roomL (limS (oA a)) (room0 a) 0 t.2.2.2.2.2
def outR (t:Tt) (o:(Int×Int) ⊕ Int):Int×Int:=match o with
 | .inl x=>x
 | .inr n=>((t.2.2.2.2.2.length:Int),n)
theorem room_loop {t:Tt} {a:Ak} {now lim:Int} (hf:fewT t) (hc:checkT t=true) (hlim:lim≤4096):∀(v u:List Pc) (n:Int),t.2.2.2.2.2=u++v→0≤n→n≤100000 →
 ∃o,loopS (step_patch_copier_room_0 (mkC t a now) lim) (n,(u.length:Int))=some o∧outR t o=roomL lim n u.length v:=by
 obtain⟨f1,f2,f3⟩:=hf
 have hcc:∀p∈t.2.2.2.2.2,pieceC t.2.2.2.2.1.length p=true:=by unfold checkT at hc;exact List.all_eq_true.1 hc
 have h5:(mkC t a now).2.2.2.2.2.1=t.2.2.2.2.2:=rfl
 intro v
 induction v with
 | nil =>
  intro u n hu h0 h1
  rw[List.append_nil] at hu
  refine⟨.inr n,loopS_out ?_,?_⟩
  · unfold step_patch_copier_room_0
    simp only[grdEq_self,h5]
    rw[hu,if_neg (by simp)]
  · unfold roomL outR
    rw[hu]
 | cons x v ih =>
  intro u n hu h0 h1
  have hx:t.2.2.2.2.2[u.length]? = some x:=by rw[hu];simp
  have hi:=(List.getElem?_eq_some_iff.1 hx).1
  have hm:x∈t.2.2.2.2.2:=List.mem_of_getElem? hx
  have hb:=bytesP_b f1 (f3 x hm).1 (hcc x hm)
  have he:F_patch_bytes (x.1,x.2.1,x.2.2)=some (bytesP x):=bytes_eq f1 (f3 x hm).1 (hcc x hm)
  by_cases hl:lim<n+bytesP x
  · refine⟨.inl ((u.length:Int),n),loopS_out ?_,?_⟩
    · unfold step_patch_copier_room_0
      simp only[grdEq_self,h5]
      rw[if_pos (by simp;omega),natOf_nat,hx,bnd_some,he,bnd_some,wrap_id (x:=n+bytesP x) (by omega) (by omega),if_pos (by simp;omega)]
    · unfold roomL outR
      rw[if_pos hl]
  · obtain⟨o,e1,e2⟩:=ih (u++[x]) (n+bytesP x) (by rw[hu];simp) (by omega) (by omega)
    refine⟨o,?_,?_⟩
    · rw[List.length_append,List.length_singleton] at e1
      refine (loopS_next ?_).trans e1
      unfold step_patch_copier_room_0
      simp only[grdEq_self,h5]
      rw[if_pos (by simp;omega),natOf_nat,hx,bnd_some,he,bnd_some,wrap_id (x:=n+bytesP x) (by omega) (by omega),if_neg (by simp;omega),wrap_id (x:=(u.length:Int)+1) (by omega) (by omega)]
      rfl
    · rw[e2]
      conv=>rhs;unfold roomL
      rw[if_neg hl,List.length_append,List.length_singleton]
theorem room_eq {t:Tt} {a:Ak} {now:Int} (hf:fewT t) (hc:checkT t=true) (hn:a.2.2.1.length≤60000):F_patch_copier_room (mkC t a now)=some (roomS t a):=by
 unfold F_patch_copier_room
 have hlim:=limS_b (oA a)
 have e1:(if (mkC t a now).2.2.2.2.2.2.2.2.2.2.2.1=true then some (Go.IntKind.i64.wrap (Go.IntKind.i64.wrap (Go.IntKind.i64.wrap (12+(((mkC t a now).2.2.2.2.2.2.2.2.1.length:Nat):Int))+4)+11)) else some (Go.IntKind.i64.wrap (Go.IntKind.i64.wrap (12+(((mkC t a now).2.2.2.2.2.2.2.2.1.length:Nat):Int))+4)))=some (room0 a):=by
  have h8:(mkC t a now).2.2.2.2.2.2.2.2.1=a.2.2.1:=rfl
  have h11:(mkC t a now).2.2.2.2.2.2.2.2.2.2.2.1=a.2.2.2.2.2.1:=rfl
  rw[h8,h11,wrap_id (x:=12+(a.2.2.1.length:Int)) (by omega) (by omega),wrap_id (x:=12+(a.2.2.1.length:Int)+4) (by omega) (by omega),wrap_id (x:=12+(a.2.2.1.length:Int)+4+11) (by omega) (by omega)]
  unfold room0
  split<;>rfl
 have e2:F_edns_Opt_Limit ((mkC t a now).2.2.2.2.2.2.2.2.2.2.2.1,(mkC t a now).2.2.2.2.2.2.2.2.2.2.2.2.1,(mkC t a now).2.2.2.2.2.2.2.2.2.2.2.2.2.1,(mkC t a now).2.2.2.2.2.2.2.2.2.2.2.2.2.2.1,(mkC t a now).2.2.2.2.2.2.2.2.2.2.2.2.2.2.2.1)=some (limS (oA a)):=limit_eq (oA a)
 have h0:0≤room0 a∧room0 a≤100000:=by unfold room0;split<;>omega
 obtain⟨o,l1,l2⟩:=room_loop (a:=a) (now:=now) (lim:=limS (oA a)) hf hc hlim.2 t.2.2.2.2.2 [] (room0 a) rfl h0.1 h0.2
 simp only[grdEq_self]
 rw[e1,bnd_some,e2,bnd_some]
 have l1':loopS (step_patch_copier_room_0 (mkC t a now) (limS (oA a))) (room0 a,0)=some o:=l1
 rw[l1',bnd_some]
 have:roomS t a=outR t o:=l2.symm
 rw[this]
 cases o<;>rfl
end Go.Abs

namespace Go.Abs
open Go
def smT (t:Tt):Prop:=fewT t∧t.2.2.2.2.2.length≤20∧∀p∈t.2.2.2.2.2,p.1.length≤60
def cntA (l:List Pc):Nat:=(l.map fun p=>if p.2.2=true then 0 else p.1.length).sum
def cntN (l:List Pc):Nat:=(l.map fun p=>if p.2.2=true then p.1.length else 0).sum
theorem cntA_app (l:List Pc) (p:Pc):cntA (l++[p])=cntA l+if p.2.2=true then 0 else p.1.length:=by simp[cntA]
theorem cntN_app (l:List Pc) (p:Pc):cntN (l++[p])=cntN l+if p.2.2=true then p.1.length else 0:=by simp[cntN]
theorem cnt_b:∀l:List Pc,(∀p∈l,p.1.length≤60)→cntA l≤60*l.length∧cntN l≤60*l.length:=by
 intro l
 induction l with
 | nil=>intro _;simp[cntA,cntN]
 | cons p l ih =>
  intro h
  obtain⟨i1,i2⟩:=ih (fun x hx=>h x (by simp[hx]))
  have:=h p (by simp)
  have e1:cntA (p::l)=(if p.2.2=true then 0 else p.1.length)+cntA l:=by simp[cntA]
  have e2:cntN (p::l)=(if p.2.2=true then p.1.length else 0)+cntN l:=by simp[cntN]
  rw[e1,e2,List.length_cons]
  split<;>omega
theorem counts_eq {l:List Pc} (hl:l.length≤1000) (hp:∀p∈l,p.1.length≤60):F_patch_counts l=some ((cntA l:Int),(cntN l:Int)):=by
 unfold F_patch_counts
 have hb:∀i,cntA (l.take i)≤60000∧cntN (l.take i)≤60000:=by
  intro i
  have:=cnt_b (l.take i) (fun p h=>hp p (List.mem_of_mem_take h))
  have:(l.take i).length≤1000:=by rw[List.length_take];omega
  omega
 have key:=loop_run (step:=step_patch_counts_0 l) (t:=((cntA l:Int),(cntN l:Int))) (s:=fun i=>((cntA (l.take i):Int),(cntN (l.take i):Int),(i:Int))) l.length (fun i hi=>by
  have hx:l[i]? = some l[i]:=List.getElem?_eq_getElem hi
  have b1:=hb i
  have hq:=hp l[i] (List.getElem_mem hi)
  have e1:cntA (l.take (i+1))=cntA (l.take i)+if l[i].2.2=true then 0 else l[i].1.length:=by rw[take_next hx,cntA_app]
  have e2:cntN (l.take (i+1))=cntN (l.take i)+if l[i].2.2=true then l[i].1.length else 0:=by rw[take_next hx,cntN_app]
  unfold step_patch_counts_0
  simp only[grdEq_self]
  rw[if_pos (by simp;omega),natOf_nat,hx,bnd_some,e1,e2,wrap_id (x:=(i:Int)+1) (by omega) (by omega),wrap_id (x:=(cntA (l.take i):Int)+(l[i].1.length:Int)) (by omega) (by omega),wrap_id (x:=(cntN (l.take i):Int)+(l[i].1.length:Int)) (by omega) (by omega)]
  cases l[i].2.2<;>rfl) (by
  unfold step_patch_counts_0
  simp only[grdEq_self]
  rw[if_neg (by simp),List.take_of_length_le (Nat.le_refl _)])
 have e0:loopS (step_patch_counts_0 l) (0,(0,0))=some ((cntA l:Int),(cntN l:Int)):=key
 rw[e0,bnd_some]
def optC (a:Ak):List UInt8×Int:=if a.2.2.2.2.2.1=true then ([0]++tailE (optE 0 a.2.2.2.2.2.2.2.2.2),1) else ([],0)
theorem two_eq {n:Int} (h0:0≤n) (h1:n<65536):F_patch_two n=some (put2 n):=by
 unfold F_patch_two
 rw[octet_put2 h0 h1,bnd_some]
theorem opt_eq (t:Tt) (a:Ak) (now:Int):F_patch_copier_opt (mkC t a now)=some (optC a):=by
 unfold F_patch_copier_opt optC
 have h11:(mkC t a now).2.2.2.2.2.2.2.2.2.2.2.1=a.2.2.2.2.2.1:=rfl
 have h15:(mkC t a now).2.2.2.2.2.2.2.2.2.2.2.2.2.2.2.1=a.2.2.2.2.2.2.2.2.2:=rfl
 simp only[grdEq_self]
 rw[h11]
 cases h:a.2.2.2.2.2.1 with
 | false=>rfl
 | true =>
  rw[if_neg (by simp),if_pos rfl,h15]
  generalize a.2.2.2.2.2.2.2.2.2=d
  have hm:maxStr=4611686018427387904∨True:=.inr trivial
  rw[opt_Record_eq (by omega) (by omega),bnd_some]
  have w1:F_patch_two (optE 0 d).2.1=some (put2 41):=two_eq (n:=41) (by decide) (by decide)
  have w2:F_patch_two (optE 0 d).2.2.1=some (put2 4096):=two_eq (n:=4096) (by decide) (by decide)
  have w3:F_octet_Put (optE 0 d).2.2.2.1 4=some (put4 (optE 0 d).2.2.2.1):=octet_put4 (by cases d<;>decide) (by cases d<;>decide)
  have w4:F_patch_two 0=some (put2 0):=two_eq (by decide) (by decide)
  show bnd (F_patch_two (optE 0 d).2.1) _=_
  rw[w1,bnd_some]
  refine Eq.trans (grdp (by simp[optE,put2,maxStr])) ?_
  show bnd (F_patch_two (optE 0 d).2.2.1) _=_
  rw[w2,bnd_some]
  refine Eq.trans (grdp (by simp[optE,put2,maxStr])) ?_
  show bnd (F_octet_Put (optE 0 d).2.2.2.1 4) _=_
  rw[w3,bnd_some]
  refine Eq.trans (grdp (by simp[optE,put2,put4,maxStr])) ?_
  show bnd (F_patch_two 0) _=_
  rw[w4,bnd_some]
  refine Eq.trans (grdp (by simp[optE,put2,put4,maxStr])) ?_
  cases d<;>rfl
theorem room_k {lim:Int}:∀(ps:List Pc) (n:Int) (i:Nat),∃k,k≤ps.length∧(roomL lim n i ps).1=((i+k:Nat):Int):=by
 intro ps
 induction ps with
 | nil=>intro n i;exact⟨0,by simp,rfl⟩
 | cons p ps ih =>
  intro n i
  unfold roomL
  split
  · exact⟨0,by simp,rfl⟩
  · obtain⟨k,h1,h2⟩:=ih (n+bytesP p) (i+1)
    exact⟨k+1,by simp;omega,by rw[h2];omega⟩
theorem room_many (t:Tt) (a:Ak):∃k,k≤t.2.2.2.2.2.length∧(roomS t a).1=(k:Int):=by
 obtain⟨k,h1,h2⟩:=room_k (lim:=limS (oA a)) t.2.2.2.2.2 (room0 a) 0
 exact⟨k,h1,by unfold roomS;rw[h2];omega⟩
def manyC (t:Tt) (a:Ak):Nat:=(roomS t a).1.toNat
theorem manyC_eq (t:Tt) (a:Ak):(roomS t a).1=(manyC t a:Int)∧manyC t a≤t.2.2.2.2.2.length:=by
 obtain⟨k,h1,h2⟩:=room_many t a
 unfold manyC
 rw[h2]
 exact⟨by omega,by omega⟩
def bitsC (t:Tt) (a:Ak):Int:=if manyC t a<t.2.2.2.2.2.length then answerS a.2.1 t.2.2.2.1+512 else answerS a.2.1 t.2.2.2.1
def headL (t:Tt) (a:Ak):List Int:=[a.1,bitsC t a,1,(cntA (t.2.2.2.2.2.take (manyC t a)):Int),(cntN (t.2.2.2.2.2.take (manyC t a)):Int),(optC a).2]
def partsS (t:Tt) (m:Nat) (now turn:Int):List UInt8:=(List.range m).flatMap fun (i:Nat)=>partS t (i:Int) now turn
def askC (a:Ak):List UInt8:=a.2.2.1++put2 a.2.2.2.1++put2 a.2.2.2.2.1
def copyS (t:Tt) (a:Ak) (now turn:Int):List UInt8:=(headL t a).flatMap put2++askC a++partsS t (manyC t a) now turn++(optC a).1
theorem part_b {t:Tt} (hf:fewT t) (hc:checkT t=true) (i now turn:Int):(partS t i now turn).length≤2000000000:=by
 obtain⟨f1,f2,f3⟩:=hf
 have hcc:∀p∈t.2.2.2.2.2,pieceC t.2.2.2.2.1.length p=true:=by unfold checkT at hc;exact List.all_eq_true.1 hc
 unfold partS
 split
 · simp
 · split
   · simp
   · rename_i p hp
     have hm:=List.mem_of_getElem? hp
     split
     · unfold partT
       have:=flat_len (g:=spanB t.2.2.2.2.1 (put4 (leftS now p.2.1))) (b:=2000000) (rot p.1 (if p.2.2=true then 0 else turn.toNat % p.1.length)) (fun s hs=>by
        have hs':=(pieceC_iff (hcc p hm)).2 s (rot_mem hs)
        rw[spanB_len (put4_len _) hs']
        have:=spanC_iff.1 hs'
        omega)
       rw[rot_len] at this
       have h3:=Nat.mul_le_mul_left 2000000 (f3 p hm).1
       omega
     · simp
theorem parts_next (t:Tt) (m:Nat) (now turn:Int):partsS t (m+1) now turn=partsS t m now turn++partS t (m:Int) now turn:=by
 unfold partsS
 rw[List.range_succ,List.flatMap_append]
 simp
theorem parts_b {t:Tt} (hf:fewT t) (hc:checkT t=true) (now turn:Int):∀m,(partsS t m now turn).length≤2000000000*m:=by
 intro m
 induction m with
 | zero=>simp[partsS]
 | succ m ih =>
  rw[parts_next,List.length_append]
  have:=part_b hf hc (m:Int) now turn
  omega
theorem optC_b (a:Ak):(optC a).1.length≤11∧0≤(optC a).2∧(optC a).2≤1:=by
 unfold optC
 split
 · refine⟨?_,by simp,by simp⟩
   show ([0]++tailE (optE 0 a.2.2.2.2.2.2.2.2.2)).length≤11
   rw[List.length_append,tailE_sz]
   simp[optE]
 · simp
theorem put2_len (n:Int):(put2 n).length=2:=rfl
theorem put2s_len (l:List Int):(l.flatMap put2).length=2*l.length:=by
 induction l with
 | nil=>rfl
 | cons x l ih=>rw[List.flatMap_cons,List.length_append,ih,List.length_cons,put2_len];omega
theorem fits_parts {t:Tt} {a:Ak} {now:Int} (h:fitsS t a now=true):checkT t=true∧liveT t now=true∧(0≤t.2.2.2.1∧t.2.2.2.1≤15)∧(0≤a.1∧a.1≤65535)∧lowN a.2.2.1≠[]∧lowN a.2.2.1=t.1∧a.2.2.2.1=t.2.1∧a.2.2.2.2.1=t.2.2.1∧(0≤a.2.2.2.1∧a.2.2.2.1≤65535)∧(0≤a.2.2.2.2.1∧a.2.2.2.2.1≤65535)∧soaB t.2.2.2.2.2=true:=by
 unfold fitsS askedS inC at h
 simp only[Bool.and_eq_true,decide_eq_true_eq,bne_iff_ne,beq_iff_eq,ne_eq] at h
 obtain⟨⟨⟨⟨⟨h1,h2⟩,h3⟩,h4⟩,h5⟩,⟨⟨⟨⟨⟨h6,h7⟩,h8⟩,h9⟩,h10⟩,h11⟩⟩:=h
 exact⟨h2,h3,h4,h5,h6,h7,h8,h9,h10,h11,h1⟩
theorem bitsC_b {t:Tt} {a:Ak} (h:0≤t.2.2.2.1∧t.2.2.2.1≤15):0≤bitsC t a∧bitsC t a≤65535:=by
 have:=(answerS_of a.2.1 t.2.2.2.1).1
 unfold bitsC
 split<;>omega
theorem headL_b {t:Tt} {a:Ak} {now:Int} (hs:smT t) (h:fitsS t a now=true):∀x∈headL t a,0≤x∧x<65536:=by
 obtain⟨_,_,h3,h4,_⟩:=fits_parts h
 have hb:=bitsC_b (t:=t) (a:=a) h3
 have hc:=cnt_b (t.2.2.2.2.2.take (manyC t a)) (fun p hp=>hs.2.2 p (List.mem_of_mem_take hp))
 have hl:(t.2.2.2.2.2.take (manyC t a)).length≤20:=by rw[List.length_take];have:=hs.2.1;omega
 have ho:=optC_b a
 intro x hx
 unfold headL at hx
 simp only[List.mem_cons,List.not_mem_nil,or_false] at hx
 rcases hx with rfl | rfl | rfl | rfl | rfl | rfl<;>omega
theorem copy_eq {t:Tt} {a:Ak} {now turn:Int} (hs:smT t) (hn:a.2.2.1.length≤60000) (h:fitsS t a now=true):F_patch_copier_copy (mkC t a now) turn=some (copyS t a now turn):=by
 obtain⟨hc,_,h3,h4,_,_,_,_,h5,h6,_⟩:=fits_parts h
 have hf:=hs.1
 obtain⟨m1,m2⟩:=manyC_eq t a
 have hL:=headL_b hs h
 have ml:manyC t a≤20:=Nat.le_trans m2 hs.2.1
 have ho:=optC_b a
 unfold F_patch_copier_copy
 have h0:(mkC t a now).2.2.2.2.2.2.1=a.1:=rfl
 have hp5:(mkC t a now).2.2.2.2.2.1=t.2.2.2.2.2:=rfl
 have h7:(mkC t a now).2.2.2.2.2.2.2.1=a.2.1:=rfl
 have hcd:(mkC t a now).2.2.2.1=t.2.2.2.1:=rfl
 have h8:(mkC t a now).2.2.2.2.2.2.2.2.1=a.2.2.1:=rfl
 have h9:(mkC t a now).2.2.2.2.2.2.2.2.2.1=a.2.2.2.1:=rfl
 have h10:(mkC t a now).2.2.2.2.2.2.2.2.2.2.1=a.2.2.2.2.1:=rfl
 have e1:F_patch_copier_room ((mkC t a now).1,(mkC t a now).2.1,(mkC t a now).2.2.1,(mkC t a now).2.2.2.1,(mkC t a now).2.2.2.2.1,(mkC t a now).2.2.2.2.2.1,(mkC t a now).2.2.2.2.2.2.1,(mkC t a now).2.2.2.2.2.2.2.1,(mkC t a now).2.2.2.2.2.2.2.2.1,(mkC t a now).2.2.2.2.2.2.2.2.2.1,(mkC t a now).2.2.2.2.2.2.2.2.2.2.1,(mkC t a now).2.2.2.2.2.2.2.2.2.2.2.1,(mkC t a now).2.2.2.2.2.2.2.2.2.2.2.2.1,(mkC t a now).2.2.2.2.2.2.2.2.2.2.2.2.2.1,(mkC t a now).2.2.2.2.2.2.2.2.2.2.2.2.2.2.1,(mkC t a now).2.2.2.2.2.2.2.2.2.2.2.2.2.2.2.1,(mkC t a now).2.2.2.2.2.2.2.2.2.2.2.2.2.2.2.2)=some (roomS t a):=room_eq hf hc hn
 have e2:F_patch_copier_opt ((mkC t a now).1,(mkC t a now).2.1,(mkC t a now).2.2.1,(mkC t a now).2.2.2.1,(mkC t a now).2.2.2.2.1,(mkC t a now).2.2.2.2.2.1,(mkC t a now).2.2.2.2.2.2.1,(mkC t a now).2.2.2.2.2.2.2.1,(mkC t a now).2.2.2.2.2.2.2.2.1,(mkC t a now).2.2.2.2.2.2.2.2.2.1,(mkC t a now).2.2.2.2.2.2.2.2.2.2.1,(mkC t a now).2.2.2.2.2.2.2.2.2.2.2.1,(mkC t a now).2.2.2.2.2.2.2.2.2.2.2.2.1,(mkC t a now).2.2.2.2.2.2.2.2.2.2.2.2.2.1,(mkC t a now).2.2.2.2.2.2.2.2.2.2.2.2.2.2.1,(mkC t a now).2.2.2.2.2.2.2.2.2.2.2.2.2.2.2.1,(mkC t a now).2.2.2.2.2.2.2.2.2.2.2.2.2.2.2.2)=some (optC a):=opt_eq t a now
 have er:roomS t a=((manyC t a:Int),(roomS t a).2):=by rw[←m1]
 have e3:(if decide ((manyC t a:Int)<((List.length t.2.2.2.2.2:Nat):Int))=true then bnd (F_flag_Field_With 3 (answerS a.2.1 t.2.2.2.1) 1) fun x=>match x with | (v6,v7)=>some v6 else some (answerS a.2.1 t.2.2.2.1))=some (bitsC t a):=by
  unfold bitsC
  rw[answerS_TC,bnd_some]
  by_cases hq:manyC t a<t.2.2.2.2.2.length
  · rw[if_pos (by simp;omega),if_pos hq]
  · rw[if_neg (by simp;omega),if_neg hq]
 have hcn:F_patch_counts (t.2.2.2.2.2.take (manyC t a))=some ((cntA (t.2.2.2.2.2.take (manyC t a)):Int),(cntN (t.2.2.2.2.2.take (manyC t a)):Int)):=counts_eq (by rw[List.length_take];omega) (fun p hp=>hs.2.2 p (List.mem_of_mem_take hp))
 simp only[grdEq_self]
 rw[e1,er]
 simp only[bnd_some,h7,hcd,hp5]
 rw[flag_Answer_eq h3.1 (by omega),bnd_some]
 refine Eq.trans (congrArg (fun o=>bnd o _) e3) ?_
 rw[bnd_some,natOf_nat,grdp m2,hcn]
 simp only[bnd_some]
 simp only[h7,hcd,hp5] at e2
 rw[e2]
 simp only[bnd_some]
 have l0:loopS (step_patch_copier_copy_0 (mkC t a now) turn (manyC t a:Int) (bitsC t a) (cntA (t.2.2.2.2.2.take (manyC t a)):Int) (cntN (t.2.2.2.2.2.take (manyC t a)):Int) (optC a).1 (optC a).2) (0,[])=some (ints ((headL t a).flatMap put2)):=by
  have key:=loop_run (step:=step_patch_copier_copy_0 (mkC t a now) turn (manyC t a:Int) (bitsC t a) (cntA (t.2.2.2.2.2.take (manyC t a)):Int) (cntN (t.2.2.2.2.2.take (manyC t a)):Int) (optC a).1 (optC a).2) (t:=ints ((headL t a).flatMap put2)) (s:=fun i=>((i:Int),ints (((headL t a).take i).flatMap put2))) 6 (fun i hi=>by
   have hx:(headL t a)[i]? = some (headL t a)[i]:=List.getElem?_eq_getElem hi
   have hx':[(mkC t a now).2.2.2.2.2.2.1,bitsC t a,1,(cntA (t.2.2.2.2.2.take (manyC t a)):Int),(cntN (t.2.2.2.2.2.take (manyC t a)):Int),(optC a).2][i]? = some (headL t a)[i]:=hx
   have hb:=hL _ (List.getElem_mem hi)
   have e:((headL t a).take (i+1)).flatMap put2=((headL t a).take i).flatMap put2++put2 (headL t a)[i]:=by rw[take_next hx,List.flatMap_append];simp
   have hl:=put2s_len ((headL t a).take i)
   have hl2:((headL t a).take i).length≤6:=by rw[List.length_take];exact Nat.min_le_right _ _
   unfold step_patch_copier_copy_0
   simp only[grdEq_self]
   rw[if_pos (by simp;omega),natOf_nat,hx',bnd_some,two_eq hb.1 hb.2,bnd_some,e]
   simp only[ints_map]
   refine Eq.trans (grdp (by rw[ints_length,ints_length,put2_len];unfold roomLim;omega)) ?_
   rw[wrap_id (x:=(i:Int)+1) (by omega) (by omega),ints_app]
   rfl) (by
   unfold step_patch_copier_copy_0
   simp only[grdEq_self]
   rw[if_neg (by simp)]
   rfl)
  exact key
 rw[l0,bnd_some,h8,h9,h10,two_eq h5.1 (by omega),bnd_some]
 have hq:(put2 a.2.2.2.1).length=2∧(put2 a.2.2.2.2.1).length=2:=⟨rfl,rfl⟩
 refine Eq.trans (grdp (by rw[put2_len];unfold maxStr;omega)) ?_
 rw[two_eq h6.1 (by omega),bnd_some]
 refine Eq.trans (grdp (by rw[List.length_append,put2_len,put2_len];unfold maxStr;omega)) ?_
 simp only[ints_map]
 have hH:((headL t a).flatMap put2).length=12:=by rw[put2s_len];rfl
 refine Eq.trans (grdp (by simp only[ints_length,List.length_append,put2_len,hH];unfold roomLim;omega)) ?_
 rw[←ints_app]
 have l1:loopS (step_patch_copier_copy_1 (mkC t a now) turn (manyC t a:Int) (optC a).1) (0,ints ((headL t a).flatMap put2++(a.2.2.1++put2 a.2.2.2.1++put2 a.2.2.2.2.1)))=some (ints ((headL t a).flatMap put2++askC a++partsS t (manyC t a) now turn)):=by
  have key:=loop_run (step:=step_patch_copier_copy_1 (mkC t a now) turn (manyC t a:Int) (optC a).1) (t:=ints ((headL t a).flatMap put2++askC a++partsS t (manyC t a) now turn)) (s:=fun i=>((i:Int),ints ((headL t a).flatMap put2++askC a++partsS t i now turn))) (manyC t a) (fun i hi=>by
   have e:=tmpl_Part_eq hf (i:Int) now turn
   have e':F_tmpl_Template_Part ((mkC t a now).1,(mkC t a now).2.1,(mkC t a now).2.2.1,(mkC t a now).2.2.2.1,(mkC t a now).2.2.2.2.1,(mkC t a now).2.2.2.2.2.1) (i:Int) (mkC t a now).2.2.2.2.2.2.2.2.2.2.2.2.2.2.2.2 turn=some (partS t (i:Int) now turn):=e
   have b1:=part_b hf hc (i:Int) now turn
   have b2:=parts_b hf hc now turn i
   have b3:(askC a).length≤60004:=by unfold askC;simp only[List.length_append,put2_len];omega
   unfold step_patch_copier_copy_1
   simp only[grdEq_self]
   rw[if_pos (by simp;omega),e',bnd_some,parts_next]
   simp only[ints_map]
   refine Eq.trans (grdp (by simp only[ints_length,List.length_append,hH];unfold roomLim;omega)) ?_
   rw[wrap_id (x:=(i:Int)+1) (by omega) (by omega),←ints_app]
   simp only[List.append_assoc]
   rfl) (by
   unfold step_patch_copier_copy_1
   simp only[grdEq_self]
   rw[if_neg (by simp)])
  have e0:partsS t 0 now turn=[]:=rfl
  simp only[e0,List.append_nil] at key
  exact key
 rw[l1,bnd_some]
 have b2:=parts_b hf hc now turn (manyC t a)
 have b3:(askC a).length≤60004:=by unfold askC;simp only[List.length_append,put2_len];omega
 refine Eq.trans (grdp (by simp only[ints_length,List.length_append,hH];unfold roomLim;omega)) ?_
 refine Eq.trans (grdp (by simp only[ints_length,List.length_append,List.length_map,hH];omega)) ?_
 refine Eq.trans (grdp (fun n hn=>ints_bound ((headL t a).flatMap put2++askC a++partsS t (manyC t a) now turn++(optC a).1) n (by rw[ints_app];exact hn))) ?_
 show some (List.map _ (ints ((headL t a).flatMap put2++askC a++partsS t (manyC t a) now turn)++ints (optC a).1))=_
 rw[←ints_app,ints_back]
 rfl
theorem patch_Copy_eq {t:Tt} {a:Ak} {now turn:Int} (hs:smT t) (hn:a.2.2.1.length≤60000):F_patch_Copy t a now turn=some (if turn<0∨fitsS t a now=false then ([],false) else (copyS t a now turn,true)):=by
 have hm:maxI=9223372036854775807:=rfl
 unfold F_patch_Copy
 by_cases ht:turn<0
 · rw[if_neg (by simp[ht]),if_pos (.inl ht)]
 · have e1:=fits_eq (t:=t) (a:=a) (now:=now) (okT_of hs.1) (by omega)
   have e1':F_patch_copier_fits (t.1,t.2.1,t.2.2.1,t.2.2.2.1,t.2.2.2.2.1,t.2.2.2.2.2,a.1,a.2.1,a.2.2.1,a.2.2.2.1,a.2.2.2.2.1,a.2.2.2.2.2.1,a.2.2.2.2.2.2.1,a.2.2.2.2.2.2.2.1,a.2.2.2.2.2.2.2.2.1,a.2.2.2.2.2.2.2.2.2,now)=some (fitsS t a now):=e1
   rw[if_pos (by simp;omega),e1',bnd_some]
   cases h:fitsS t a now with
   | false=>simp
   | true =>
    have e2:=copy_eq (turn:=turn) hs hn h
    have e2':F_patch_copier_copy (t.1,t.2.1,t.2.2.1,t.2.2.2.1,t.2.2.2.2.1,t.2.2.2.2.2,a.1,a.2.1,a.2.2.1,a.2.2.2.1,a.2.2.2.2.1,a.2.2.2.2.2.1,a.2.2.2.2.2.2.1,a.2.2.2.2.2.2.2.1,a.2.2.2.2.2.2.2.2.1,a.2.2.2.2.2.2.2.2.2,now) turn=some (copyS t a now turn):=e2
    rw[if_neg (by simp),e2',bnd_some,if_neg (by rintro (q | q);exact ht q;simp at q)]
end Go.Abs

namespace Go.Abs
open Go
theorem smT_of {t:Tt} (h:okTT t) (hs:smallT t=true):smT t:=smallT_few h hs
theorem law_PatchOther (t:Tt) (a:Ak) (at_:Int×Int) (hk:okTT t):F_law19_PatchOther t a at_=some true:=by
 unfold F_law19_PatchOther
 rw[live19]
 have e1:F_ref18_Small (t.1,t.2.1,t.2.2.1,t.2.2.2.1,t.2.2.2.2.1,t.2.2.2.2.2)=some (smallT t):=ref18_Small_eq hk
 simp only[e1,bnd_some,grdEq_self]
 cases hsm:smallT t with
 | false=>rfl
 | true =>
  have hs:=smT_of hk hsm
  by_cases h1:300<(a.2.2.1.length:Int)
  · simp only[Bool.not_true,if_true,decide_eq_true h1,Bool.true_eq_false,if_false,bnd_some]
  · have e2:F_law18_Own (t.1,t.2.1,t.2.2.1,t.2.2.2.1,t.2.2.2.2.1,t.2.2.2.2.2)=some t:=own_eq hs.2.1 hs.2.2
    have e3:F_law17_Own (a.1,a.2.1,a.2.2.1,a.2.2.2.1,a.2.2.2.2.1,a.2.2.2.2.2.1,a.2.2.2.2.2.2.1,a.2.2.2.2.2.2.2.1,a.2.2.2.2.2.2.2.2.1,a.2.2.2.2.2.2.2.2.2)=some a:=own17_eq a
    have e4:F_patch_Copy (t.1,t.2.1,t.2.2.1,t.2.2.2.1,t.2.2.2.2.1,t.2.2.2.2.2) (a.1,a.2.1,a.2.2.1,a.2.2.2.1,a.2.2.2.2.1,a.2.2.2.2.2.1,a.2.2.2.2.2.2.1,a.2.2.2.2.2.2.2.1,a.2.2.2.2.2.2.2.2.1,a.2.2.2.2.2.2.2.2.2) at_.1 at_.2=some (if at_.2<0∨fitsS t a at_.1=false then ([],false) else (copyS t a at_.1 at_.2,true)):=patch_Copy_eq (a:=a) hs (by omega)
    simp only[Bool.not_true,if_true,decide_eq_false h1,Bool.false_eq_true,if_false,bnd_some,e2,e3,e4,ref02_Low_eq (show (a.2.2.1.length:Int)≤maxI by unfold maxI;omega)]
    by_cases hq:at_.2<0∨fitsS t a at_.1=false
    · rw[if_pos hq]
      cases (lowN a.2.2.1==t.1)<;>cases (a.2.2.2.1==t.2.1)<;>cases (a.2.2.2.2.1==t.2.2.1)<;>rfl
    · have hfit:fitsS t a at_.1=true:=by
       cases h:fitsS t a at_.1 with
       | true=>rfl
       | false=>exact absurd (.inr h) hq
      obtain⟨_,_,_,_,_,g1,g2,g3,_⟩:=fits_parts hfit
      rw[if_neg hq,g1,g2,g3]
      simp only[beq_self_eq_true,if_true]
      rfl
end Go.Abs
