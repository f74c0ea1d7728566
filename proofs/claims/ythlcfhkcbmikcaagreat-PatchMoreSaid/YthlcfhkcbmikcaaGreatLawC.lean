/- Part of a proof. -/
import Derived.Test.YthlcfhkcbmikcaaGreatLawB
import Derived.Test.YthlcfhkcbmikcaaGreatSxB
import Derived.Test.YthlcfhkcbmikcaaGreatSnD
set_option linter.unusedSimpArgs false
set_option linter.unusedVariables false
set_option linter.unusedSectionVars false
namespace Go.Abs
open Go
theorem loop_run {σ τ:Type} {step:σ→Option (σ ⊕ τ)} {t:τ} {s:Nat→σ}:∀(m:Nat),(∀i,i<m→step (s i)=some (.inl (s (i+1))))→step (s m)=some (.inr t)→loopS step (s 0)=some t:=by
 intro m
 suffices h:∀k,k≤m→(∀i,i<m→step (s i)=some (.inl (s (i+1))))→step (s m)=some (.inr t)→loopS step (s (m-k))=some t by
  intro h1 h2
  have:=h m (Nat.le_refl _) h1 h2
  rwa [Nat.sub_self] at this
 intro k
 induction k with
 | zero=>intro _ _ h2;exact loopS_out h2
 | succ k ih =>
  intro hk h1 h2
  rw[loopS_next (h1 (m-(k+1)) (by omega)),show m-(k+1)+1=m-k by omega]
  exact ih (by omega) h1 h2
theorem take_next {β:Type} {l:List β} {i:Nat} {x:β} (h:l[i]? = some x):l.take (i+1)=l.take i++[x]:=by
 rw[List.take_add_one,h];rfl
def timeS (n:Int):Bool:=inC n 1099511627776
def aliveS (now u:Int):Bool:=timeS now&&decide (now<u)
theorem tmpl_in_eq (n m:Int):F_tmpl_in n m=some (inC n m):=by
 unfold F_tmpl_in inC
 by_cases h:0≤n<;>simp[h]
theorem age_within_eq (n m:Int):F_age_within_int n m=some (inC n m):=by
 unfold F_age_within_int inC
 by_cases h:0≤n<;>simp[h]
theorem age_Live_eq (now u:Int):F_age_Live now u=some (aliveS now u):=by
 unfold F_age_Live aliveS
 rw[age_within_eq,bnd_some]
 show (if timeS now=true then _ else _)=_
 cases timeS now<;>simp
abbrev Sp:=Int×Int×Int
abbrev Pc:=List Sp×Int×Bool
abbrev Tt:=List UInt8×Int×Int×Int×List UInt8×List Pc
def spanC (n:Nat) (s:Sp):Bool:=decide (0≤s.1)&&decide (s.1≤s.2.2)&&decide (s.2.1≤n)&&decide (s.2.2≤s.2.1)&&decide (4≤s.2.1-s.2.2)
theorem spanC_iff {n:Nat} {s:Sp}:spanC n s=true↔0≤s.1∧s.1≤s.2.2∧s.2.1≤n∧s.2.2+4≤s.2.1:=by
 unfold spanC
 simp only[Bool.and_eq_true,decide_eq_true_eq]
 omega
def pieceC (n:Nat) (p:Pc):Bool:=decide (p.1≠[])&&p.1.all (spanC n)
def checkT (t:Tt):Bool:=t.2.2.2.2.2.all (pieceC t.2.2.2.2.1.length)
def okT (t:Tt):Prop:=(t.2.2.2.2.1.length:Int)≤maxI∧(t.2.2.2.2.2.length:Int)≤maxI∧∀p∈t.2.2.2.2.2,(p.1.length:Int)≤maxI
theorem len0 (n:Nat):((n:Int)==0)=decide (n=0):=by
 rw[Bool.eq_iff_iff];simp
theorem spans_loop {t:Tt} {x:Pc} (h1:(t.2.2.2.2.1.length:Int)≤maxI) (h2:(x.1.length:Int)≤maxI) (z:Int):∃r,loopS (step_tmpl_Template_Check_1 t z x) 0=some r∧(if x.1.all (spanC t.2.2.2.2.1.length)=true then r=.inr () else ∃i:Nat,r=.inl false):=by
 have hm:maxI=9223372036854775807:=rfl
 refine all_loop (bad:=fun _=>false) x.1 ?_ (fun i s hs=>?_)
 · simp only[step_tmpl_Template_Check_1,grdEq_self]
   rw[if_neg (by simp)]
 · have hi:=(List.getElem?_eq_some_iff.1 hs).1
   simp only[step_tmpl_Template_Check_1,natOf_nat,hs,bnd_some,grdEq_self]
   rw[if_pos (by simp;omega),wrap_id (x:=(i:Int)+1) (by omega) (by omega)]
   by_cases c1:0≤s.1
   · by_cases c2:s.1≤s.2.2
     · by_cases c3:s.2.1≤t.2.2.2.2.1.length
       · by_cases c4:s.2.2≤s.2.1
         · rw[wrap_id (x:=s.2.1-s.2.2) (by omega) (by omega)]
           by_cases c5:4≤s.2.1-s.2.2<;>simp[spanC,c1,c2,c3,c4,c5]
         · simp[spanC,c1,c2,c3,c4]
       · simp[spanC,c1,c2,c3]
     · simp[spanC,c1,c2]
   · simp[spanC,c1]
theorem tmpl_Check_eq {t:Tt} (h:okT t):F_tmpl_Template_Check t=some (checkT t):=by
 have hm:maxI=9223372036854775807:=rfl
 obtain⟨h1,h2,h3⟩:=h
 unfold F_tmpl_Template_Check checkT
 obtain⟨r,r1,r2⟩:=all_loop (ok:=pieceC t.2.2.2.2.1.length) (bad:=fun _=>false) (step:=step_tmpl_Template_Check_0 t) t.2.2.2.2.2 (by
  simp only[step_tmpl_Template_Check_0,grdEq_self]
  rw[if_neg (by simp)]) (fun i x hx=>by
  have hi:=(List.getElem?_eq_some_iff.1 hx).1
  have hp:=h3 x (List.mem_of_getElem? hx)
  simp only[step_tmpl_Template_Check_0,natOf_nat,hx,bnd_some,grdEq_self]
  rw[if_pos (by simp;omega),wrap_id (x:=(i:Int)+1) (by omega) (by omega)]
  obtain⟨q,q1,q2⟩:=spans_loop (t:=t) (x:=x) h1 hp (i:Int)
  rw[len0]
  unfold pieceC
  by_cases c:x.1=[]
  · simp[c]
  · have c':¬x.1.length=0:=by simpa using c
    simp only[c,c',decide_false,Bool.false_eq_true,if_false,q1,bnd_some,ne_eq,not_false_eq_true,decide_true,Bool.true_and]
    by_cases hq:x.1.all (spanC t.2.2.2.2.1.length)=true
    · rw[if_pos hq] at q2
      subst q2
      simp only[hq,if_true];rfl
    · rw[if_neg hq] at q2
      obtain⟨_,rfl⟩:=q2
      rw[if_neg hq])
 rw[r1,bnd_some]
 by_cases h:t.2.2.2.2.2.all (pieceC t.2.2.2.2.1.length)=true
 · rw[if_pos h] at r2;subst r2;simp only[h]
 · rw[if_neg h] at r2;obtain⟨_,rfl⟩:=r2
   simp only[Bool.not_eq_true] at h
   simp only[h]
def liveT (t:Tt) (now:Int):Bool:=t.2.2.2.2.2.all (fun p=>aliveS now p.2.1)&&timeS now
theorem tmpl_Live_eq {t:Tt} (h:(t.2.2.2.2.2.length:Int)≤maxI) (now:Int):F_tmpl_Template_Live t now=some (liveT t now):=by
 have hm:maxI=9223372036854775807:=rfl
 unfold F_tmpl_Template_Live liveT
 obtain⟨r,r1,r2⟩:=all_loop (ok:=fun p:Pc=>aliveS now p.2.1) (bad:=fun _=>false) (step:=step_tmpl_Template_Live_0 t now) t.2.2.2.2.2 (by
  simp only[step_tmpl_Template_Live_0,grdEq_self]
  rw[if_neg (by simp)]) (fun i x hx=>by
  have hi:=(List.getElem?_eq_some_iff.1 hx).1
  simp only[step_tmpl_Template_Live_0,natOf_nat,hx,bnd_some,grdEq_self,age_Live_eq]
  rw[if_pos (by simp;omega),wrap_id (x:=(i:Int)+1) (by omega) (by omega)]
  cases aliveS now x.2.1<;>simp)
 rw[r1,bnd_some]
 by_cases h:t.2.2.2.2.2.all (fun p:Pc=>aliveS now p.2.1)=true
 · rw[if_pos h] at r2;subst r2
   simp only[h,tmpl_in_eq,bnd_some,Bool.true_and];rfl
 · rw[if_neg h] at r2;obtain⟨_,rfl⟩:=r2
   simp only[Bool.not_eq_true] at h
   simp only[h,Bool.false_and]
end Go.Abs

namespace Go.Abs
open Go
def seg (s:List UInt8) (a b:Nat):List UInt8:=List.drop a (List.take b s)
def fewT (t:Tt):Prop:=t.2.2.2.2.1.length≤2000000∧t.2.2.2.2.2.length≤1000∧(∀p∈t.2.2.2.2.2,p.1.length≤1000∧p.2.1≤maxI)
theorem okT_of {t:Tt} (h:fewT t):okT t:=by
 have hm:maxI=9223372036854775807:=rfl
 obtain⟨h1,h2,h3⟩:=h
 exact⟨by omega,by omega,fun p hp=>by have:=(h3 p hp).1;omega⟩
theorem pieceC_iff {n:Nat} {p:Pc} (h:pieceC n p=true):0<p.1.length∧∀s∈p.1,spanC n s=true:=by
 unfold pieceC at h
 simp only[Bool.and_eq_true,decide_eq_true_eq,List.all_eq_true] at h
 exact⟨List.length_pos_iff.2 h.1,h.2⟩
end Go.Abs

namespace Go.Abs
open Go
def scanF {β τ:Type} (f:Nat→β→Option τ) (e:τ):Nat→List β→τ
 | _,[]=>e
 | i,x::l=>match f i x with
  | some t=>t
  | none=>scanF f e (i+1) l
theorem loop_scan {β τ:Type} {l:List β} {step:Int→Option (Int ⊕ τ)} (f:Nat→β→Option τ) (e:τ)
 (hs:∀(i:Nat) x,l[i]? = some x→step (i:Int)=some (match f i x with | some t=>.inr t | none=>.inl ((i+1:Nat):Int))) (he:step (l.length:Int)=some (.inr e)):loopS step 0=some (scanF f e 0 l):=by
 suffices h:∀(v u:List β),l=u++v→loopS step (u.length:Int)=some (scanF f e u.length v) from h l [] rfl
 intro v
 induction v with
 | nil =>
  intro u hu
  rw[List.append_nil] at hu
  subst hu
  exact loopS_out he
 | cons x v ih =>
  intro u hu
  have hx:=hs u.length x (by rw[hu];simp)
  unfold scanF
  cases hf:f u.length x with
  | some t=>rw[hf] at hx;exact loopS_out hx
  | none =>
   rw[hf] at hx
   rw[loopS_next hx]
   have:=ih (u++[x]) (by rw[hu];simp)
   simpa using this
def lowN (n:List UInt8):List UInt8:=if nameS n then lowS n else []
theorem name_Low_eq {n:List UInt8} (h:(n.length:Int)≤maxI):F_name_Low n=some (lowN n):=by
 unfold F_name_Low lowN
 rw[name_Check_eq h,bnd_some,name_low_eq h]
 cases nameS n<;>rfl
theorem map_set {α:Type} {l:List α} {f:α→α} {i:Nat} {x:α} (h:l[i]? = some x):((l.take i).map f++l.drop i).set i (f x)=(l.take (i+1)).map f++l.drop (i+1):=by
 have hi:=(List.getElem?_eq_some_iff.1 h).1
 have e:l.drop i=x::l.drop (i+1):=by
  rw[List.drop_eq_getElem_cons hi]
  congr 1
  have:=List.getElem?_eq_getElem hi
  rw[h] at this
  exact (Option.some.inj this).symm
 rw[e,take_next h,List.set_append_right _ _ (by rw[List.length_map,List.length_take];omega),List.map_append]
 simp[Nat.min_eq_left (Nat.le_of_lt hi)]
end Go.Abs

namespace Go.Abs
open Go
end Go.Abs

namespace Go.Abs
open Go
theorem scan_val {β:Type} {ok:Nat→β→Bool}:∀(l:List β) (i:Nat),scanF (fun i x=>if ok i x then none else some (Sum.inl (β:=Unit) false)) (.inr ()) i l=.inr ()∨scanF (fun i x=>if ok i x then none else some (Sum.inl (β:=Unit) false)) (.inr ()) i l=.inl false
 | [],i=>.inl rfl
 | x::l,i=>by
  unfold scanF
  by_cases h:ok i x=true
  · rw[if_pos h];exact scan_val l (i+1)
  · rw[if_neg h];exact .inr rfl
end Go.Abs

namespace Go.Abs
open Go
abbrev TP:=List UInt8×List Pc
end Go.Abs

namespace Go.Abs
open Go
end Go.Abs

namespace Go.Abs
open Go
def covW:Int→List Sp→Int→Prop
 | a,[],b=>a=b
 | a,s::l,b=>s.1=a∧0≤s.1∧s.1≤4000000∧s.1≤s.2.1∧s.1+5≤s.2.2∧covW s.2.1 l b
def covP:Int→List Pc→Int→Prop
 | a,[],b=>a=b
 | a,p::l,b=>∃m,covW a p.1 m∧covP m l b
structure Made (t:TP) (n:Nat):Prop where
 cov:covP 0 t.2 (t.1.length:Int)
 len:t.1.length≤136020*n
 num:t.2.length=n
 few:∀p∈t.2,p.1.length≤60
end Go.Abs

namespace Go.Abs
open Go
end Go.Abs

namespace Go.Abs
open Go
structure Fit (t:TP):Prop where
 ok:∀p∈t.2,pieceC t.1.length p=true
 till:∀p∈t.2,p.2.1≤4000000000000
end Go.Abs

namespace Go.Abs
open Go
def smallT (t:Tt):Bool:=t.2.2.2.2.2.all (fun p=>decide (p.1.length≤60)&&decide (t.2.2.2.2.2.length≤20))&&decide (t.2.2.2.2.1.length≤20000)&&decide (t.1.length≤300)
def okTT (t:Tt):Prop:=(t.2.2.2.2.2.length:Int)≤maxI∧∀p∈t.2.2.2.2.2,(p.1.length:Int)≤maxI∧p.2.1≤maxI
theorem ref18_Small_eq {t:Tt} (h:okTT t):F_ref18_Small t=some (smallT t):=by
 have hm:maxI=9223372036854775807:=rfl
 obtain⟨h1,h2⟩:=h
 unfold F_ref18_Small smallT
 obtain⟨r,r1,r2⟩:=all_loop (ok:=fun p:Pc=>decide (p.1.length≤60)&&decide (t.2.2.2.2.2.length≤20)) (bad:=fun _=>false) (step:=step_ref18_Small_0 t) t.2.2.2.2.2 (by
  simp only[step_ref18_Small_0,grdEq_self]
  rw[if_neg (by simp)]) (fun i x hx=>by
  have hi:=(List.getElem?_eq_some_iff.1 hx).1
  simp only[step_ref18_Small_0,natOf_nat,hx,bnd_some,grdEq_self]
  rw[if_pos (by simp;omega),wrap_id (by omega) (by omega)]
  by_cases g1:x.1.length≤60
  · have e1:¬(60:Int)<(x.1.length:Int):=by omega
    by_cases g2:t.2.2.2.2.2.length≤20
    · have e2:¬(20:Int)<(t.2.2.2.2.2.length:Int):=by omega
      simp[g1,g2,e1,e2]
    · have e2:(20:Int)<(t.2.2.2.2.2.length:Int):=by omega
      simp[g1,g2,e1,e2]
  · have e1:(60:Int)<(x.1.length:Int):=by omega
    simp[g1,e1])
 rw[r1,bnd_some]
 have e1:decide ((t.2.2.2.2.1.length:Int)≤20000)=decide (t.2.2.2.2.1.length≤20000):=by rw[Bool.eq_iff_iff];simp;omega
 have e2:decide ((t.1.length:Int)≤300)=decide (t.1.length≤300):=by rw[Bool.eq_iff_iff];simp;omega
 by_cases h:t.2.2.2.2.2.all (fun p:Pc=>decide (p.1.length≤60)&&decide (t.2.2.2.2.2.length≤20))=true
 · rw[if_pos h] at r2;subst r2
   simp only[h,e1,e2,Bool.true_and]
   cases decide (t.2.2.2.2.1.length≤20000)<;>simp
 · rw[if_neg h] at r2;obtain⟨_,rfl⟩:=r2
   simp only[Bool.not_eq_true] at h
   simp only[h,Bool.false_and]
theorem smallT_few {t:Tt} (h:okTT t) (hs:smallT t=true):fewT t∧t.2.2.2.2.2.length≤20∧∀p∈t.2.2.2.2.2,p.1.length≤60:=by
 unfold smallT at hs
 simp only[Bool.and_eq_true,List.all_eq_true,decide_eq_true_eq] at hs
 obtain⟨⟨h1,h2⟩,h3⟩:=hs
 have hn:t.2.2.2.2.2.length≤20:=by
  cases hd:t.2.2.2.2.2 with
  | nil=>simp
  | cons x l=>rw[←hd];exact (h1 x (by rw[hd];simp)).2
 exact⟨⟨by omega,by omega,fun p hp=>⟨by have:=(h1 p hp).1;omega,(h.2 p hp).2⟩⟩,hn,fun p hp=>(h1 p hp).1⟩
theorem own_loop {t:Tt} {i:Nat} {p x5 x7:Pc} {ps:List Pc} (hp:t.2.2.2.2.2[i]? = some p) (hl:p.1.length≤60):loopS (step_law18_Own_1 t (i:Int) x5 x7) (0,(ps,[]))=some (ps,p.1):=by
 have:=loop_run (step:=step_law18_Own_1 t (i:Int) x5 x7) (t:=(ps,p.1)) (s:=fun k=>((k:Int),(ps,p.1.take k))) p.1.length (fun k hk=>by
  obtain⟨x,hx⟩:∃x,p.1[k]? = some x:=⟨p.1[k],by simp[hk]⟩
  simp only[step_law18_Own_1,grdEq_self,natOf_nat,hp,bnd_some,hx]
  rw[if_pos (by simp;omega),grdp (by unfold roomLim;simp;omega),wrap_id (by omega) (by omega),take_next hx]
  rfl) (by
  simp only[step_law18_Own_1,grdEq_self,natOf_nat,hp,bnd_some]
  rw[if_neg (by simp)]
  simp)
 simpa using this
theorem own_eq {t:Tt} (hn:t.2.2.2.2.2.length≤20) (hl:∀p∈t.2.2.2.2.2,p.1.length≤60):F_law18_Own t=some t:=by
 unfold F_law18_Own
 have:=loop_run (step:=step_law18_Own_0 t) (t:=t.2.2.2.2.2) (s:=fun i=>((i:Int),t.2.2.2.2.2.take i)) t.2.2.2.2.2.length (fun i hi=>by
  obtain⟨x,hx⟩:∃x,t.2.2.2.2.2[i]? = some x:=⟨t.2.2.2.2.2[i],by simp[hi]⟩
  simp only[step_law18_Own_0,grdEq_self,natOf_nat,hx,bnd_some]
  rw[if_pos (by simp;omega),own_loop hx (hl x (List.mem_of_getElem? hx)),bnd_some]
  simp only
  rw[grdp (by unfold roomLim;simp;omega),wrap_id (by omega) (by omega),take_next hx]
  rfl) (by
  simp only[step_law18_Own_0,grdEq_self]
  rw[if_neg (by simp)]
  simp)
 simp only[List.take_zero,Int.natCast_zero] at this
 rw[this,bnd_some]
@[reducible] def tTt:Ty:=(.agg (.cons .str (.cons (.int .i64) (.cons (.int .i64) (.cons (.int .i64) (.cons .str (.list (.agg (.cons (.list tK) (.cons (.int .i64) .bool))))))))))
theorem okTT_of {t:Tt} (w:wfd tTt t):okTT t:=by
 have hl:maxLen=9223372036854775807:=rfl
 have hm:maxI=9223372036854775807:=rfl
 obtain⟨_,_,_,_,_,w1,w2⟩:=w
 rw[hl] at w1
 refine⟨by omega,fun p hp=>?_⟩
 obtain⟨⟨w3,_⟩,w4,_⟩:=w2 p hp
 rw[hl] at w3
 have hi:p.2.1≤IntKind.i64.max:=w4.2
 have hx:IntKind.i64.max=9223372036854775807:=rfl
 omega
end Go.Abs

namespace Go.Abs
open Go
end Go.Abs

namespace Go.Abs
open Go
end Go.Abs

namespace Go.Abs
open Go
abbrev Ep:=Bool×Int×Int×Int×Bool
def limS (o:Ep):Int:=if o.1=false then 512 else if 4096<(if 512 > o.2.1 then 512 else o.2.1) then 4096 else if 512 > o.2.1 then 512 else o.2.1
theorem limit_eq (o:Ep):F_edns_Opt_Limit o=some (limS o):=by
 unfold F_edns_Opt_Limit limS
 cases o.1<;>rfl
theorem limS_b (o:Ep):512≤limS o∧limS o≤4096:=by
 unfold limS
 split
 · omega
 · split
   · omega
   · split<;>omega
end Go.Abs

namespace Go.Abs
open Go
abbrev Ak:=Int×Int×List UInt8×Int×Int×Bool×Int×Int×Int×Bool
def q0:Qt:=([],0,0)
def oA (a:Ak):Ep:=(a.2.2.2.2.2.1,a.2.2.2.2.2.2.1,a.2.2.2.2.2.2.2.1,a.2.2.2.2.2.2.2.2.1,a.2.2.2.2.2.2.2.2.2)
theorem own17_eq (a:Ak):F_law17_Own a=some a:=rfl
end Go.Abs

namespace Go.Abs
open Go
end Go.Abs

namespace Go.Abs
open Go
end Go.Abs

namespace Go.Abs
open Go
end Go.Abs

namespace Go.Abs
open Go
@[reducible] def tAk:Ty:=(.agg (.cons (.int .i64) (.cons (.int .i64) (.cons .str (.cons (.int .i64) (.cons (.int .i64) (.cons .bool (.cons (.int .i64) (.cons (.int .i64) (.cons (.int .i64) .bool))))))))))
end Go.Abs

namespace Go.Abs
open Go
end Go.Abs

namespace Go.Abs
open Go
end Go.Abs

namespace Go.Abs
open Go
end Go.Abs

namespace Go.Abs
open Go
end Go.Abs

namespace Go.Abs
open Go
def withSize (a:Ak) (n:Int):Ak:=(a.1,a.2.1,a.2.2.1,a.2.2.2.1,a.2.2.2.2.1,a.2.2.2.2.2.1,n,a.2.2.2.2.2.2.2)
theorem size_lim {a:Ak} {n:Int} (h:a.2.2.2.2.2.2.1≤n):limS (oA a)≤limS (oA (withSize a n)):=by
 have e1:(oA a).1=a.2.2.2.2.2.1:=rfl
 have e2:(oA a).2.1=a.2.2.2.2.2.2.1:=rfl
 have e3:(oA (withSize a n)).1=a.2.2.2.2.2.1:=rfl
 have e4:(oA (withSize a n)).2.1=n:=rfl
 unfold limS
 rw[e1,e2,e3,e4]
 split
 · omega
 · repeat' split
   all_goals omega
end Go.Abs

namespace Go.Abs
open Go
theorem live19:F_law19_live=some true:=by kernel_rfl
end Go.Abs

namespace Go.Abs
open Go
abbrev Ck:=List UInt8×Int×Int×Int×List UInt8×List Pc×Int×Int×List UInt8×Int×Int×Bool×Int×Int×Int×Bool×Int
def mkC (t:Tt) (a:Ak) (now:Int):Ck:=(t.1,t.2.1,t.2.2.1,t.2.2.2.1,t.2.2.2.2.1,t.2.2.2.2.2,a.1,a.2.1,a.2.2.1,a.2.2.2.1,a.2.2.2.2.1,a.2.2.2.2.2.1,a.2.2.2.2.2.2.1,a.2.2.2.2.2.2.2.1,a.2.2.2.2.2.2.2.2.1,a.2.2.2.2.2.2.2.2.2,now)
theorem patch_in_eq (n m:Int):F_patch_in n m=some (inC n m):=by
 unfold F_patch_in inC
 by_cases h:0≤n<;>simp[h]
def askedS (t:Tt) (a:Ak):Bool:=(lowN a.2.2.1 != [])&&(lowN a.2.2.1==t.1)&&(a.2.2.2.1==t.2.1)&&(a.2.2.2.2.1==t.2.2.1)&&inC a.2.2.2.1 65535&&inC a.2.2.2.2.1 65535
theorem asked_eq {t:Tt} {a:Ak} {now:Int} (hn:(a.2.2.1.length:Int)≤maxI):F_patch_copier_asked (mkC t a now)=some (askedS t a):=by
 unfold F_patch_copier_asked askedS mkC
 simp only[name_Low_eq hn,bnd_some,grdEq_self,patch_in_eq]
 by_cases h1:lowN a.2.2.1=[]
 · simp[h1]
 · by_cases h2:lowN a.2.2.1=t.1
   · by_cases h3:a.2.2.2.1=t.2.1
     · by_cases h4:a.2.2.2.2.1=t.2.2.1
       · have g1:¬t.1=[]:=fun e=>h1 (by rw[h2,e])
         cases h5:inC t.2.1 65535<;>simp[h1,h2,h3,h4,h5,g1]
       · simp[h1,h2,h3,h4]
     · simp[h1,h2,h3]
   · simp[h1,h2]
def soaR (ps:List Pc):Bool ⊕ Unit:=scanF (fun i p=>if (!p.2.2 || decide (i+1=ps.length))=true then none else some (.inl false)) (.inr ()) 0 ps
def soaB (ps:List Pc):Bool:=match soaR ps with | .inr _=>true | .inl _=>false
def fitsS (t:Tt) (a:Ak) (now:Int):Bool:=soaB t.2.2.2.2.2&&checkT t&&liveT t now&&inC t.2.2.2.1 15&&inC a.1 65535&&askedS t a
theorem fits_eq {t:Tt} {a:Ak} {now:Int} (ht:okT t) (hn:(a.2.2.1.length:Int)≤maxI):F_patch_copier_fits (mkC t a now)=some (fitsS t a now):=by
 have hm:maxI=9223372036854775807:=rfl
 have hl:(t.2.2.2.2.2.length:Int)≤maxI:=ht.2.1
 unfold F_patch_copier_fits
 have e0:loopS (step_patch_copier_fits_0 (mkC t a now)) 0=some (soaR t.2.2.2.2.2):=by
  refine loop_scan (l:=t.2.2.2.2.2) _ _ (fun i x hx=>?_) ?_
  · have hi:=(List.getElem?_eq_some_iff.1 hx).1
    have hc:(mkC t a now).2.2.2.2.2.1=t.2.2.2.2.2:=rfl
    unfold step_patch_copier_fits_0
    simp only[grdEq_self,hc]
    rw[if_pos (by simp;omega),natOf_nat,hx,bnd_some,wrap_id (show -9223372036854775808≤(i:Int)+1 by omega) (by omega),wrap_id (show -9223372036854775808≤(t.2.2.2.2.2.length:Int)-1 by omega) (by omega)]
    cases h2:x.2.2 with
    | false=>simp
    | true =>
     by_cases h3:i+1=t.2.2.2.2.2.length
     · have:((i:Int) != (t.2.2.2.2.2.length:Int)-1)=false:=by simp;omega
       simp[h3,this]
       omega
     · have:((i:Int) != (t.2.2.2.2.2.length:Int)-1)=true:=by simp;omega
       simp[h3,this]
  · have hc:(mkC t a now).2.2.2.2.2.1=t.2.2.2.2.2:=rfl
    unfold step_patch_copier_fits_0
    simp only[grdEq_self,hc]
    rw[if_neg (by simp)]
 rw[e0,bnd_some]
 unfold fitsS soaB
 have e1:F_tmpl_Template_Check ((mkC t a now).1,(mkC t a now).2.1,(mkC t a now).2.2.1,(mkC t a now).2.2.2.1,(mkC t a now).2.2.2.2.1,(mkC t a now).2.2.2.2.2.1)=some (checkT t):=tmpl_Check_eq ht
 have e2:F_tmpl_Template_Live ((mkC t a now).1,(mkC t a now).2.1,(mkC t a now).2.2.1,(mkC t a now).2.2.2.1,(mkC t a now).2.2.2.2.1,(mkC t a now).2.2.2.2.2.1) now=some (liveT t now):=tmpl_Live_eq hl now
 have e3:=asked_eq (t:=t) (a:=a) (now:=now) hn
 have hs:soaR t.2.2.2.2.2=.inr ()∨soaR t.2.2.2.2.2=.inl false:=scan_val (ok:=fun (i:Nat) (p:Pc)=>!p.2.2 || decide (i+1=t.2.2.2.2.2.length)) t.2.2.2.2.2 0
 rcases hs with hs | hs
 · rw[hs]
   simp only[grdEq_self]
   have h17:(mkC t a now).2.2.2.2.2.2.2.2.2.2.2.2.2.2.2.2=now:=rfl
   rw[e1,bnd_some,h17,e2,bnd_some]
   have h4:(mkC t a now).2.2.2.1=t.2.2.2.1:=rfl
   have h7:(mkC t a now).2.2.2.2.2.2.1=a.1:=rfl
   rw[h4,h7,patch_in_eq,bnd_some,patch_in_eq,bnd_some]
   have e3':F_patch_copier_asked ((mkC t a now).1,(mkC t a now).2.1,(mkC t a now).2.2.1,t.2.2.2.1,(mkC t a now).2.2.2.2.1,(mkC t a now).2.2.2.2.2.1,a.1,(mkC t a now).2.2.2.2.2.2.2.1,(mkC t a now).2.2.2.2.2.2.2.2.1,(mkC t a now).2.2.2.2.2.2.2.2.2.1,(mkC t a now).2.2.2.2.2.2.2.2.2.2.1,(mkC t a now).2.2.2.2.2.2.2.2.2.2.2.1,(mkC t a now).2.2.2.2.2.2.2.2.2.2.2.2.1,(mkC t a now).2.2.2.2.2.2.2.2.2.2.2.2.2.1,(mkC t a now).2.2.2.2.2.2.2.2.2.2.2.2.2.2.1,(mkC t a now).2.2.2.2.2.2.2.2.2.2.2.2.2.2.2.1,now)=some (askedS t a):=e3
   rw[e3',bnd_some]
   cases checkT t<;>cases liveT t now<;>cases inC t.2.2.2.1 15<;>cases inC a.1 65535<;>rfl
 · rw[hs];rfl
def sumS (l:List Sp):Int:=(l.map fun s=>s.2.1-s.1).sum
theorem sumS_app (l:List Sp) (s:Sp):sumS (l++[s])=sumS l+(s.2.1-s.1):=by simp[sumS]
theorem sumS_b {n:Nat}:∀l:List Sp,(∀s∈l,spanC n s=true)→0≤sumS l∧sumS l≤n*l.length:=by
 intro l
 induction l with
 | nil=>intro _;simp[sumS]
 | cons s l ih =>
  intro hs
  obtain⟨i1,i2⟩:=ih (fun x hx=>hs x (by simp[hx]))
  have:=spanC_iff.1 (hs s (by simp))
  have e1:sumS (s::l)=(s.2.1-s.1)+sumS l:=by simp[sumS]
  have e:(n:Int)*(((s::l).length:Nat):Int)=(n:Int)*(l.length:Int)+n:=by rw[List.length_cons,Int.natCast_add,Int.mul_add];simp
  rw[e1]
  constructor
  · omega
  · rw[e];omega
def bytesP (p:Pc):Int:=sumS p.1
theorem mul_b {n k:Nat} (hn:n≤2000000) (hk:k≤1000):(n:Int)*(k:Int)≤2000000000:=by
 have:=Nat.mul_le_mul hn hk
 have e:(n:Int)*(k:Int)=((n*k:Nat):Int):=by simp
 omega
theorem bytesP_b {n:Nat} {p:Pc} (hn:n≤2000000) (hl:p.1.length≤1000) (h:pieceC n p=true):0≤bytesP p∧bytesP p≤2000000000:=by
 have:=sumS_b p.1 (pieceC_iff h).2
 have:=mul_b hn hl
 unfold bytesP
 omega
theorem bytes_eq {n:Nat} {p:Pc} (hn:n≤2000000) (hl:p.1.length≤1000) (h:pieceC n p=true):F_patch_bytes p=some (bytesP p):=by
 obtain⟨_,h2⟩:=pieceC_iff h
 unfold F_patch_bytes
 have hb:∀i,0≤sumS (p.1.take i)∧sumS (p.1.take i)≤2000000000:=by
  intro i
  have b1:=sumS_b (n:=n) (p.1.take i) (fun s hs=>h2 s (List.mem_of_mem_take hs))
  have b2:(p.1.take i).length≤1000:=by rw[List.length_take];omega
  have:=mul_b hn b2
  omega
 have key:=loop_run (step:=step_patch_bytes_0 p) (t:=sumS p.1) (s:=fun i=>(sumS (p.1.take i),(i:Int))) p.1.length (fun i hi=>by
  have hx:p.1[i]? = some p.1[i]:=List.getElem?_eq_getElem hi
  have hs:=spanC_iff.1 (h2 p.1[i] (List.getElem_mem hi))
  have b1:=hb i
  have b2:=hb (i+1)
  have e:sumS (p.1.take (i+1))=sumS (p.1.take i)+(p.1[i].2.1-p.1[i].1):=by rw[take_next hx,sumS_app]
  unfold step_patch_bytes_0
  simp only[grdEq_self]
  rw[if_pos (by simp;omega),natOf_nat,hx,bnd_some,wrap_id (x:=p.1[i].2.1-p.1[i].1) (by omega) (by omega),wrap_id (x:=sumS (p.1.take i)+(p.1[i].2.1-p.1[i].1)) (by omega) (by omega),wrap_id (x:=(i:Int)+1) (by omega) (by omega),e]
  rfl) (by
  unfold step_patch_bytes_0
  simp only[grdEq_self]
  rw[if_neg (by simp),List.take_of_length_le (Nat.le_refl _)])
 have e0:loopS (step_patch_bytes_0 p) (0,0)=some (sumS p.1):=key
 rw[e0,bnd_some]
 rfl
def roomL (lim:Int):Int→Nat→List Pc→Int×Int
 | n,i,[]=>((i:Int),n)
 | n,i,p::ps=>if lim<n+bytesP p then ((i:Int),n) else roomL lim (n+bytesP p) (i+1) ps
def room0 (a:Ak):Int:=if a.2.2.2.2.2.1=true then 12+(a.2.2.1.length:Int)+4+11 else 12+(a.2.2.1.length:Int)+4
def roomS (t:Tt) (a:Ak):Int×Int:=roomL (limS (oA a)) (room0 a) 0 t.2.2.2.2.2
def outR (t:Tt) (o:(Int×Int) ⊕ Int):Int×Int:=match o with
 | .inl x=>x
 | .inr n=>((t.2.2.2.2.2.length:Int),n)
theorem room_loop {t:Tt} {a:Ak} {now lim:Int} (hf:fewT t) (hc:checkT t=true) (hlim:lim≤4096):∀(v u:List Pc) (n:Int),t.2.2.2.2.2=u++v→0≤n→n≤100000 →
 ∃o,loopS (step_patch_copier_room_0 (mkC t a now) lim) (n,(u.length:Int))=some o∧outR t o=roomL lim n u.length v:=by
 obtain⟨f1,f2,f3⟩:=hf
 have hcc:∀p∈t.2.2.2.2.2,pieceC t.2.2.2.2.1.length p=true:=by unfold checkT at hc;exact List.all_eq_true.1 hc
 have h5:(mkC t a now).2.2.2.2.2.1=t.2.2.2.2.2:=rfl
 intro v
 induction v with
 | nil =>
  intro u n hu h0 h1
  rw[List.append_nil] at hu
  refine⟨.inr n,loopS_out ?_,?_⟩
  · unfold step_patch_copier_room_0
    simp only[grdEq_self,h5]
    rw[hu,if_neg (by simp)]
  · unfold roomL outR
    rw[hu]
 | cons x v ih =>
  intro u n hu h0 h1
  have hx:t.2.2.2.2.2[u.length]? = some x:=by rw[hu];simp
  have hi:=(List.getElem?_eq_some_iff.1 hx).1
  have hm:x∈t.2.2.2.2.2:=List.mem_of_getElem? hx
  have hb:=bytesP_b f1 (f3 x hm).1 (hcc x hm)
  have he:F_patch_bytes (x.1,x.2.1,x.2.2)=some (bytesP x):=bytes_eq f1 (f3 x hm).1 (hcc x hm)
  by_cases hl:lim<n+bytesP x
  · refine⟨.inl ((u.length:Int),n),loopS_out ?_,?_⟩
    · unfold step_patch_copier_room_0
      simp only[grdEq_self,h5]
      rw[if_pos (by simp;omega),natOf_nat,hx,bnd_some,he,bnd_some,wrap_id (x:=n+bytesP x) (by omega) (by omega),if_pos (by simp;omega)]
    · unfold roomL outR
      rw[if_pos hl]
  · obtain⟨o,e1,e2⟩:=ih (u++[x]) (n+bytesP x) (by rw[hu];simp) (by omega) (by omega)
    refine⟨o,?_,?_⟩
    · rw[List.length_append,List.length_singleton] at e1
      refine (loopS_next ?_).trans e1
      unfold step_patch_copier_room_0
      simp only[grdEq_self,h5]
      rw[if_pos (by simp;omega),natOf_nat,hx,bnd_some,he,bnd_some,wrap_id (x:=n+bytesP x) (by omega) (by omega),if_neg (by simp;omega),wrap_id (x:=(u.length:Int)+1) (by omega) (by omega)]
      rfl
    · rw[e2]
      conv=>rhs;unfold roomL
      rw[if_neg hl,List.length_append,List.length_singleton]
theorem room_eq {t:Tt} {a:Ak} {now:Int} (hf:fewT t) (hc:checkT t=true) (hn:a.2.2.1.length≤60000):F_patch_copier_room (mkC t a now)=some (roomS t a):=by
 unfold F_patch_copier_room
 have hlim:=limS_b (oA a)
 have e1:(if (mkC t a now).2.2.2.2.2.2.2.2.2.2.2.1=true then some (Go.IntKind.i64.wrap (Go.IntKind.i64.wrap (Go.IntKind.i64.wrap (12+(((mkC t a now).2.2.2.2.2.2.2.2.1.length:Nat):Int))+4)+11)) else some (Go.IntKind.i64.wrap (Go.IntKind.i64.wrap (12+(((mkC t a now).2.2.2.2.2.2.2.2.1.length:Nat):Int))+4)))=some (room0 a):=by
  have h8:(mkC t a now).2.2.2.2.2.2.2.2.1=a.2.2.1:=rfl
  have h11:(mkC t a now).2.2.2.2.2.2.2.2.2.2.2.1=a.2.2.2.2.2.1:=rfl
  rw[h8,h11,wrap_id (x:=12+(a.2.2.1.length:Int)) (by omega) (by omega),wrap_id (x:=12+(a.2.2.1.length:Int)+4) (by omega) (by omega),wrap_id (x:=12+(a.2.2.1.length:Int)+4+11) (by omega) (by omega)]
  unfold room0
  split<;>rfl
 have e2:F_edns_Opt_Limit ((mkC t a now).2.2.2.2.2.2.2.2.2.2.2.1,(mkC t a now).2.2.2.2.2.2.2.2.2.2.2.2.1,(mkC t a now).2.2.2.2.2.2.2.2.2.2.2.2.2.1,(mkC t a now).2.2.2.2.2.2.2.2.2.2.2.2.2.2.1,(mkC t a now).2.2.2.2.2.2.2.2.2.2.2.2.2.2.2.1)=some (limS (oA a)):=limit_eq (oA a)
 have h0:0≤room0 a∧room0 a≤100000:=by unfold room0;split<;>omega
 obtain⟨o,l1,l2⟩:=room_loop (a:=a) (now:=now) (lim:=limS (oA a)) hf hc hlim.2 t.2.2.2.2.2 [] (room0 a) rfl h0.1 h0.2
 simp only[grdEq_self]
 rw[e1,bnd_some,e2,bnd_some]
 have l1':loopS (step_patch_copier_room_0 (mkC t a now) (limS (oA a))) (room0 a,0)=some o:=l1
 rw[l1',bnd_some]
 have:roomS t a=outR t o:=l2.symm
 rw[this]
 cases o<;>rfl
theorem size_eq {t:Tt} {a:Ak} {now:Int} (hf:fewT t) (hn:a.2.2.1.length≤60000):F_patch_Size t a now=some (if fitsS t a now=true then roomS t a else (0,0)):=by
 have hm:maxI=9223372036854775807:=rfl
 unfold F_patch_Size
 have e1:=fits_eq (t:=t) (a:=a) (now:=now) (okT_of hf) (by omega)
 have e1':F_patch_copier_fits (t.1,t.2.1,t.2.2.1,t.2.2.2.1,t.2.2.2.2.1,t.2.2.2.2.2,a.1,a.2.1,a.2.2.1,a.2.2.2.1,a.2.2.2.2.1,a.2.2.2.2.2.1,a.2.2.2.2.2.2.1,a.2.2.2.2.2.2.2.1,a.2.2.2.2.2.2.2.2.1,a.2.2.2.2.2.2.2.2.2,now)=some (fitsS t a now):=e1
 rw[e1',bnd_some]
 cases h:fitsS t a now with
 | false=>rfl
 | true =>
  have hc:checkT t=true:=by unfold fitsS at h;simp only[Bool.and_eq_true] at h;exact h.1.1.1.1.2
  have e2:=room_eq (t:=t) (a:=a) (now:=now) hf hc hn
  have e2':F_patch_copier_room (t.1,t.2.1,t.2.2.1,t.2.2.2.1,t.2.2.2.2.1,t.2.2.2.2.2,a.1,a.2.1,a.2.2.1,a.2.2.2.1,a.2.2.2.2.1,a.2.2.2.2.2.1,a.2.2.2.2.2.2.1,a.2.2.2.2.2.2.2.1,a.2.2.2.2.2.2.2.2.1,a.2.2.2.2.2.2.2.2.2,now)=some (roomS t a):=e2
  rw[e2']
  rfl
end Go.Abs

namespace Go.Abs
open Go
def smT (t:Tt):Prop:=fewT t∧t.2.2.2.2.2.length≤20∧∀p∈t.2.2.2.2.2,p.1.length≤60
theorem fits_parts {t:Tt} {a:Ak} {now:Int} (h:fitsS t a now=true):checkT t=true∧liveT t now=true∧(0≤t.2.2.2.1∧t.2.2.2.1≤15)∧(0≤a.1∧a.1≤65535)∧lowN a.2.2.1≠[]∧lowN a.2.2.1=t.1∧a.2.2.2.1=t.2.1∧a.2.2.2.2.1=t.2.2.1∧(0≤a.2.2.2.1∧a.2.2.2.1≤65535)∧(0≤a.2.2.2.2.1∧a.2.2.2.2.1≤65535)∧soaB t.2.2.2.2.2=true:=by
 unfold fitsS askedS inC at h
 simp only[Bool.and_eq_true,decide_eq_true_eq,bne_iff_ne,beq_iff_eq,ne_eq] at h
 obtain⟨⟨⟨⟨⟨h1,h2⟩,h3⟩,h4⟩,h5⟩,⟨⟨⟨⟨⟨h6,h7⟩,h8⟩,h9⟩,h10⟩,h11⟩⟩:=h
 exact⟨h2,h3,h4,h5,h6,h7,h8,h9,h10,h11,h1⟩
end Go.Abs

namespace Go.Abs
open Go
theorem smT_of {t:Tt} (h:okTT t) (hs:smallT t=true):smT t:=smallT_few h hs
theorem room_ge {lim:Int}:∀(ps:List Pc) (n:Int) (i:Nat),(∀p∈ps,0≤bytesP p)→(i:Int)≤(roomL lim n i ps).1∧n≤(roomL lim n i ps).2:=by
 intro ps
 induction ps with
 | nil=>intro n i _;exact⟨Int.le_refl _,Int.le_refl _⟩
 | cons p ps ih =>
  intro n i h
  unfold roomL
  split
  · exact⟨Int.le_refl _,Int.le_refl _⟩
  · obtain⟨h1,h2⟩:=ih (n+bytesP p) (i+1) (fun x hx=>h x (by simp[hx]))
    have:=h p (by simp)
    exact⟨by omega,by omega⟩
theorem room_mono {l1 l2:Int} (hl:l1≤l2):∀(ps:List Pc) (n:Int) (i:Nat),(∀p∈ps,0≤bytesP p)→(roomL l1 n i ps).1≤(roomL l2 n i ps).1∧(roomL l1 n i ps).2≤(roomL l2 n i ps).2∧((roomL l1 n i ps).1<(roomL l2 n i ps).1∨(roomL l1 n i ps).2=(roomL l2 n i ps).2):=by
 intro ps
 induction ps with
 | nil=>intro n i _;exact⟨Int.le_refl _,Int.le_refl _,.inr rfl⟩
 | cons p ps ih =>
  intro n i h
  have hp:=h p (by simp)
  have hps:∀x∈ps,0≤bytesP x:=fun x hx=>h x (by simp[hx])
  unfold roomL
  by_cases h1:l1<n+bytesP p
  · rw[if_pos h1]
    by_cases h2:l2<n+bytesP p
    · rw[if_pos h2];exact⟨Int.le_refl _,Int.le_refl _,.inr rfl⟩
    · rw[if_neg h2]
      obtain⟨g1,g2⟩:=room_ge (lim:=l2) ps (n+bytesP p) (i+1) hps
      exact⟨by show (i:Int)≤_;omega,by show n≤_;omega,.inl (by show (i:Int)<_;omega)⟩
  · rw[if_neg h1,if_neg (by omega)]
    exact ih _ _ hps
theorem bytes_pos {t:Tt} (hf:fewT t) (hc:checkT t=true):∀p∈t.2.2.2.2.2,0≤bytesP p:=by
 intro p hp
 unfold checkT at hc
 exact (bytesP_b hf.1 (hf.2.2 p hp).1 (List.all_eq_true.1 hc p hp)).1
theorem size_more {t:Tt} {a:Ak} {n now:Int} (hs:smT t) (hl:a.2.2.2.2.2.2.1≤n) :
 let x:=if fitsS t a now=true then roomS t a else (0,0)
 let y:=if fitsS t (withSize a n) now=true then roomS t (withSize a n) else (0,0)
 x.1≤y.1∧x.2≤y.2∧(x.1<y.1∨x.2=y.2):=by
 have e:fitsS t (withSize a n) now=fitsS t a now:=rfl
 simp only
 rw[e]
 cases h:fitsS t a now with
 | false=>exact⟨Int.le_refl _,Int.le_refl _,.inr rfl⟩
 | true =>
  rw[if_pos rfl,if_pos rfl]
  have hc:=(fits_parts h).1
  exact room_mono (size_lim hl) t.2.2.2.2.2 (room0 a) 0 (bytes_pos hs.1 hc)
theorem law_PatchMore (t:Tt) (a:Ak) (at_:Int×Int) (hk:okTT t):F_law19_PatchMore t a at_=some true:=by
 unfold F_law19_PatchMore
 rw[live19]
 have e1:F_ref18_Small (t.1,t.2.1,t.2.2.1,t.2.2.2.1,t.2.2.2.2.1,t.2.2.2.2.2)=some (smallT t):=ref18_Small_eq hk
 simp only[e1,bnd_some,grdEq_self]
 cases hsm:smallT t with
 | false=>rfl
 | true =>
  have hs:=smT_of hk hsm
  by_cases h1:300<(a.2.2.1.length:Int)
  · simp only[Bool.not_true,if_true,decide_eq_true h1,Bool.true_eq_false,if_false,bnd_some]
  · by_cases h2:at_.2<0
    · simp only[Bool.not_true,if_true,decide_eq_false h1,decide_eq_true h2,Bool.true_eq_false,if_false,bnd_some]
    · by_cases h3:70000<at_.2
      · simp only[Bool.not_true,if_true,decide_eq_false h1,decide_eq_false h2,decide_eq_true h3,Bool.true_eq_false,if_false,bnd_some]
      · by_cases h4:a.2.2.2.2.2.2.1<0
        · simp only[Bool.not_true,if_true,decide_eq_false h1,decide_eq_false h2,decide_eq_false h3,decide_eq_true h4,Bool.true_eq_false,if_false,bnd_some]
        · by_cases h5:65535<a.2.2.2.2.2.2.1
          · simp only[Bool.not_true,if_true,decide_eq_false h1,decide_eq_false h2,decide_eq_false h3,decide_eq_false h4,decide_eq_true h5,bnd_some]
          · have hw:Go.IntKind.i64.wrap (a.2.2.2.2.2.2.1+at_.2)=a.2.2.2.2.2.2.1+at_.2:=wrap_id (by omega) (by omega)
            have e2:F_law18_Own (t.1,t.2.1,t.2.2.1,t.2.2.2.1,t.2.2.2.2.1,t.2.2.2.2.2)=some t:=own_eq hs.2.1 hs.2.2
            have e3:F_law17_Own (a.1,a.2.1,a.2.2.1,a.2.2.2.1,a.2.2.2.2.1,a.2.2.2.2.2.1,a.2.2.2.2.2.2.1,a.2.2.2.2.2.2.2.1,a.2.2.2.2.2.2.2.2.1,a.2.2.2.2.2.2.2.2.2)=some a:=own17_eq a
            have e4:F_patch_Size (t.1,t.2.1,t.2.2.1,t.2.2.2.1,t.2.2.2.2.1,t.2.2.2.2.2) (a.1,a.2.1,a.2.2.1,a.2.2.2.1,a.2.2.2.2.1,a.2.2.2.2.2.1,a.2.2.2.2.2.2.1,a.2.2.2.2.2.2.2.1,a.2.2.2.2.2.2.2.2.1,a.2.2.2.2.2.2.2.2.2) at_.1=some (if fitsS t a at_.1=true then roomS t a else (0,0)):=size_eq (a:=a) hs.1 (by omega)
            have e5:F_patch_Size (t.1,t.2.1,t.2.2.1,t.2.2.2.1,t.2.2.2.2.1,t.2.2.2.2.2) (a.1,a.2.1,a.2.2.1,a.2.2.2.1,a.2.2.2.2.1,a.2.2.2.2.2.1,a.2.2.2.2.2.2.1+at_.2,a.2.2.2.2.2.2.2.1,a.2.2.2.2.2.2.2.2.1,a.2.2.2.2.2.2.2.2.2) at_.1=some (if fitsS t (withSize a (a.2.2.2.2.2.2.1+at_.2)) at_.1=true then roomS t (withSize a (a.2.2.2.2.2.2.1+at_.2)) else (0,0)):=size_eq (a:=withSize a (a.2.2.2.2.2.2.1+at_.2)) hs.1 (by show a.2.2.1.length≤60000;omega)
            simp only[Bool.not_true,if_true,decide_eq_false h1,decide_eq_false h2,decide_eq_false h3,decide_eq_false h4,decide_eq_false h5,bnd_some,Bool.false_eq_true,if_false,hw,e2,e3,e4,e5]
            obtain⟨g1,g2,g3⟩:=size_more (t:=t) (a:=a) (n:=a.2.2.2.2.2.2.1+at_.2) (now:=at_.1) hs (by omega)
            revert g1 g2 g3
            generalize (if fitsS t a at_.1=true then roomS t a else (0,0))=x
            generalize (if fitsS t (withSize a (a.2.2.2.2.2.2.1+at_.2)) at_.1=true then roomS t (withSize a (a.2.2.2.2.2.2.1+at_.2)) else (0,0))=y
            intro g1 g2 g3
            obtain⟨x1,x2⟩:=x
            obtain⟨y1,y2⟩:=y
            simp only at g1 g2 g3
            simp only[decide_eq_true g1,decide_eq_true g2,if_true]
            by_cases h6:x1<y1
            · simp only[decide_eq_true h6,Bool.true_eq_false,if_false]
            · have h7:x2=y2:=by rcases g3 with h | h;exact absurd h h6;exact h
              simp[h6,h7]
end Go.Abs
