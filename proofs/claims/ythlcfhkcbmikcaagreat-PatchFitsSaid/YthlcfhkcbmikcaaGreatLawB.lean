/- Part of a proof. -/
import Derived.Test.YthlcfhkcbmikcaaGreatLawA
import Derived.Test.YthlcfhkcbmikcaaGreatSxB
set_option linter.unusedSimpArgs false
set_option linter.unusedVariables false
set_option linter.unusedSectionVars false
namespace Go.Abs
open Go
def encs (base:List UInt8) (l:List RRt):List UInt8:=(l.map (recE base 12)).flatten
theorem encs_app (base:List UInt8) (l m:List RRt):encs base (l++m)=encs base l++encs base m:=by simp[encs]
theorem encs_cons (base:List UInt8) (r:RRt) (m:List RRt):encs base (r::m)=recE base 12 r++encs base m:=by simp[encs]
theorem recE_len {base:List UInt8} {r:RRt}:(recE base 12 r).length≤267+r.2.2.2.2.length:=by
 unfold recE
 split
 · simp
 · have:=writeS_len base r.1 12
   simp[tailE,put2,put4];omega
def goodR (r:RRt):Prop:=r.1.length≤300∧r.2.2.2.2.length≤2000∧recC r=true
theorem encs_len {base:List UInt8}:∀{l:List RRt},(∀r∈l,goodR r)→(encs base l).length≤2267*l.length
 | [],_=>by simp[encs]
 | r::l,h=>by
  have h1:=(h r (by simp)).2.1
  have h2:=encs_len (base:=base) (l:=l) (fun x hx=>h x (by simp[hx]))
  have h3:=recE_len (base:=base) (r:=r)
  rw[encs_cons]
  simp only[List.length_append,List.length_cons]
  omega
end Go.Abs

namespace Go.Abs
open Go
abbrev Qt:=List UInt8×Int×Int
abbrev Mt:=Int×Int×List Qt×List RRt×List RRt×List RRt
def m0:Mt:=(0,0,[],[],[],[])
def qS (s:List UInt8) (a:Int):Qt×Int×Int :=
 if (readS s a).2.2≠0 then (([],0,0),0,(readS s a).2.2)
 else match getS s (readS s a).2.1 2,getS s ((readS s a).2.1+2) 2 with
  | some k,some c=>(((readS s a).1,k,c),(readS s a).2.1+4,0)
  | _,_=>(([],0,0),0,2)
theorem getS2_b {s:List UInt8} {x v:Int} (h:getS s x 2=some v):0≤v∧v<65536:=by
 obtain⟨b0,b1,_,_⟩:=getS_bounds h
 obtain⟨w,hw,w0,w1⟩:=getS_some (s:=s) (a:=x) (n:=2) b0 (by omega) (by omega) b1
 rw[h] at hw
 cases hw
 have p2:(256:Int) ^ (2:Int).toNat=65536:=by decide
 rw[p2] at w1
 exact⟨w0,w1⟩
theorem qS_ends (s:List UInt8) (a:Int):((qS s a).2.2=0→0≤a∧a<(qS s a).2.1∧(qS s a).2.1≤s.length):=by
 obtain⟨e1,e2,e3⟩:=readS_ends s a
 unfold qS
 by_cases he:(readS s a).2.2=0
 · rw[if_neg (by simpa using he)]
   obtain⟨b0,b1,b2⟩:=e2 he
   generalize (readS s a)=r at *
   cases hk:getS s r.2.1 2 with
   | none=>simp
   | some k =>
    cases hc:getS s (r.2.1+2) 2 with
    | none=>simp
    | some c =>
     have:=getS_bounds hc
     simp
     omega
 · rw[if_pos he]
   intro h
   exact absurd h he
def manyS {α:Type} (f:Int→α×Int×Int):Nat→Int→List α×Int×Int
 | 0,a=>([],a,0)
 | n+1,a=>if (f a).2.2≠0 then ([],0,(f a).2.2) else if (manyS f n (f a).2.1).2.2≠0 then ([],0,(manyS f n (f a).2.1).2.2) else ((f a).1::(manyS f n (f a).2.1).1,(manyS f n (f a).2.1).2.1,0)
theorem manyS_bad {α:Type} {f:Int→α×Int×Int} {n:Nat} {a:Int} (h:(f a).2.2≠0):manyS f (n+1) a=([],0,(f a).2.2):=by
 show (if (f a).2.2≠0 then _ else _)=_
 rw[if_pos h]
theorem manyS_ok {α:Type} {f:Int→α×Int×Int} {n:Nat} {a:Int} (h:(f a).2.2=0):manyS f (n+1) a=if (manyS f n (f a).2.1).2.2≠0 then ([],0,(manyS f n (f a).2.1).2.2) else ((f a).1::(manyS f n (f a).2.1).1,(manyS f n (f a).2.1).2.1,0):=by
 show (if (f a).2.2≠0 then _ else _)=_
 rw[if_neg (by simpa using h)]
def cntS (s:List UInt8) (i:Int):Nat:=((getS s i 2).getD 0).toNat
theorem cnt_le (s:List UInt8) (i:Int):cntS s i≤65535:=by
 unfold cntS
 cases h:getS s i 2 with
 | none=>simp
 | some v=>have:=getS2_b h;simp;omega
theorem many_bad {α:Type} {f:Int→α×Int×Int}:∀(n:Nat) (a:Int),(manyS f n a).2.2≠0→(manyS f n a).1=[]∧(manyS f n a).2.1=0
 | 0,a,h=>by simp[manyS] at h
 | n+1,a,h=>by
  rw[manyS] at h ⊢
  split
  · simp
  · split
    · simp
    · rename_i h1 h2
      rw[if_neg h1,if_neg h2] at h
      simp at h
theorem ref_section_loop {s:List UInt8} (hs:s.length≤1000000) (m:Nat) (hm:m≤65535):∀(n:Nat) (k:Nat) (a:Int) (acc:List RRt),k+n=m→acc.length=k →
 loopS (step_ref08_section_0 s (m:Int)) (a,(acc,(k:Int)))=some (if (manyS (recS s) n a).2.2≠0 then .inl (0,(manyS (recS s) n a).2.2) else .inr ((manyS (recS s) n a).2.1,acc++(manyS (recS s) n a).1))
 | 0,k,a,acc,hk,ha=>by
  refine loopS_out ?_
  simp only[step_ref08_section_0]
  rw[if_neg (by simp;omega)]
  simp[manyS]
 | n+1,k,a,acc,hk,ha=>by
  have c0:decide ((k:Int)<(m:Int))=true:=by simp;omega
  by_cases he:(recS s a).2.2=0
  · have hx:((recS s a).2.2 != 0)=false:=by simp[he]
    rw[loopS_next (y:=((recS s a).2.1,(acc++[(recS s a).1],((k+1:Nat):Int))))]
    · rw[ref_section_loop hs m hm n (k+1) _ _ (by omega) (by simp[ha])]
      rw[manyS_ok he]
      by_cases h2:(manyS (recS s) n (recS s a).2.1).2.2=0
      · simp[h2]
      · simp[h2]
    · simp only[step_ref08_section_0,c0,if_true,ref06_Decode_eq hs,bnd_some,hx,Bool.false_eq_true,if_false,grdEq_self]
      rw[grdp (by unfold roomLim;simp;omega),wrap_id (by omega) (by omega)]
      rfl
  · have hx:((recS s a).2.2 != 0)=true:=by simp[he]
    refine loopS_out ?_
    simp only[step_ref08_section_0,c0,if_true,ref06_Decode_eq hs,bnd_some,hx]
    rw[manyS_bad he]
    simp[he]
theorem ref_section_eq {s:List UInt8} (hs:s.length≤1000000) (a:Int) {m:Nat} (hm:m≤65535):F_ref08_section s a (m:Int)=some (manyS (recS s) m a):=by
 unfold F_ref08_section
 have:=ref_section_loop hs m hm m 0 a [] (by omega) rfl
 simp only[Int.natCast_zero] at this
 rw[this,bnd_some]
 by_cases he:(manyS (recS s) m a).2.2=0
 · rw[if_neg (by simpa using he)]
   simp only[List.nil_append]
   rw[←he]
 · rw[if_pos he]
   obtain⟨k1,k2⟩:=many_bad m a he
   simp only
   rw[←k1,←k2]
theorem ref_questions_loop {s:List UInt8} (hs:s.length≤1000000) (m:Nat) (hm:m≤65535):∀(n:Nat) (k:Nat) (a:Int) (acc:List Qt),k+n=m→acc.length=k →
 loopS (step_ref08_questions_0 s (m:Int)) (a,(acc,(k:Int)))=some (if (manyS (qS s) n a).2.2≠0 then .inl (0,(manyS (qS s) n a).2.2) else .inr ((manyS (qS s) n a).2.1,acc++(manyS (qS s) n a).1))
 | 0,k,a,acc,hk,ha=>by
  refine loopS_out ?_
  simp only[step_ref08_questions_0]
  rw[if_neg (by simp;omega)]
  simp[manyS]
 | n+1,k,a,acc,hk,ha=>by
  have hmx:maxI=9223372036854775807:=rfl
  have hs':(s.length:Int)≤maxI:=by omega
  have c0:decide ((k:Int)<(m:Int))=true:=by simp;omega
  obtain⟨e1,e2,e3⟩:=readS_ends s a
  have hqe:=qS_ends s a
  by_cases hr:(readS s a).2.2=0
  · obtain⟨b0,b1,b2⟩:=e2 hr
    have hxr:((readS s a).2.2 != 0)=false:=by simp[hr]
    cases hc:getS s ((readS s a).2.1+2) 2 with
    | none =>
     have hq:(qS s a).2.2=2:=by
      unfold qS
      rw[if_neg (by simpa using hr),hc]
      cases getS s (readS s a).2.1 2<;>rfl
     have ht:takeS s (readS s a).2.1 4=none:=by
      cases h:takeS s (readS s a).2.1 4 with
      | none=>rfl
      | some t =>
       have:=takeS_bounds h
       obtain⟨w,hw,_⟩:=getS_some (s:=s) (a:=(readS s a).2.1+2) (n:=2) (by omega) (by omega) (by omega) (by omega)
       rw[hc] at hw
       simp at hw
     refine loopS_out ?_
     simp only[step_ref08_questions_0,c0,if_true,ref04_Read_eq hs',bnd_some,hxr,Bool.false_eq_true,if_false,ref01_Take_eq hs',ht,two,Bool.not_false]
     rw[manyS_bad (by omega),hq]
     simp
    | some c =>
     obtain⟨c0',c1',_,_⟩:=getS_bounds hc
     obtain⟨kk,hkk,_⟩:=getS_some (s:=s) (a:=(readS s a).2.1) (n:=2) (by omega) (by omega) (by omega) (by omega)
     have hq:qS s a=(((readS s a).1,kk,c),(readS s a).2.1+4,0):=by
      unfold qS
      rw[if_neg (by simpa using hr),hc,hkk]
     have ht:∃t,takeS s (readS s a).2.1 4=some t:=by unfold takeS;rw[if_pos (by omega)];exact⟨_,rfl⟩
     obtain⟨t,ht⟩:=ht
     rw[loopS_next (y:=((readS s a).2.1+4,(acc++[((readS s a).1,kk,c)],((k+1:Nat):Int))))]
     · rw[ref_questions_loop hs m hm n (k+1) _ _ (by omega) (by simp[ha])]
       rw[manyS_ok (by rw[hq]),hq]
       by_cases h2:(manyS (qS s) n ((readS s a).2.1+4)).2.2=0
       · simp[h2]
       · simp[h2]
     · simp only[step_ref08_questions_0,c0,if_true,ref04_Read_eq hs',bnd_some,hxr,Bool.false_eq_true,if_false,ref01_Take_eq hs',ht,two,Bool.not_true,ref01_Get_eq hs',wrap_id (x:=(readS s a).2.1+2) (by omega) (by omega),hkk,hc,twoI,grdEq_self]
       rw[grdp (by unfold roomLim;simp;omega),wrap_id (x:=(readS s a).2.1+4) (by omega) (by omega),wrap_id (by omega) (by omega)]
       rfl
  · have hxr:((readS s a).2.2 != 0)=true:=by simp[hr]
    have hq:(qS s a).2.2=(readS s a).2.2:=by
     unfold qS
     rw[if_pos hr]
    refine loopS_out ?_
    simp only[step_ref08_questions_0,c0,if_true,ref04_Read_eq hs',bnd_some,hxr]
    rw[manyS_bad (by rw[hq];exact hr),hq]
    simp[hr]
theorem ref_questions_eq {s:List UInt8} (hs:s.length≤1000000) (a:Int) {m:Nat} (hm:m≤65535):F_ref08_questions s a (m:Int)=some (manyS (qS s) m a):=by
 unfold F_ref08_questions
 have:=ref_questions_loop hs m hm m 0 a [] (by omega) rfl
 simp only[Int.natCast_zero] at this
 rw[this,bnd_some]
 by_cases he:(manyS (qS s) m a).2.2=0
 · rw[if_neg (by simpa using he)]
   simp only[List.nil_append]
   rw[←he]
 · rw[if_pos he]
   obtain⟨k1,k2⟩:=many_bad m a he
   simp only
   rw[←k1,←k2]
def decS (s:List UInt8):Mt×Int :=
 if 65535<s.length then (m0,6) else if s.length<12 then (m0,2)
 else if (manyS (qS s) (cntS s 4) 12).2.2≠0 then (m0,(manyS (qS s) (cntS s 4) 12).2.2)
 else if (manyS (recS s) (cntS s 6) (manyS (qS s) (cntS s 4) 12).2.1).2.2≠0 then (m0,(manyS (recS s) (cntS s 6) (manyS (qS s) (cntS s 4) 12).2.1).2.2)
 else if (manyS (recS s) (cntS s 8) (manyS (recS s) (cntS s 6) (manyS (qS s) (cntS s 4) 12).2.1).2.1).2.2≠0 then (m0,(manyS (recS s) (cntS s 8) (manyS (recS s) (cntS s 6) (manyS (qS s) (cntS s 4) 12).2.1).2.1).2.2)
 else if (manyS (recS s) (cntS s 10) (manyS (recS s) (cntS s 8) (manyS (recS s) (cntS s 6) (manyS (qS s) (cntS s 4) 12).2.1).2.1).2.1).2.2≠0 then (m0,(manyS (recS s) (cntS s 10) (manyS (recS s) (cntS s 8) (manyS (recS s) (cntS s 6) (manyS (qS s) (cntS s 4) 12).2.1).2.1).2.1).2.2)
 else if (manyS (recS s) (cntS s 10) (manyS (recS s) (cntS s 8) (manyS (recS s) (cntS s 6) (manyS (qS s) (cntS s 4) 12).2.1).2.1).2.1).2.1≠s.length then (m0,5)
 else (((getS s 0 2).getD 0,(getS s 2 2).getD 0,(manyS (qS s) (cntS s 4) 12).1,(manyS (recS s) (cntS s 6) (manyS (qS s) (cntS s 4) 12).2.1).1,
  (manyS (recS s) (cntS s 8) (manyS (recS s) (cntS s 6) (manyS (qS s) (cntS s 4) 12).2.1).2.1).1,(manyS (recS s) (cntS s 10) (manyS (recS s) (cntS s 8) (manyS (recS s) (cntS s 6) (manyS (qS s) (cntS s 4) 12).2.1).2.1).2.1).1),0)
def headS (s:List UInt8):Int×Int×Bool:=if s.length<12 then (0,0,false) else ((getS s 0 2).getD 0,(getS s 2 2).getD 0,true)
theorem twoI_1 (o:Option Int):(twoI o).1=o.getD 0:=by cases o<;>rfl
theorem ref08_Head_eq {s:List UInt8} (hs:(s.length:Int)≤maxI):F_ref08_Head s=some (headS s):=by
 unfold F_ref08_Head headS
 by_cases h:s.length<12
 · rw[if_pos (by simp;omega),if_pos h]
 · rw[if_neg (by simp;omega),if_neg h]
   simp only[ref01_Get_eq hs,bnd_some,twoI_1]
theorem cnt_get {s:List UInt8} {i:Int}:(twoI (getS s i 2)).1=(cntS s i:Int):=by
 rw[twoI_1]
 unfold cntS
 cases h:getS s i 2 with
 | none=>rfl
 | some v=>have:=getS2_b h;simp;omega
theorem ref08_Decode_eq {s:List UInt8} (hs:s.length≤1000000):F_ref08_Decode s=some (decS s):=by
 have hm:maxI=9223372036854775807:=rfl
 have hs':(s.length:Int)≤maxI:=by omega
 unfold F_ref08_Decode decS
 by_cases h1:65535<s.length
 · rw[if_pos (by simp;omega),if_pos h1];rfl
 · rw[if_neg (by simp;omega),if_neg h1,ref08_Head_eq hs',bnd_some]
   unfold headS
   by_cases h2:s.length<12
   · simp only[h2,if_true,Bool.not_false];rfl
   · simp only[h2,if_false,Bool.not_true,Bool.false_eq_true,ref01_Get_eq hs',bnd_some,cnt_get,ref_questions_eq hs _ (cnt_le s _),ref_section_eq hs _ (cnt_le s _)]
     generalize manyS (qS s) (cntS s 4) 12=q
     obtain⟨qs,a1,e1⟩:=q
     simp only
     by_cases g1:e1=0
     · subst g1
       simp only[bne_self_eq_false,Bool.false_eq_true,if_false,ne_eq,not_true_eq_false]
       generalize manyS (recS s) (cntS s 6) a1=q
       obtain⟨an,a2,e2⟩:=q
       simp only
       by_cases g2:e2=0
       · subst g2
         simp only[bne_self_eq_false,Bool.false_eq_true,if_false,ne_eq,not_true_eq_false]
         generalize manyS (recS s) (cntS s 8) a2=q
         obtain⟨ns,a3,e3⟩:=q
         simp only
         by_cases g3:e3=0
         · subst g3
           simp only[bne_self_eq_false,Bool.false_eq_true,if_false,ne_eq,not_true_eq_false]
           generalize manyS (recS s) (cntS s 10) a3=q
           obtain⟨ar,a4,e4⟩:=q
           simp only
           by_cases g4:e4=0
           · subst g4
             simp only[bne_self_eq_false,Bool.false_eq_true,if_false,ne_eq,not_true_eq_false]
             by_cases g5:a4=s.length
             · simp[g5]
             · simp[g5,m0]
           · simp[g4,m0]
         · simp[g3,m0]
       · simp[g2,m0]
     · simp[g1,m0]
end Go.Abs

namespace Go.Abs
open Go
instance:DecidableEq Qt:=inferInstanceAs (DecidableEq (List UInt8×Int×Int))
instance:DecidableEq RRt:=inferInstanceAs (DecidableEq (List UInt8×Int×Int×Int×List UInt8))
abbrev Mt2:=List RRt×List RRt
instance:DecidableEq Mt2:=inferInstanceAs (DecidableEq (List RRt×List RRt))
abbrev Mt3:=List Qt×List RRt×Mt2
instance:DecidableEq Mt3:=inferInstanceAs (DecidableEq (List Qt×List RRt×Mt2))
instance:DecidableEq Mt:=inferInstanceAs (DecidableEq (Int×Int×Mt3))
end Go.Abs

namespace Go.Abs
open Go
theorem all_loop {α ρ:Type} {ok:α→Bool} {bad:Nat→ρ} {step:Int→Option (Int ⊕ (ρ ⊕ Unit))} (l:List α)
 (hend:step (l.length:Int)=some (.inr (.inr ())))
 (hst:∀(i:Nat) (x:α),l[i]? = some x→step (i:Int)=if ok x=true then some (.inl ((i+1:Nat):Int)) else some (.inr (.inl (bad i)))) :
 ∃r,loopS step 0=some r∧(if l.all ok=true then r=.inr () else ∃i,r=.inl (bad i)):=by
 have key:∀(v u:List α),l=u++v→∃r,loopS step (u.length:Int)=some r∧(if v.all ok=true then r=.inr () else ∃i,r=.inl (bad i)):=by
  intro v
  induction v with
  | nil =>
   intro u h
   rw[List.append_nil] at h
   subst h
   exact⟨.inr (),loopS_out hend,by simp⟩
  | cons x v ih =>
   intro u h
   have hs:=hst u.length x (by rw[h];simp)
   by_cases hx:ok x=true
   · rw[if_pos hx] at hs
     obtain⟨r,r1,r2⟩:=ih (u++[x]) (by rw[h];simp)
     refine⟨r,?_,?_⟩
     · rw[loopS_next hs]
       simpa using r1
     · simpa[hx] using r2
   · rw[if_neg hx] at hs
     refine⟨.inl (bad u.length),loopS_out hs,?_⟩
     rw[if_neg (by simp[hx])]
     exact⟨_,rfl⟩
 exact key l [] rfl
def okQ (q:Qt):Bool:=nameS q.1&&inC q.2.1 65535&&inC q.2.2 65535
def checkM (m:Mt):Bool:=inC m.1 65535&&inC m.2.1 65535&&inC (m.2.2.1.length:Int) 65535&&m.2.2.1.all okQ&&inC (m.2.2.2.1.length:Int) 65535&&m.2.2.2.1.all recC&&inC (m.2.2.2.2.1.length:Int) 65535&&m.2.2.2.2.1.all recC&&inC (m.2.2.2.2.2.length:Int) 65535&&m.2.2.2.2.2.all recC
def baseM (m:Mt):List UInt8:=match m.2.2.1 with | []=>[0] | q::_=>q.1
def encQ (q:Qt):List UInt8:=q.1++put2 q.2.1++put2 q.2.2
def headE (m:Mt):List UInt8:=put2 m.1++put2 m.2.1++put2 (m.2.2.1.length:Int)++put2 (m.2.2.2.1.length:Int)++put2 (m.2.2.2.2.1.length:Int)++put2 (m.2.2.2.2.2.length:Int)
def encF (base:List UInt8):List RRt→List UInt8→List UInt8
 | [],s=>s
 | r::l,s=>if 65535<s.length then s else encF base l (s++recE base 12 r)
def encM (m:Mt):List UInt8×Int :=
 if checkM m=false then ([],1)
 else if 65535<(encF (baseM m) (m.2.2.2.1++m.2.2.2.2.1++m.2.2.2.2.2) (headE m++(m.2.2.1.map encQ).flatten)).length then ([],6)
 else (encF (baseM m) (m.2.2.2.1++m.2.2.2.2.1++m.2.2.2.2.2) (headE m++(m.2.2.1.map encQ).flatten),0)
theorem checkM_iff {m:Mt} (h:checkM m=true):(0≤m.1∧m.1≤65535)∧(0≤m.2.1∧m.2.1≤65535)∧m.2.2.1.length≤65535∧(∀q∈m.2.2.1,okQ q=true)∧m.2.2.2.1.length≤65535∧(∀r∈m.2.2.2.1,recC r=true) ∧
 m.2.2.2.2.1.length≤65535∧(∀r∈m.2.2.2.2.1,recC r=true)∧m.2.2.2.2.2.length≤65535∧(∀r∈m.2.2.2.2.2,recC r=true):=by
 unfold checkM inC at h
 simp only[Bool.and_eq_true,decide_eq_true_eq,List.all_eq_true] at h
 obtain⟨⟨⟨⟨⟨⟨⟨⟨⟨h1,h2⟩,h3⟩,h4⟩,h5⟩,h6⟩,h7⟩,h8⟩,h9⟩,h10⟩:=h
 exact⟨h1,h2,by omega,h4,by omega,h6,by omega,h8,by omega,h10⟩
theorem okQ_iff {q:Qt} (h:okQ q=true):nameS q.1=true∧(0≤q.2.1∧q.2.1≤65535)∧(0≤q.2.2∧q.2.2≤65535):=by
 unfold okQ inC at h
 simp only[Bool.and_eq_true,decide_eq_true_eq] at h
 exact⟨h.1.1,h.1.2,h.2⟩
end Go.Abs

namespace Go.Abs
open Go
theorem headE_len (m:Mt):(headE m).length=12:=rfl
end Go.Abs

namespace Go.Abs
open Go
theorem encF_short {base:List UInt8}:∀(l:List RRt) (s:List UInt8),(encF base l s).length≤65535→encF base l s=s++encs base l
 | [],s,_=>by simp[encF,encs]
 | r::l,s,h=>by
  unfold encF at h ⊢
  split at h
  · rename_i h1;omega
  · rename_i h1
    rw[if_neg h1,encF_short l _ h,encs_cons]
    simp
theorem qS_enc {s:List UInt8} {q:Qt} {a n:Int} (hq:okQ q=true) (h:takeS s a n=some (encQ q)):qS s a=(q,a+(encQ q).length,0):=by
 obtain⟨q1,q2,q3⟩:=okQ_iff hq
 unfold encQ at h
 rw[List.append_assoc] at h
 obtain⟨h1,h2⟩:=takeS_app h
 have p2:∀x,((put2 x).length:Int)=2:=fun _=>rfl
 obtain⟨h3,h4⟩:=takeS_app h2
 have g1:=getS_put2 h2 q2.1 (by omega)
 rw[p2] at h4
 have g2:=getS_put2 (t:=[]) (by rw[List.append_nil];exact h4) q3.1 (by omega)
 have hr:=readS_plain q1 h1
 unfold qS
 rw[hr]
 simp only[ne_eq,not_true_eq_false,if_false,g1,g2]
 refine Prod.ext rfl (Prod.ext ?_ rfl)
 simp[encQ,put2]
 omega
theorem many_enc {α:Type} {f:Int→α×Int×Int} {s:List UInt8} {enc:α→List UInt8} {g:α→α}:∀(l:List α) (a n:Int) (r:List UInt8) (b:Int),(∀x∈l,∀(i m:Int),b≤i→takeS s i m=some (enc x)→f i=(g x,i+(enc x).length,0))→b≤a →
 takeS s a n=some ((l.map enc).flatten++r)→manyS f l.length a=(l.map g,a+((l.map enc).flatten).length,0)
 | [],a,n,r,b,_,_,_=>by simp[manyS]
 | x::l,a,n,r,b,hf,hb,h=>by
  rw[List.map_cons,List.flatten_cons,List.append_assoc] at h
  obtain⟨h1,h2⟩:=takeS_app h
  have hx:=hf x (by simp) a _ hb h1
  have ih:=many_enc l (a+(enc x).length) _ r b (fun y hy=>hf y (by simp[hy])) (by omega) h2
  rw[List.length_cons,manyS_ok (by rw[hx]),hx]
  simp only
  rw[ih]
  simp only[ne_eq,not_true_eq_false,if_false,List.map_cons,List.flatten_cons,List.length_append]
  refine Prod.ext rfl (Prod.ext ?_ rfl)
  simp only
  omega
def backR (base:List UInt8) (r:RRt):RRt:=(backS base r.1,r.2)
def backM (m:Mt):Mt:=(m.1,m.2.1,m.2.2.1,m.2.2.2.1.map (backR (baseM m)),m.2.2.2.2.1.map (backR (baseM m)),m.2.2.2.2.2.map (backR (baseM m)))
theorem encs_eq (base:List UInt8) (l:List RRt):encs base l=(l.map (recE base 12)).flatten:=rfl
theorem baseM_name {m:Mt} (hq:∀q∈m.2.2.1,okQ q=true):nameS (baseM m)=true:=by
 unfold baseM
 cases h:m.2.2.1 with
 | nil=>simp[nameS,lab_root]
 | cons q l=>exact (okQ_iff (hq q (by rw[h];simp))).1
def wholeE (m:Mt):List UInt8:=headE m++((m.2.2.1.map encQ).flatten++(encs (baseM m) m.2.2.2.1++(encs (baseM m) m.2.2.2.2.1++encs (baseM m) m.2.2.2.2.2)))
theorem encM_ok {m:Mt} (h:(encM m).2=0):checkM m=true∧encM m=(wholeE m,0)∧(wholeE m).length≤65535:=by
 unfold encM at h ⊢
 cases hc:checkM m with
 | false=>rw[hc] at h;simp at h
 | true =>
  rw[hc] at h
  simp only[Bool.true_eq_false,if_false] at h ⊢
  split at h
  · simp at h
  · rename_i hl
    have e:encF (baseM m) (m.2.2.2.1++m.2.2.2.2.1++m.2.2.2.2.2) (headE m++(m.2.2.1.map encQ).flatten)=wholeE m:=by
     rw[encF_short _ _ (by omega),encs_app,encs_app]
     simp[wholeE]
    rw[if_neg hl,e]
    rw[e] at hl
    exact⟨trivial,rfl,by omega⟩
theorem dec_parts {m:Mt} {s r:List UInt8} (hc:checkM m=true) (hs:s=wholeE m++r) :
 (getS s 0 2).getD 0=m.1∧(getS s 2 2).getD 0=m.2.1 ∧
 manyS (qS s) (cntS s 4) 12=(m.2.2.1,12+((m.2.2.1.map encQ).flatten.length:Int),0) ∧
 manyS (recS s) (cntS s 6) (12+((m.2.2.1.map encQ).flatten.length:Int))=(m.2.2.2.1.map (backR (baseM m)),12+((m.2.2.1.map encQ).flatten.length:Int)+((encs (baseM m) m.2.2.2.1).length:Int),0) ∧
 manyS (recS s) (cntS s 8) (12+((m.2.2.1.map encQ).flatten.length:Int)+((encs (baseM m) m.2.2.2.1).length:Int)) =
  (m.2.2.2.2.1.map (backR (baseM m)),12+((m.2.2.1.map encQ).flatten.length:Int)+((encs (baseM m) m.2.2.2.1).length:Int)+((encs (baseM m) m.2.2.2.2.1).length:Int),0) ∧
 manyS (recS s) (cntS s 10) (12+((m.2.2.1.map encQ).flatten.length:Int)+((encs (baseM m) m.2.2.2.1).length:Int)+((encs (baseM m) m.2.2.2.2.1).length:Int)) =
  (m.2.2.2.2.2.map (backR (baseM m)),((wholeE m).length:Int),0):=by
 obtain⟨c1,c2,c3,c4,c5,c6,c7,c8,c9,c10⟩:=checkM_iff hc
 have p2:∀x,((put2 x).length:Int)=2:=fun _=>rfl
 have hall:takeS s 0 (wholeE m).length=some (wholeE m):=by
  rw[hs]
  have:=takeS_mid [] (wholeE m) r
  simpa using this
 have hh:=hall
 unfold wholeE at hh
 obtain⟨hh,hq⟩:=takeS_app hh
 rw[headE_len,Int.zero_add] at hq
 unfold headE at hh
 simp only[List.append_assoc] at hh
 have g0:=getS_put2 hh c1.1 (by omega)
 obtain⟨_,h2⟩:=takeS_app hh
 rw[p2] at h2
 have g2:=getS_put2 h2 c2.1 (by omega)
 obtain⟨_,h4⟩:=takeS_app h2
 rw[p2] at h4
 have g4:=getS_put2 h4 (by omega) (by omega)
 obtain⟨_,h6⟩:=takeS_app h4
 rw[p2] at h6
 have g6:=getS_put2 h6 (by omega) (by omega)
 obtain⟨_,h8⟩:=takeS_app h6
 rw[p2] at h8
 have g8:=getS_put2 h8 (by omega) (by omega)
 obtain⟨_,h10⟩:=takeS_app h8
 rw[p2] at h10
 have g10:=getS_put2 (t:=[]) (by rw[List.append_nil];exact h10) (by omega) (by omega)
 simp only[Int.zero_add] at g2 g4 g6 g8 g10
 have k4:cntS s 4=m.2.2.1.length:=by unfold cntS;rw[show (4:Int)=2+2 from rfl,g4];simp
 have k6:cntS s 6=m.2.2.2.1.length:=by unfold cntS;rw[show (6:Int)=2+2+2 from rfl,g6];simp
 have k8:cntS s 8=m.2.2.2.2.1.length:=by unfold cntS;rw[show (8:Int)=2+2+2+2 from rfl,g8];simp
 have k10:cntS s 10=m.2.2.2.2.2.length:=by unfold cntS;rw[show (10:Int)=2+2+2+2+2 from rfl,g10];simp
 have hbn:=baseM_name c4
 have hne:∀r:RRt,recC r=true→recE (baseM m) 12 r≠[]:=fun r hr e=>by
  rcases recE_nil.1 e with e | e
  · rw[hr] at e;simp at e
  · rw[hbn] at e;simp at e
 have hrec:∀r:RRt,recC r=true→∀(i n:Int),12+((m.2.2.1.map encQ).flatten.length:Int)≤i→takeS s i n=some (recE (baseM m) 12 r)→recS s i=(backR (baseM m) r,i+(recE (baseM m) 12 r).length,0):=by
  intro r hr i n hi ht
  cases hQ:m.2.2.1 with
  | nil =>
   have hb:baseM m=[0]:=by unfold baseM;rw[hQ]
   have hn:=hne r hr
   rw[hb] at ht hn ⊢
   exact (recS_root hn ht).1
  | cons q l =>
   have hb:baseM m=q.1:=by unfold baseM;rw[hQ]
   have hn:=hne r hr
   have hqq:=hq
   rw[hQ] at hqq hi
   rw[List.map_cons,List.flatten_cons] at hqq hi
   have he:encQ q=q.1++(put2 q.2.1++put2 q.2.2):=by simp[encQ]
   rw[he] at hqq hi
   simp only[List.append_assoc] at hqq hi
   have htb:=(takeS_app hqq).1
   rw[hb] at ht hn ⊢
   exact (recS_enc htb (by simp only[List.length_append] at hi;omega) hn ht).1
 obtain⟨hq0,ha⟩:=takeS_app hq
 obtain⟨_,hn⟩:=takeS_app ha
 obtain⟨_,hr⟩:=takeS_app hn
 refine⟨by rw[g0];rfl,by rw[g2];rfl,?_,?_,?_,?_⟩
 · rw[k4]
   have:=many_enc (f:=qS s) (s:=s) (enc:=encQ) (g:=fun q=>q) m.2.2.1 12 _ _ 12 (fun q hq i n hi ht=>qS_enc (c4 q hq) ht) (by omega) hq
   simpa using this
 · rw[k6]
   exact many_enc (f:=recS s) (s:=s) (enc:=recE (baseM m) 12) (g:=backR (baseM m)) m.2.2.2.1 _ _ _ _ (fun r hr i n hi ht=>hrec r (c6 r hr) i n hi ht) (Int.le_refl _) ha
 · rw[k8]
   exact many_enc (f:=recS s) (s:=s) (enc:=recE (baseM m) 12) (g:=backR (baseM m)) m.2.2.2.2.1 _ _ _ (12+((m.2.2.1.map encQ).flatten.length:Int)) (fun r hr i n hi ht=>hrec r (c8 r hr) i n hi ht) (by omega) hn
 · rw[k10]
   have:=many_enc (f:=recS s) (s:=s) (enc:=recE (baseM m) 12) (g:=backR (baseM m)) m.2.2.2.2.2 (12+((m.2.2.1.map encQ).flatten.length:Int)+((encs (baseM m) m.2.2.2.1).length:Int)+((encs (baseM m) m.2.2.2.2.1).length:Int)) _ [] (12+((m.2.2.1.map encQ).flatten.length:Int)) (fun r hr i n hi ht=>hrec r (c10 r hr) i n hi ht) (by omega) (by rw[List.append_nil];exact hr)
   rw[this]
   refine Prod.ext rfl (Prod.ext ?_ rfl)
   simp only[wholeE,List.length_append,headE_len,encs_eq]
   omega
theorem dec_enc {m:Mt} (h:(encM m).2=0):decS (encM m).1=(backM m,0):=by
 obtain⟨hc,he,hl⟩:=encM_ok h
 rw[he]
 simp only
 obtain⟨g0,g1,d1,d2,d3,d4⟩:=dec_parts (m:=m) (s:=wholeE m) (r:=[]) hc (by simp)
 have hlen:12≤(wholeE m).length:=by simp only[wholeE,List.length_append,headE_len];omega
 unfold decS
 rw[if_neg (by omega),if_neg (by omega),d1]
 simp only[ne_eq,not_true_eq_false,if_false]
 rw[d2]
 simp only[not_true_eq_false,if_false]
 rw[d3]
 simp only[not_true_eq_false,if_false]
 rw[d4]
 simp only[not_true_eq_false,if_false,g0,g1]
 rfl
theorem encM_err {m:Mt} (h:(encM m).2≠0):(encM m).1=[]∧((encM m).2=6∨((encM m).2=1∧checkM m=false)):=by
 unfold encM at h ⊢
 cases hc:checkM m with
 | false=>simp
 | true =>
  rw[hc] at h
  simp only[Bool.true_eq_false,if_false] at h ⊢
  split at h
  · rename_i hl;rw[if_pos hl];simp
  · simp at h
end Go.Abs

namespace Go.Abs
open Go
end Go.Abs

namespace Go.Abs
open Go
end Go.Abs

namespace Go.Abs
open Go
theorem encF_fit {base:List UInt8}:∀(l:List RRt) (s:List UInt8),(s++encs base l).length≤65535→encF base l s=s++encs base l
 | [],s,_=>by simp[encF,encs]
 | r::l,s,h=>by
  have e:encs base (r::l)=recE base 12 r++encs base l:=by simp[encs]
  rw[e] at h ⊢
  have hs:s.length≤65535:=by simp at h;omega
  rw[encF,if_neg (by omega),encF_fit l _ (by rw[List.append_assoc];exact h),List.append_assoc]
theorem encM_mk {m:Mt} (hc:checkM m=true) (hl:(wholeE m).length≤65535):encM m=(wholeE m,0):=by
 have e:encF (baseM m) (m.2.2.2.1++m.2.2.2.2.1++m.2.2.2.2.2) (headE m++(m.2.2.1.map encQ).flatten)=wholeE m:=by
  have e2:headE m++(m.2.2.1.map encQ).flatten++encs (baseM m) (m.2.2.2.1++m.2.2.2.2.1++m.2.2.2.2.2)=wholeE m:=by
   rw[encs_app,encs_app]
   simp[wholeE]
  rw[encF_fit _ _ (by rw[e2];exact hl),e2]
 unfold encM
 rw[hc,e,if_neg (by simp),if_neg (by omega)]
end Go.Abs
