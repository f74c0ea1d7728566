/- Part of a proof. -/
import Derived.Test.YthlcfhkcbmikcaaGreatLawA
import Derived.Test.YthlcfhkcbmikcaaGreatSxB
set_option linter.unusedSimpArgs false
set_option linter.unusedVariables false
set_option linter.unusedSectionVars false
namespace Go.Abs
open Go
def encs (base:List UInt8) (l:List RRt):List UInt8:=(l.map (recE base 12)).flatten
theorem encs_app (base:List UInt8) (l m:List RRt):encs base (l++m)=encs base l++encs base m:=by simp[encs]
theorem encs_cons (base:List UInt8) (r:RRt) (m:List RRt):encs base (r::m)=recE base 12 r++encs base m:=by simp[encs]
theorem recE_len {base:List UInt8} {r:RRt}:(recE base 12 r).length≤267+r.2.2.2.2.length:=by
 unfold recE
 split
 · simp
 · have:=writeS_len base r.1 12
   simp[tailE,put2,put4];omega
end Go.Abs

namespace Go.Abs
open Go
abbrev Qt:=List UInt8×Int×Int
abbrev Mt:=Int×Int×List Qt×List RRt×List RRt×List RRt
def m0:Mt:=(0,0,[],[],[],[])
def qS (s:List UInt8) (a:Int):Qt×Int×Int :=
 if (readS s a).2.2≠0 then (([],0,0),0,(readS s a).2.2)
 else match getS s (readS s a).2.1 2,getS s ((readS s a).2.1+2) 2 with
  | some k,some c=>(((readS s a).1,k,c),(readS s a).2.1+4,0)
  | _,_=>(([],0,0),0,2)
theorem getS2_b {s:List UInt8} {x v:Int} (h:getS s x 2=some v):0≤v∧v<65536:=by
 obtain⟨b0,b1,_,_⟩:=getS_bounds h
 obtain⟨w,hw,w0,w1⟩:=getS_some (s:=s) (a:=x) (n:=2) b0 (by omega) (by omega) b1
 rw[h] at hw
 cases hw
 have p2:(256:Int) ^ (2:Int).toNat=65536:=by decide
 rw[p2] at w1
 exact⟨w0,w1⟩
theorem msg_question_eq {s:List UInt8} (hs:(s.length:Int)≤maxI) (a:Int):F_msg_question s a=some (qS s a):=by
 have hm:maxI=9223372036854775807:=rfl
 obtain⟨e1,e2,e3⟩:=readS_ends s a
 unfold F_msg_question qS
 rw[comp_Read_eq hs,bnd_some]
 generalize readS s a=r at *
 obtain⟨nm,i,e⟩:=r
 simp only at *
 by_cases he:e=0
 · subst he
   obtain⟨b0,b1,b2⟩:=e2 rfl
   simp only[bne_self_eq_false,Bool.false_eq_true,if_false,ne_eq,not_true_eq_false,Get_eq hs,bnd_some]
   by_cases hi:i+2≤maxI
   · rw[wrap_id (x:=i+2) (by omega) (by omega)]
     cases hc:getS s (i+2) 2 with
     | none=>cases getS s i 2<;>rfl
     | some c =>
      obtain⟨c0,c1,_,_⟩:=getS_bounds hc
      obtain⟨k,hk,_⟩:=getS_some (s:=s) (a:=i) (n:=2) (by omega) (by omega) (by omega) (by omega)
      simp only[hk,twoI,Bool.not_true,Bool.false_eq_true,if_false,wrap_id (x:=i+4) (by omega) (by omega)]
   · have hk:getS s i 2=none:=getS_none (by omega)
     have hc:getS s (i+2) 2=none:=getS_none (by omega)
     have hw:getS s (IntKind.i64.wrap (i+2)) 2=none:=by
      unfold getS takeS
      have:¬(0≤IntKind.i64.wrap (i+2)):=by
       simp only[IntKind.wrap,IntKind.bits,IntKind.signed]
       simp
       omega
      rw[if_pos (by omega),if_neg (fun h=>this h.1)]
      rfl
     simp only[hk,hc,hw]
     rfl
 · have hne:(e != 0)=true:=by simp[he]
   simp only[hne,if_true,ne_eq,he,not_false_eq_true]
def manyS {α:Type} (f:Int→α×Int×Int):Nat→Int→List α×Int×Int
 | 0,a=>([],a,0)
 | n+1,a=>if (f a).2.2≠0 then ([],0,(f a).2.2) else if (manyS f n (f a).2.1).2.2≠0 then ([],0,(manyS f n (f a).2.1).2.2) else ((f a).1::(manyS f n (f a).2.1).1,(manyS f n (f a).2.1).2.1,0)
theorem manyS_bad {α:Type} {f:Int→α×Int×Int} {n:Nat} {a:Int} (h:(f a).2.2≠0):manyS f (n+1) a=([],0,(f a).2.2):=by
 show (if (f a).2.2≠0 then _ else _)=_
 rw[if_pos h]
theorem manyS_ok {α:Type} {f:Int→α×Int×Int} {n:Nat} {a:Int} (h:(f a).2.2=0):manyS f (n+1) a=if (manyS f n (f a).2.1).2.2≠0 then ([],0,(manyS f n (f a).2.1).2.2) else ((f a).1::(manyS f n (f a).2.1).1,(manyS f n (f a).2.1).2.1,0):=by
 show (if (f a).2.2≠0 then _ else _)=_
 rw[if_neg (by simpa using h)]
def cntS (s:List UInt8) (i:Int):Nat:=((getS s i 2).getD 0).toNat
theorem cnt_le (s:List UInt8) (i:Int):cntS s i≤65535:=by
 unfold cntS
 cases h:getS s i 2 with
 | none=>simp
 | some v=>have:=getS2_b h;simp;omega
def decS (s:List UInt8):Mt×Int :=
 if 65535<s.length then (m0,6) else if s.length<12 then (m0,2)
 else if (manyS (qS s) (cntS s 4) 12).2.2≠0 then (m0,(manyS (qS s) (cntS s 4) 12).2.2)
 else if (manyS (recS s) (cntS s 6) (manyS (qS s) (cntS s 4) 12).2.1).2.2≠0 then (m0,(manyS (recS s) (cntS s 6) (manyS (qS s) (cntS s 4) 12).2.1).2.2)
 else if (manyS (recS s) (cntS s 8) (manyS (recS s) (cntS s 6) (manyS (qS s) (cntS s 4) 12).2.1).2.1).2.2≠0 then (m0,(manyS (recS s) (cntS s 8) (manyS (recS s) (cntS s 6) (manyS (qS s) (cntS s 4) 12).2.1).2.1).2.2)
 else if (manyS (recS s) (cntS s 10) (manyS (recS s) (cntS s 8) (manyS (recS s) (cntS s 6) (manyS (qS s) (cntS s 4) 12).2.1).2.1).2.1).2.2≠0 then (m0,(manyS (recS s) (cntS s 10) (manyS (recS s) (cntS s 8) (manyS (recS s) (cntS s 6) (manyS (qS s) (cntS s 4) 12).2.1).2.1).2.1).2.2)
 else if (manyS (recS s) (cntS s 10) (manyS (recS s) (cntS s 8) (manyS (recS s) (cntS s 6) (manyS (qS s) (cntS s 4) 12).2.1).2.1).2.1).2.1≠s.length then (m0,5)
 else (((getS s 0 2).getD 0,(getS s 2 2).getD 0,(manyS (qS s) (cntS s 4) 12).1,(manyS (recS s) (cntS s 6) (manyS (qS s) (cntS s 4) 12).2.1).1,
  (manyS (recS s) (cntS s 8) (manyS (recS s) (cntS s 6) (manyS (qS s) (cntS s 4) 12).2.1).2.1).1,(manyS (recS s) (cntS s 10) (manyS (recS s) (cntS s 8) (manyS (recS s) (cntS s 6) (manyS (qS s) (cntS s 4) 12).2.1).2.1).2.1).1),0)
def headS (s:List UInt8):Int×Int×Bool:=if s.length<12 then (0,0,false) else ((getS s 0 2).getD 0,(getS s 2 2).getD 0,true)
theorem twoI_1 (o:Option Int):(twoI o).1=o.getD 0:=by cases o<;>rfl
theorem msg_Head_eq {s:List UInt8} (hs:(s.length:Int)≤maxI):F_msg_Head s=some (headS s):=by
 unfold F_msg_Head headS
 by_cases h:s.length<12
 · rw[if_pos (by simp;omega),if_pos h]
 · rw[if_neg (by simp;omega),if_neg h]
   simp only[Get_eq hs,bnd_some,twoI_1]
theorem cnt_get {s:List UInt8} {i:Int}:(twoI (getS s i 2)).1=(cntS s i:Int):=by
 rw[twoI_1]
 unfold cntS
 cases h:getS s i 2 with
 | none=>rfl
 | some v=>have:=getS2_b h;simp;omega
end Go.Abs

namespace Go.Abs
open Go
theorem dec_loop0 {s:List UInt8} (hs:s.length≤1000000) (v2 v3:Int) (m:Nat) (hm:m≤65535):∀(n:Nat) (k:Nat) (a:Int) (acc:List Qt),k+n=m→acc.length=k →
 ∃r,loopS (step_msg_Decode_0 s v2 v3 (m:Int)) (a,((k:Int),acc))=some r∧(if (manyS (qS s) n a).2.2≠0 then ∃x,r=.inl ((manyS (qS s) n a).2.2,x) else r=.inr ((manyS (qS s) n a).2.1,acc++(manyS (qS s) n a).1))
 | 0,k,a,acc,hk,ha=>by
  refine⟨.inr (a,acc),loopS_out ?_,by simp[manyS]⟩
  simp only[step_msg_Decode_0,grdEq_self]
  rw[if_neg (by simp;omega)]
 | n+1,k,a,acc,hk,ha=>by
  have hmx:maxI=9223372036854775807:=rfl
  have c0:decide ((k:Int)<(m:Int))=true:=by simp;omega
  by_cases he:(qS s a).2.2=0
  · have hx:((qS s a).2.2 != 0)=false:=by simp[he]
    obtain⟨r,r1,r2⟩:=dec_loop0 hs v2 v3 m hm n (k+1) (qS s a).2.1 (acc++[(qS s a).1]) (by omega) (by simp[ha])
    refine⟨r,?_,?_⟩
    · rw[loopS_next (y:=((qS s a).2.1,(((k+1:Nat):Int),acc++[(qS s a).1])))]
      · exact r1
      · simp only[step_msg_Decode_0,c0,if_true,msg_question_eq (s:=s) (by omega),bnd_some,hx,Bool.false_eq_true,if_false,grdEq_self]
        rw[grdp (by unfold roomLim;simp;omega),wrap_id (by omega) (by omega)]
        rfl
    · rw[manyS_ok he]
      by_cases h2:(manyS (qS s) n (qS s a).2.1).2.2=0
      · rw[if_neg (by simpa using h2)] at r2
        simp[h2,r2]
      · rw[if_pos h2] at r2
        obtain⟨x,hx⟩:=r2
        simp[h2,hx]
  · have hx:((qS s a).2.2 != 0)=true:=by simp[he]
    refine⟨.inl ((qS s a).2.2,acc),loopS_out ?_,?_⟩
    · simp only[step_msg_Decode_0,c0,if_true,msg_question_eq (s:=s) (by omega),bnd_some,hx,grdEq_self]
    · rw[manyS_bad he,if_pos he]
      exact⟨_,rfl⟩
theorem dec_loop1 {s:List UInt8} (hs:s.length≤1000000) (v2 v3:Int) (qs:List Qt) (m:Nat) (hm:m≤65535):∀(n:Nat) (k:Nat) (a:Int) (acc:List RRt),k+n=m→acc.length=k →
 ∃r,loopS (step_msg_Decode_1 s v2 v3 (m:Int)) (a,((k:Int),(qs,acc)))=some r∧(if (manyS (recS s) n a).2.2≠0 then ∃x,r=.inl ((manyS (recS s) n a).2.2,x) else r=.inr ((manyS (recS s) n a).2.1,(qs,acc++(manyS (recS s) n a).1)))
 | 0,k,a,acc,hk,ha=>by
  refine⟨.inr (a,(qs,acc)),loopS_out ?_,by simp[manyS]⟩
  simp only[step_msg_Decode_1,grdEq_self]
  rw[if_neg (by simp;omega)]
 | n+1,k,a,acc,hk,ha=>by
  have c0:decide ((k:Int)<(m:Int))=true:=by simp;omega
  by_cases he:(recS s a).2.2=0
  · have hx:((recS s a).2.2 != 0)=false:=by simp[he]
    obtain⟨r,r1,r2⟩:=dec_loop1 hs v2 v3 qs m hm n (k+1) (recS s a).2.1 (acc++[(recS s a).1]) (by omega) (by simp[ha])
    refine⟨r,?_,?_⟩
    · rw[loopS_next (y:=((recS s a).2.1,(((k+1:Nat):Int),(qs,acc++[(recS s a).1]))))]
      · exact r1
      · simp only[step_msg_Decode_1,c0,if_true,record_Decode_eq hs,bnd_some,hx,Bool.false_eq_true,if_false,grdEq_self]
        rw[grdp (by unfold roomLim;simp;omega),wrap_id (by omega) (by omega)]
        rfl
    · rw[manyS_ok he]
      by_cases h2:(manyS (recS s) n (recS s a).2.1).2.2=0
      · rw[if_neg (by simpa using h2)] at r2
        simp[h2,r2]
      · rw[if_pos h2] at r2
        obtain⟨x,hx⟩:=r2
        simp[h2,hx]
  · have hx:((recS s a).2.2 != 0)=true:=by simp[he]
    refine⟨.inl ((recS s a).2.2,(qs,acc)),loopS_out ?_,?_⟩
    · simp only[step_msg_Decode_1,c0,if_true,record_Decode_eq hs,bnd_some,hx,grdEq_self]
    · rw[manyS_bad he,if_pos he]
      exact⟨_,rfl⟩
theorem dec_loop2 {s:List UInt8} (hs:s.length≤1000000) (v2 v3:Int) (qs:List Qt) (an:List RRt) (m:Nat) (hm:m≤65535):∀(n:Nat) (k:Nat) (a:Int) (acc:List RRt),k+n=m→acc.length=k →
 ∃r,loopS (step_msg_Decode_2 s v2 v3 (m:Int)) (a,((k:Int),(qs,(an,acc))))=some r∧(if (manyS (recS s) n a).2.2≠0 then ∃x,r=.inl ((manyS (recS s) n a).2.2,x) else r=.inr ((manyS (recS s) n a).2.1,(qs,(an,acc++(manyS (recS s) n a).1))))
 | 0,k,a,acc,hk,ha=>by
  refine⟨.inr (a,(qs,(an,acc))),loopS_out ?_,by simp[manyS]⟩
  simp only[step_msg_Decode_2,grdEq_self]
  rw[if_neg (by simp;omega)]
 | n+1,k,a,acc,hk,ha=>by
  have c0:decide ((k:Int)<(m:Int))=true:=by simp;omega
  by_cases he:(recS s a).2.2=0
  · have hx:((recS s a).2.2 != 0)=false:=by simp[he]
    obtain⟨r,r1,r2⟩:=dec_loop2 hs v2 v3 qs an m hm n (k+1) (recS s a).2.1 (acc++[(recS s a).1]) (by omega) (by simp[ha])
    refine⟨r,?_,?_⟩
    · rw[loopS_next (y:=((recS s a).2.1,(((k+1:Nat):Int),(qs,(an,acc++[(recS s a).1])))))]
      · exact r1
      · simp only[step_msg_Decode_2,c0,if_true,record_Decode_eq hs,bnd_some,hx,Bool.false_eq_true,if_false,grdEq_self]
        rw[grdp (by unfold roomLim;simp;omega),wrap_id (by omega) (by omega)]
        rfl
    · rw[manyS_ok he]
      by_cases h2:(manyS (recS s) n (recS s a).2.1).2.2=0
      · rw[if_neg (by simpa using h2)] at r2
        simp[h2,r2]
      · rw[if_pos h2] at r2
        obtain⟨x,hx⟩:=r2
        simp[h2,hx]
  · have hx:((recS s a).2.2 != 0)=true:=by simp[he]
    refine⟨.inl ((recS s a).2.2,(qs,(an,acc))),loopS_out ?_,?_⟩
    · simp only[step_msg_Decode_2,c0,if_true,record_Decode_eq hs,bnd_some,hx,grdEq_self]
    · rw[manyS_bad he,if_pos he]
      exact⟨_,rfl⟩
theorem dec_loop3 {s:List UInt8} (hs:s.length≤1000000) (v2 v3:Int) (qs:List Qt) (an ns:List RRt) (m:Nat) (hm:m≤65535):∀(n:Nat) (k:Nat) (a:Int) (acc:List RRt),k+n=m→acc.length=k →
 ∃r,loopS (step_msg_Decode_3 s v2 v3 (m:Int)) (a,((k:Int),(qs,(an,(ns,acc)))))=some r∧(if (manyS (recS s) n a).2.2≠0 then ∃x,r=.inl ((manyS (recS s) n a).2.2,x) else r=.inr ((manyS (recS s) n a).2.1,(qs,(an,(ns,acc++(manyS (recS s) n a).1)))))
 | 0,k,a,acc,hk,ha=>by
  refine⟨.inr (a,(qs,(an,(ns,acc)))),loopS_out ?_,by simp[manyS]⟩
  simp only[step_msg_Decode_3,grdEq_self]
  rw[if_neg (by simp;omega)]
 | n+1,k,a,acc,hk,ha=>by
  have c0:decide ((k:Int)<(m:Int))=true:=by simp;omega
  by_cases he:(recS s a).2.2=0
  · have hx:((recS s a).2.2 != 0)=false:=by simp[he]
    obtain⟨r,r1,r2⟩:=dec_loop3 hs v2 v3 qs an ns m hm n (k+1) (recS s a).2.1 (acc++[(recS s a).1]) (by omega) (by simp[ha])
    refine⟨r,?_,?_⟩
    · rw[loopS_next (y:=((recS s a).2.1,(((k+1:Nat):Int),(qs,(an,(ns,acc++[(recS s a).1]))))))]
      · exact r1
      · simp only[step_msg_Decode_3,c0,if_true,record_Decode_eq hs,bnd_some,hx,Bool.false_eq_true,if_false,grdEq_self]
        rw[grdp (by unfold roomLim;simp;omega),wrap_id (by omega) (by omega)]
        rfl
    · rw[manyS_ok he]
      by_cases h2:(manyS (recS s) n (recS s a).2.1).2.2=0
      · rw[if_neg (by simpa using h2)] at r2
        simp[h2,r2]
      · rw[if_pos h2] at r2
        obtain⟨x,hx⟩:=r2
        simp[h2,hx]
  · have hx:((recS s a).2.2 != 0)=true:=by simp[he]
    refine⟨.inl ((recS s a).2.2,(qs,(an,(ns,acc)))),loopS_out ?_,?_⟩
    · simp only[step_msg_Decode_3,c0,if_true,record_Decode_eq hs,bnd_some,hx,grdEq_self]
    · rw[manyS_bad he,if_pos he]
      exact⟨_,rfl⟩
theorem msg_many_eq {s:List UInt8} (hs:(s.length:Int)≤maxI) {i:Nat} (hi:i≤3):F_msg_many s (i:Int)=some (cntS s (4+2*(i:Int)):Int):=by
 unfold F_msg_many
 rw[wrap_id (x:=2*(i:Int)) (by omega) (by omega),wrap_id (x:=4+2*(i:Int)) (by omega) (by omega),Get_eq hs,bnd_some,←cnt_get]
theorem msg_Decode_eq {s:List UInt8} (hs:s.length≤1000000):F_msg_Decode s=some (decS s):=by
 have hm:maxI=9223372036854775807:=rfl
 have hs':(s.length:Int)≤maxI:=by omega
 unfold F_msg_Decode decS
 rw[msg_Head_eq hs',bnd_some]
 by_cases h1:65535<s.length
 · have:decide ((65535:Int)<(s.length:Int))=true:=by simp;omega
   simp only[this,if_true,h1];rfl
 · have c1:decide ((65535:Int)<(s.length:Int))=false:=by simp;omega
   unfold headS
   by_cases h2:s.length<12
   · simp only[c1,h1,h2,if_true,Bool.not_false,Bool.false_eq_true,if_false];rfl
   · have n0:=msg_many_eq (s:=s) hs' (i:=0) (by omega)
     have n1:=msg_many_eq (s:=s) hs' (i:=1) (by omega)
     have n2:=msg_many_eq (s:=s) hs' (i:=2) (by omega)
     have n3:=msg_many_eq (s:=s) hs' (i:=3) (by omega)
     simp only[Int.natCast_zero,Int.natCast_one,Int.mul_zero,Int.mul_one,Int.add_zero,show (4:Int)+2=6 from rfl] at n0 n1
     rw[show 4+2*((2:Nat):Int)=8 from rfl,show ((2:Nat):Int)=2 from rfl] at n2
     rw[show 4+2*((3:Nat):Int)=10 from rfl,show ((3:Nat):Int)=3 from rfl] at n3
     simp only[c1,h1,h2,Bool.not_true,Bool.false_eq_true,if_false,n0,n1,n2,n3,bnd_some]
     obtain⟨r,r1,r2⟩:=dec_loop0 hs ((getS s 0 2).getD 0) ((getS s 2 2).getD 0) (cntS s 4) (cnt_le s 4) (cntS s 4) 0 12 [] (by omega) rfl
     simp only[Int.natCast_zero] at r1
     rw[r1,bnd_some]
     by_cases g1:(manyS (qS s) (cntS s 4) 12).2.2=0
     · rw[if_neg (by simpa using g1)] at r2
       subst r2
       simp only[List.nil_append]
       rw[if_neg (by simpa using g1)]
       obtain⟨r,r1,r2⟩:=dec_loop1 hs ((getS s 0 2).getD 0) ((getS s 2 2).getD 0) (manyS (qS s) (cntS s 4) 12).1 (cntS s 6) (cnt_le s 6) (cntS s 6) 0 (manyS (qS s) (cntS s 4) 12).2.1 [] (by omega) rfl
       simp only[Int.natCast_zero] at r1
       rw[r1,bnd_some]
       by_cases g2:(manyS (recS s) (cntS s 6) (manyS (qS s) (cntS s 4) 12).2.1).2.2=0
       · rw[if_neg (by simpa using g2)] at r2
         subst r2
         simp only[List.nil_append]
         rw[if_neg (by simpa using g2)]
         obtain⟨r,r1,r2⟩:=dec_loop2 hs ((getS s 0 2).getD 0) ((getS s 2 2).getD 0) (manyS (qS s) (cntS s 4) 12).1 (manyS (recS s) (cntS s 6) (manyS (qS s) (cntS s 4) 12).2.1).1 (cntS s 8) (cnt_le s 8) (cntS s 8) 0 (manyS (recS s) (cntS s 6) (manyS (qS s) (cntS s 4) 12).2.1).2.1 [] (by omega) rfl
         simp only[Int.natCast_zero] at r1
         rw[r1,bnd_some]
         by_cases g3:(manyS (recS s) (cntS s 8) (manyS (recS s) (cntS s 6) (manyS (qS s) (cntS s 4) 12).2.1).2.1).2.2=0
         · rw[if_neg (by simpa using g3)] at r2
           subst r2
           simp only[List.nil_append]
           rw[if_neg (by simpa using g3)]
           obtain⟨r,r1,r2⟩:=dec_loop3 hs ((getS s 0 2).getD 0) ((getS s 2 2).getD 0) (manyS (qS s) (cntS s 4) 12).1 (manyS (recS s) (cntS s 6) (manyS (qS s) (cntS s 4) 12).2.1).1 (manyS (recS s) (cntS s 8) (manyS (recS s) (cntS s 6) (manyS (qS s) (cntS s 4) 12).2.1).2.1).1 (cntS s 10) (cnt_le s 10) (cntS s 10) 0 (manyS (recS s) (cntS s 8) (manyS (recS s) (cntS s 6) (manyS (qS s) (cntS s 4) 12).2.1).2.1).2.1 [] (by omega) rfl
           simp only[Int.natCast_zero] at r1
           rw[r1,bnd_some]
           by_cases g4:(manyS (recS s) (cntS s 10) (manyS (recS s) (cntS s 8) (manyS (recS s) (cntS s 6) (manyS (qS s) (cntS s 4) 12).2.1).2.1).2.1).2.2=0
           · rw[if_neg (by simpa using g4)] at r2
             subst r2
             simp only[List.nil_append,g4,ne_eq,not_true_eq_false,if_false]
             generalize manyS (recS s) (cntS s 10) (manyS (recS s) (cntS s 8) (manyS (recS s) (cntS s 6) (manyS (qS s) (cntS s 4) 12).2.1).2.1).2.1=z
             by_cases g5:z.2.1=s.length
             · have g6:(z.2.1 != (s.length:Int))=false:=by simp[g5]
               simp only[g5,g6,Bool.false_eq_true,if_false,not_true_eq_false]
               rw[←g5]
               simp
             · have g6:(z.2.1 != (s.length:Int))=true:=by simp[g5]
               simp only[g5,g6,if_true,not_false_eq_true]
               rfl
           · rw[if_pos g4] at r2
             obtain⟨x,rfl⟩:=r2
             rw[if_pos g4]
             rfl
         · rw[if_pos g3] at r2
           obtain⟨x,rfl⟩:=r2
           rw[if_pos g3]
           rfl
       · rw[if_pos g2] at r2
         obtain⟨x,rfl⟩:=r2
         rw[if_pos g2]
         rfl
     · rw[if_pos g1] at r2
       obtain⟨x,rfl⟩:=r2
       rw[if_pos g1]
       rfl
instance:DecidableEq Qt:=inferInstanceAs (DecidableEq (List UInt8×Int×Int))
instance:DecidableEq RRt:=inferInstanceAs (DecidableEq (List UInt8×Int×Int×Int×List UInt8))
abbrev Mt2:=List RRt×List RRt
instance:DecidableEq Mt2:=inferInstanceAs (DecidableEq (List RRt×List RRt))
abbrev Mt3:=List Qt×List RRt×Mt2
instance:DecidableEq Mt3:=inferInstanceAs (DecidableEq (List Qt×List RRt×Mt2))
instance:DecidableEq Mt:=inferInstanceAs (DecidableEq (Int×Int×Mt3))
def fewM (m:Mt):Prop:=(m.2.2.1.length:Int)≤maxI∧(m.2.2.2.1.length:Int)≤maxI∧(m.2.2.2.2.1.length:Int)≤maxI∧(m.2.2.2.2.2.length:Int)≤maxI
theorem many_len {α:Type} {f:Int→α×Int×Int}:∀(n:Nat) (a:Int),(manyS f n a).1.length≤n
 | 0,a=>by simp[manyS]
 | n+1,a=>by
  have:=many_len (f:=f) n (f a).2.1
  by_cases h:(f a).2.2=0
  · rw[manyS_ok h]
    split
    · simp
    · simp;omega
  · rw[manyS_bad h];simp
theorem decS_few (s:List UInt8):fewM (decS s).1:=by
 have hm:maxI=9223372036854775807:=rfl
 have key:∀{n k:Nat},n≤k→k≤65535→(n:Int)≤maxI:=by intro n k h1 h2;omega
 have c4:=cnt_le s 4
 have c6:=cnt_le s 6
 have c8:=cnt_le s 8
 have c10:=cnt_le s 10
 have h0:fewM m0:=⟨by simp[m0,maxI],by simp[m0,maxI],by simp[m0,maxI],by simp[m0,maxI]⟩
 unfold decS
 split
 · exact h0
 split
 · exact h0
 split
 · exact h0
 split
 · exact h0
 split
 · exact h0
 split
 · exact h0
 split
 · exact h0
 exact⟨key (many_len _ _) c4,key (many_len _ _) c6,key (many_len _ _) c8,key (many_len _ _) c10⟩
end Go.Abs

namespace Go.Abs
open Go
theorem all_loop {α ρ:Type} {ok:α→Bool} {bad:Nat→ρ} {step:Int→Option (Int ⊕ (ρ ⊕ Unit))} (l:List α)
 (hend:step (l.length:Int)=some (.inr (.inr ())))
 (hst:∀(i:Nat) (x:α),l[i]? = some x→step (i:Int)=if ok x=true then some (.inl ((i+1:Nat):Int)) else some (.inr (.inl (bad i)))) :
 ∃r,loopS step 0=some r∧(if l.all ok=true then r=.inr () else ∃i,r=.inl (bad i)):=by
 have key:∀(v u:List α),l=u++v→∃r,loopS step (u.length:Int)=some r∧(if v.all ok=true then r=.inr () else ∃i,r=.inl (bad i)):=by
  intro v
  induction v with
  | nil =>
   intro u h
   rw[List.append_nil] at h
   subst h
   exact⟨.inr (),loopS_out hend,by simp⟩
  | cons x v ih =>
   intro u h
   have hs:=hst u.length x (by rw[h];simp)
   by_cases hx:ok x=true
   · rw[if_pos hx] at hs
     obtain⟨r,r1,r2⟩:=ih (u++[x]) (by rw[h];simp)
     refine⟨r,?_,?_⟩
     · rw[loopS_next hs]
       simpa using r1
     · simpa[hx] using r2
   · rw[if_neg hx] at hs
     refine⟨.inl (bad u.length),loopS_out hs,?_⟩
     rw[if_neg (by simp[hx])]
     exact⟨_,rfl⟩
 exact key l [] rfl
def okQ (q:Qt):Bool:=nameS q.1&&inC q.2.1 65535&&inC q.2.2 65535
def checkM (m:Mt):Bool:=inC m.1 65535&&inC m.2.1 65535&&inC (m.2.2.1.length:Int) 65535&&m.2.2.1.all okQ&&inC (m.2.2.2.1.length:Int) 65535&&m.2.2.2.1.all recC&&inC (m.2.2.2.2.1.length:Int) 65535&&m.2.2.2.2.1.all recC&&inC (m.2.2.2.2.2.length:Int) 65535&&m.2.2.2.2.2.all recC
theorem ref08_small_eq (n:Int):F_ref08_small n=some (inC n 65535):=by
 unfold F_ref08_small inC
 by_cases h:0≤n<;>simp[h]
theorem ref08_records_eq {l:List RRt} (hl:(l.length:Int)≤maxI):F_ref08_records l=some (inC (l.length:Int) 65535&&l.all recC):=by
 have hm:maxI=9223372036854775807:=rfl
 unfold F_ref08_records
 obtain⟨r,r1,r2⟩:=all_loop (ok:=recC) (bad:=fun _=>false) (step:=step_ref08_records_0 l) l (by simp[step_ref08_records_0,grdEq_self]) (fun i x hx=>by
  have hi:=(List.getElem?_eq_some_iff.1 hx).1
  have e:F_ref06_Check (x.fst,x.snd.fst,x.snd.snd.fst,x.snd.snd.snd.fst,x.snd.snd.snd.snd)=some (recC x):=ref06_Check_eq x
  simp only[step_ref08_records_0,natOf_nat,hx,bnd_some,e,grdEq_self]
  rw[if_pos (by simp;omega),wrap_id (by omega) (by omega)]
  cases recC x<;>simp)
 rw[r1,bnd_some]
 by_cases h:l.all recC=true
 · rw[if_pos h] at r2
   subst r2
   simp only[ref08_small_eq,bnd_some,h,Bool.and_true]
 · rw[if_neg h] at r2
   obtain⟨i,rfl⟩:=r2
   simp only[Bool.not_eq_true] at h
   simp only[h,Bool.and_false]
theorem ref08_Check_eq {m:Mt} (hf:fewM m):F_ref08_Check m=some (checkM m):=by
 have hm:maxI=9223372036854775807:=rfl
 obtain⟨f1,f2,f3,f4⟩:=hf
 unfold F_ref08_Check
 obtain⟨r,r1,r2⟩:=all_loop (ok:=okQ) (bad:=fun _=>false) (step:=step_ref08_Check_0 m) m.2.2.1 (by simp[step_ref08_Check_0,grdEq_self]) (fun i x hx=>by
  have hi:=(List.getElem?_eq_some_iff.1 hx).1
  simp only[step_ref08_Check_0,natOf_nat,hx,bnd_some,ref02_Check_eq,ref08_small_eq,grdEq_self,okQ]
  rw[if_pos (by simp;omega),wrap_id (by omega) (by omega)]
  by_cases b1:nameS x.1=true<;>by_cases b2:inC x.2.1 65535=true<;>by_cases b3:inC x.2.2 65535=true<;>simp[b1,b2,b3])
 rw[r1,bnd_some]
 by_cases h:m.2.2.1.all okQ=true
 · rw[if_pos h] at r2
   subst r2
   simp only[ref08_small_eq,ref08_records_eq f2,ref08_records_eq f3,ref08_records_eq f4,bnd_some,checkM,h,Bool.and_true]
   cases inC m.1 65535<;>cases inC m.2.1 65535<;>cases inC (m.2.2.1.length:Int) 65535<;>cases inC (m.2.2.2.1.length:Int) 65535<;>cases m.2.2.2.1.all recC<;>cases inC (m.2.2.2.2.1.length:Int) 65535<;>cases m.2.2.2.2.1.all recC<;>cases inC (m.2.2.2.2.2.length:Int) 65535<;>cases m.2.2.2.2.2.all recC<;>rfl
 · rw[if_neg h] at r2
   obtain⟨i,rfl⟩:=r2
   simp only[Bool.not_eq_true] at h
   simp only[checkM,h,Bool.and_false,Bool.false_and]
def baseM (m:Mt):List UInt8:=match m.2.2.1 with | []=>[0] | q::_=>q.1
def encQ (q:Qt):List UInt8:=q.1++put2 q.2.1++put2 q.2.2
def headE (m:Mt):List UInt8:=put2 m.1++put2 m.2.1++put2 (m.2.2.1.length:Int)++put2 (m.2.2.2.1.length:Int)++put2 (m.2.2.2.2.1.length:Int)++put2 (m.2.2.2.2.2.length:Int)
def encF (base:List UInt8):List RRt→List UInt8→List UInt8
 | [],s=>s
 | r::l,s=>if 65535<s.length then s else encF base l (s++recE base 12 r)
def encM (m:Mt):List UInt8×Int :=
 if checkM m=false then ([],1)
 else if 65535<(encF (baseM m) (m.2.2.2.1++m.2.2.2.2.1++m.2.2.2.2.2) (headE m++(m.2.2.1.map encQ).flatten)).length then ([],6)
 else (encF (baseM m) (m.2.2.2.1++m.2.2.2.2.1++m.2.2.2.2.2) (headE m++(m.2.2.1.map encQ).flatten),0)
theorem checkM_iff {m:Mt} (h:checkM m=true):(0≤m.1∧m.1≤65535)∧(0≤m.2.1∧m.2.1≤65535)∧m.2.2.1.length≤65535∧(∀q∈m.2.2.1,okQ q=true)∧m.2.2.2.1.length≤65535∧(∀r∈m.2.2.2.1,recC r=true) ∧
 m.2.2.2.2.1.length≤65535∧(∀r∈m.2.2.2.2.1,recC r=true)∧m.2.2.2.2.2.length≤65535∧(∀r∈m.2.2.2.2.2,recC r=true):=by
 unfold checkM inC at h
 simp only[Bool.and_eq_true,decide_eq_true_eq,List.all_eq_true] at h
 obtain⟨⟨⟨⟨⟨⟨⟨⟨⟨h1,h2⟩,h3⟩,h4⟩,h5⟩,h6⟩,h7⟩,h8⟩,h9⟩,h10⟩:=h
 exact⟨h1,h2,by omega,h4,by omega,h6,by omega,h8,by omega,h10⟩
theorem okQ_iff {q:Qt} (h:okQ q=true):nameS q.1=true∧(0≤q.2.1∧q.2.1≤65535)∧(0≤q.2.2∧q.2.2≤65535):=by
 unfold okQ inC at h
 simp only[Bool.and_eq_true,decide_eq_true_eq] at h
 exact⟨h.1.1,h.1.2,h.2⟩
theorem encQ_len {q:Qt} (h:okQ q=true):(encQ q).length≤259:=by
 have:=(nameS_pos (okQ_iff h).1).2
 simp[encQ,put2];omega
theorem encQs_len:∀{l:List Qt},(∀q∈l,okQ q=true)→(l.map encQ).flatten.length≤259*l.length
 | [],_=>by simp
 | q::l,h=>by
  have h1:=encQ_len (h q (by simp))
  have h2:=encQs_len (l:=l) (fun x hx=>h x (by simp[hx]))
  simp only[List.map_cons,List.flatten_cons,List.length_append,List.length_cons]
  omega
theorem ref_enc_loop0 {m:Mt} (hq:∀q∈m.2.2.1,okQ q=true) (hl:m.2.2.1.length≤65535) {S:List UInt8} (hS:S.length≤1000):∀(v u:List Qt),m.2.2.1=u++v →
 loopS (step_ref08_Encode_0 m) (S++(u.map encQ).flatten,(u.length:Int))=some (S++(m.2.2.1.map encQ).flatten)
 | [],u,h=>by
  rw[List.append_nil] at h
  refine loopS_out ?_
  simp only[step_ref08_Encode_0,grdEq_self,h]
  rw[if_neg (by simp)]
 | x::v,u,h=>by
  have hg:m.2.2.1[u.length]? = some x:=by rw[h];simp
  have hxm:x∈m.2.2.1:=by rw[h];simp
  obtain⟨x1,x2,x3⟩:=okQ_iff (hq x hxm)
  have hxl:=(nameS_pos x1).2
  have hul:u.length<m.2.2.1.length:=by rw[h];simp
  have hel:=encQs_len (l:=u) (fun q hq'=>hq q (by rw[h];simp[hq']))
  have c0:decide ((u.length:Int)<(m.2.2.1.length:Int))=true:=by simp;omega
  have hp2:∀x,(put2 x).length=2:=fun _=>rfl
  have hfl:(S++(u.map encQ).flatten).length≤17000000:=by simp only[List.length_append];omega
  rw[loopS_next (y:=(S++((u++[x]).map encQ).flatten,((u++[x]).length:Int)))]
  · exact ref_enc_loop0 hq hl hS v (u++[x]) (by rw[h];simp)
  · simp only[step_ref08_Encode_0,c0,if_true,natOf_nat,hg,bnd_some,grdEq_self,ref_put2 x2.1 (by omega),ref_put2 x3.1 (by omega)]
    rw[grdp (by unfold maxStr;omega),grdp (by unfold maxStr;simp only[List.length_append,hp2] at hfl ⊢;omega),grdp (by unfold maxStr;simp only[List.length_append,hp2] at hfl ⊢;omega),wrap_id (by omega) (by omega)]
    simp[encQ]
end Go.Abs

namespace Go.Abs
open Go
theorem ref08_Base_eq (m:Mt):F_ref08_Base m=some (baseM m):=by
 unfold F_ref08_Base baseM
 cases h:m.2.2.1 with
 | nil=>rfl
 | cons q l=>simp[bnd_some]
theorem ref_enc_loop1 {m:Mt} {all:List RRt} (hb:((baseM m).length:Int)≤maxI) (hl:all.length≤1000000) (hr:∀r∈all,recC r=true):∀(v u:List RRt) (s:List UInt8),all=u++v→s.length≤18000000 →
 loopS (step_ref08_Encode_1 m) (s,(all,(u.length:Int)))=some (encF (baseM m) v s)
 | [],u,s,h,hs=>by
  rw[List.append_nil] at h
  refine loopS_out ?_
  simp only[step_ref08_Encode_1,grdEq_self,h,encF,bnd_some]
  rw[if_neg (by simp)]
  rfl
 | x::v,u,s,h,hs=>by
  have hg:all[u.length]? = some x:=by rw[h];simp
  have hul:u.length<all.length:=by rw[h];simp
  have c0:decide ((u.length:Int)<(all.length:Int))=true:=by simp;omega
  have hx:=hr x (by rw[h];simp)
  have h1:=recE_len (base:=baseM m) (r:=x)
  have h2:=(dataC_iff (recC_iff hx).2.2.2.2).1
  have hB:F_ref08_Base (m.fst,m.snd.fst,m.snd.snd.fst,m.snd.snd.snd.fst,m.snd.snd.snd.snd.fst,m.snd.snd.snd.snd.snd)=some (baseM m):=ref08_Base_eq m
  have hE:F_ref06_Encode (baseM m) 12 (x.fst,x.snd.fst,x.snd.snd.fst,x.snd.snd.snd.fst,x.snd.snd.snd.snd)=some (recE (baseM m) 12 x):=ref06_Encode_eq _ _ _
  by_cases hlong:65535<s.length
  · have c1:decide ((s.length:Int)≤65535)=false:=by simp;omega
    refine (loopS_out (y:=s) ?_).trans (by rw[encF,if_pos hlong])
    simp only[step_ref08_Encode_1,c0,c1,if_true,natOf_nat,hg,bnd_some,grdEq_self,Bool.false_eq_true,if_false]
  · have c1:decide ((s.length:Int)≤65535)=true:=by simp;omega
    rw[loopS_next (y:=(s++recE (baseM m) 12 x,(all,((u++[x]).length:Int))))]
    · rw[ref_enc_loop1 hb hl hr v (u++[x]) _ (by rw[h];simp) (by simp only[List.length_append];omega),encF,if_neg hlong]
    · simp only[step_ref08_Encode_1,c0,c1,if_true,natOf_nat,hg,bnd_some,grdEq_self,Bool.false_eq_true,if_false,hB,hE]
      rw[grdp (by unfold maxStr;omega),wrap_id (by omega) (by omega)]
      simp
theorem baseM_len {m:Mt} (hq:∀q∈m.2.2.1,okQ q=true):(baseM m).length≤255:=by
 unfold baseM
 cases h:m.2.2.1 with
 | nil=>simp
 | cons q l=>exact (nameS_pos (okQ_iff (hq q (by rw[h];simp))).1).2
theorem headE_len (m:Mt):(headE m).length=12:=rfl
theorem ref08_Encode_eq {m:Mt} (hf:fewM m):F_ref08_Encode m=some (encM m):=by
 have hm:maxI=9223372036854775807:=rfl
 unfold F_ref08_Encode encM
 have hck:F_ref08_Check (m.fst,m.snd.fst,m.snd.snd.fst,m.snd.snd.snd.fst,m.snd.snd.snd.snd.fst,m.snd.snd.snd.snd.snd)=some (checkM m):=ref08_Check_eq (m:=m) hf
 rw[hck,bnd_some]
 cases hc:checkM m with
 | false=>rfl
 | true =>
  obtain⟨c1,c2,c3,c4,c5,c6,c7,c8,c9,c10⟩:=checkM_iff hc
  have hp2:∀x,(put2 x).length=2:=fun _=>rfl
  have hbl:=baseM_len c4
  simp only[Bool.not_true,Bool.false_eq_true,if_false,Bool.true_eq_false]
  rw[ref_put2 c1.1 (by omega),bnd_some,ref_put2 c2.1 (by omega),bnd_some,grdp (by unfold maxStr;simp only[hp2];omega),ref_put2 (by omega) (by omega),bnd_some,grdp (by unfold maxStr;simp only[List.length_append,hp2];omega),
   ref_put2 (by omega) (by omega),bnd_some,grdp (by unfold maxStr;simp only[List.length_append,hp2];omega),ref_put2 (by omega) (by omega),bnd_some,grdp (by unfold maxStr;simp only[List.length_append,hp2];omega),
   ref_put2 (by omega) (by omega),bnd_some,grdp (by unfold maxStr;simp only[List.length_append,hp2];omega)]
  have hh:put2 m.fst++put2 m.snd.fst++put2 (m.snd.snd.fst.length:Int)++put2 (m.snd.snd.snd.fst.length:Int)++put2 (m.snd.snd.snd.snd.fst.length:Int)++put2 (m.snd.snd.snd.snd.snd.length:Int)=headE m:=rfl
  rw[hh]
  have l0:=ref_enc_loop0 (m:=m) c4 c3 (S:=headE m) (by rw[headE_len];omega) m.2.2.1 [] rfl
  simp only[List.map_nil,List.flatten_nil,List.append_nil,List.length_nil,Int.natCast_zero] at l0
  rw[l0,bnd_some]
  have hel:=encQs_len c4
  have hs0:(headE m++(m.2.2.1.map encQ).flatten).length≤17000000:=by simp only[List.length_append,headE_len];omega
  generalize headE m++(m.2.2.1.map encQ).flatten=s0 at *
  rw[grdp (by unfold roomLim;omega),grdp (by unfold roomLim;omega),grdp (by unfold roomLim;simp only[List.length_append];omega)]
  have l1:=ref_enc_loop1 (m:=m) (all:=m.2.2.2.1++m.2.2.2.2.1++m.2.2.2.2.2) (by omega) (by simp only[List.length_append];omega) (by
   intro r hr
   simp only[List.mem_append] at hr
   rcases hr with (h | h) | h
   · exact c6 r h
   · exact c8 r h
   · exact c10 r h) _ [] s0 rfl (by omega)
  simp only[List.length_nil,Int.natCast_zero] at l1
  rw[l1,bnd_some]
  generalize encF (baseM m) (m.2.2.2.1++m.2.2.2.2.1++m.2.2.2.2.2) s0=s3 at *
  by_cases h:65535<s3.length
  · rw[if_pos (by simp;omega),if_pos h]
  · rw[if_neg (by simp;omega),if_neg h]
def fewR (r:RRt):Bool:=decide (r.1.length≤300)&&decide (r.2.2.2.2.length≤70000)
def smallM (m:Mt):Bool:=!decide (200<IntKind.i64.wrap (IntKind.i64.wrap (IntKind.i64.wrap ((m.2.2.1.length:Int)+(m.2.2.2.1.length:Int))+(m.2.2.2.2.1.length:Int))+(m.2.2.2.2.2.length:Int))) &&
 m.2.2.1.all (fun q=>decide (q.1.length≤300))&&m.2.2.2.1.all fewR&&m.2.2.2.2.1.all fewR&&m.2.2.2.2.2.all fewR
theorem ref08_few_eq {l:List RRt} (hl:(l.length:Int)≤maxI):F_ref08_few l=some (l.all fewR):=by
 have hm:maxI=9223372036854775807:=rfl
 unfold F_ref08_few
 obtain⟨r,r1,r2⟩:=all_loop (ok:=fewR) (bad:=fun _=>false) (step:=step_ref08_few_0 l) l (by simp[step_ref08_few_0,grdEq_self]) (fun i x hx=>by
  have hi:=(List.getElem?_eq_some_iff.1 hx).1
  simp only[step_ref08_few_0,natOf_nat,hx,bnd_some,grdEq_self,fewR]
  rw[if_pos (by simp;omega),wrap_id (by omega) (by omega)]
  by_cases b1:x.1.length≤300
  · have e1:¬(300:Int)<(x.1.length:Int):=by omega
    by_cases b2:x.2.2.2.2.length≤70000
    · have e2:¬(70000:Int)<(x.2.2.2.2.length:Int):=by omega
      simp[b1,b2,e1,e2]
    · have e2:(70000:Int)<(x.2.2.2.2.length:Int):=by omega
      simp[b1,b2,e1,e2]
  · have e1:(300:Int)<(x.1.length:Int):=by omega
    simp[b1,e1])
 rw[r1,bnd_some]
 by_cases h:l.all fewR=true
 · rw[if_pos h] at r2
   subst r2
   simp only[h]
 · rw[if_neg h] at r2
   obtain⟨i,rfl⟩:=r2
   simp only[Bool.not_eq_true] at h
   simp only[h]
theorem ref08_Small_eq {m:Mt} (hf:fewM m):F_ref08_Small m=some (smallM m):=by
 have hm:maxI=9223372036854775807:=rfl
 obtain⟨f1,f2,f3,f4⟩:=hf
 unfold F_ref08_Small smallM
 generalize decide (200<IntKind.i64.wrap (IntKind.i64.wrap (IntKind.i64.wrap ((m.2.2.1.length:Int)+(m.2.2.2.1.length:Int))+(m.2.2.2.2.1.length:Int))+(m.2.2.2.2.2.length:Int)))=c
 cases c with
 | true=>rfl
 | false =>
  obtain⟨r,r1,r2⟩:=all_loop (ok:=fun q:Qt=>decide (q.1.length≤300)) (bad:=fun _=>false) (step:=step_ref08_Small_0 m) m.2.2.1 (by simp[step_ref08_Small_0,grdEq_self]) (fun i x hx=>by
   have hi:=(List.getElem?_eq_some_iff.1 hx).1
   simp only[step_ref08_Small_0,natOf_nat,hx,bnd_some,grdEq_self]
   rw[if_pos (by simp;omega),wrap_id (by omega) (by omega)]
   by_cases b1:x.1.length≤300
   · have e1:¬(300:Int)<(x.1.length:Int):=by omega
     simp[b1,e1]
   · have e1:(300:Int)<(x.1.length:Int):=by omega
     simp[b1,e1])
  simp only[Bool.false_eq_true,if_false]
  rw[r1,bnd_some]
  by_cases h:m.2.2.1.all (fun q=>decide (q.1.length≤300))=true
  · rw[if_pos h] at r2
    subst r2
    simp only[h,ref08_few_eq f2,ref08_few_eq f3,ref08_few_eq f4,bnd_some]
    cases m.2.2.2.1.all fewR<;>cases m.2.2.2.2.1.all fewR<;>cases m.2.2.2.2.2.all fewR<;>rfl
  · rw[if_neg h] at r2
    obtain⟨i,rfl⟩:=r2
    simp only[Bool.not_eq_true] at h
    simp only[h,Bool.and_false,Bool.false_and]
theorem few_of {m:Mt} (w:wfd tM m):fewM m:=by
 obtain⟨_,_,⟨w1,_⟩,⟨w2,_⟩,⟨w3,_⟩,⟨w4,_⟩⟩:=w
 have hl:maxLen=9223372036854775807:=rfl
 have hm:maxI=9223372036854775807:=rfl
 rw[hl] at w1 w2 w3 w4
 exact⟨by omega,by omega,by omega,by omega⟩
end Go.Abs

namespace Go.Abs
open Go
theorem encF_short {base:List UInt8}:∀(l:List RRt) (s:List UInt8),(encF base l s).length≤65535→encF base l s=s++encs base l
 | [],s,_=>by simp[encF,encs]
 | r::l,s,h=>by
  unfold encF at h ⊢
  split at h
  · rename_i h1;omega
  · rename_i h1
    rw[if_neg h1,encF_short l _ h,encs_cons]
    simp
theorem qS_enc {s:List UInt8} {q:Qt} {a n:Int} (hq:okQ q=true) (h:takeS s a n=some (encQ q)):qS s a=(q,a+(encQ q).length,0):=by
 obtain⟨q1,q2,q3⟩:=okQ_iff hq
 unfold encQ at h
 rw[List.append_assoc] at h
 obtain⟨h1,h2⟩:=takeS_app h
 have p2:∀x,((put2 x).length:Int)=2:=fun _=>rfl
 obtain⟨h3,h4⟩:=takeS_app h2
 have g1:=getS_put2 h2 q2.1 (by omega)
 rw[p2] at h4
 have g2:=getS_put2 (t:=[]) (by rw[List.append_nil];exact h4) q3.1 (by omega)
 have hr:=readS_plain q1 h1
 unfold qS
 rw[hr]
 simp only[ne_eq,not_true_eq_false,if_false,g1,g2]
 refine Prod.ext rfl (Prod.ext ?_ rfl)
 simp[encQ,put2]
 omega
theorem many_enc {α:Type} {f:Int→α×Int×Int} {s:List UInt8} {enc:α→List UInt8} {g:α→α}:∀(l:List α) (a n:Int) (r:List UInt8) (b:Int),(∀x∈l,∀(i m:Int),b≤i→takeS s i m=some (enc x)→f i=(g x,i+(enc x).length,0))→b≤a →
 takeS s a n=some ((l.map enc).flatten++r)→manyS f l.length a=(l.map g,a+((l.map enc).flatten).length,0)
 | [],a,n,r,b,_,_,_=>by simp[manyS]
 | x::l,a,n,r,b,hf,hb,h=>by
  rw[List.map_cons,List.flatten_cons,List.append_assoc] at h
  obtain⟨h1,h2⟩:=takeS_app h
  have hx:=hf x (by simp) a _ hb h1
  have ih:=many_enc l (a+(enc x).length) _ r b (fun y hy=>hf y (by simp[hy])) (by omega) h2
  rw[List.length_cons,manyS_ok (by rw[hx]),hx]
  simp only
  rw[ih]
  simp only[ne_eq,not_true_eq_false,if_false,List.map_cons,List.flatten_cons,List.length_append]
  refine Prod.ext rfl (Prod.ext ?_ rfl)
  simp only
  omega
def backR (base:List UInt8) (r:RRt):RRt:=(backS base r.1,r.2)
def backM (m:Mt):Mt:=(m.1,m.2.1,m.2.2.1,m.2.2.2.1.map (backR (baseM m)),m.2.2.2.2.1.map (backR (baseM m)),m.2.2.2.2.2.map (backR (baseM m)))
theorem encs_eq (base:List UInt8) (l:List RRt):encs base l=(l.map (recE base 12)).flatten:=rfl
theorem baseM_name {m:Mt} (hq:∀q∈m.2.2.1,okQ q=true):nameS (baseM m)=true:=by
 unfold baseM
 cases h:m.2.2.1 with
 | nil=>simp[nameS,lab_root]
 | cons q l=>exact (okQ_iff (hq q (by rw[h];simp))).1
def wholeE (m:Mt):List UInt8:=headE m++((m.2.2.1.map encQ).flatten++(encs (baseM m) m.2.2.2.1++(encs (baseM m) m.2.2.2.2.1++encs (baseM m) m.2.2.2.2.2)))
theorem encM_ok {m:Mt} (h:(encM m).2=0):checkM m=true∧encM m=(wholeE m,0)∧(wholeE m).length≤65535:=by
 unfold encM at h ⊢
 cases hc:checkM m with
 | false=>rw[hc] at h;simp at h
 | true =>
  rw[hc] at h
  simp only[Bool.true_eq_false,if_false] at h ⊢
  split at h
  · simp at h
  · rename_i hl
    have e:encF (baseM m) (m.2.2.2.1++m.2.2.2.2.1++m.2.2.2.2.2) (headE m++(m.2.2.1.map encQ).flatten)=wholeE m:=by
     rw[encF_short _ _ (by omega),encs_app,encs_app]
     simp[wholeE]
    rw[if_neg hl,e]
    rw[e] at hl
    exact⟨trivial,rfl,by omega⟩
theorem dec_parts {m:Mt} {s r:List UInt8} (hc:checkM m=true) (hs:s=wholeE m++r) :
 (getS s 0 2).getD 0=m.1∧(getS s 2 2).getD 0=m.2.1 ∧
 manyS (qS s) (cntS s 4) 12=(m.2.2.1,12+((m.2.2.1.map encQ).flatten.length:Int),0) ∧
 manyS (recS s) (cntS s 6) (12+((m.2.2.1.map encQ).flatten.length:Int))=(m.2.2.2.1.map (backR (baseM m)),12+((m.2.2.1.map encQ).flatten.length:Int)+((encs (baseM m) m.2.2.2.1).length:Int),0) ∧
 manyS (recS s) (cntS s 8) (12+((m.2.2.1.map encQ).flatten.length:Int)+((encs (baseM m) m.2.2.2.1).length:Int)) =
  (m.2.2.2.2.1.map (backR (baseM m)),12+((m.2.2.1.map encQ).flatten.length:Int)+((encs (baseM m) m.2.2.2.1).length:Int)+((encs (baseM m) m.2.2.2.2.1).length:Int),0) ∧
 manyS (recS s) (cntS s 10) (12+((m.2.2.1.map encQ).flatten.length:Int)+((encs (baseM m) m.2.2.2.1).length:Int)+((encs (baseM m) m.2.2.2.2.1).length:Int)) =
  (m.2.2.2.2.2.map (backR (baseM m)),((wholeE m).length:Int),0):=by
 obtain⟨c1,c2,c3,c4,c5,c6,c7,c8,c9,c10⟩:=checkM_iff hc
 have p2:∀x,((put2 x).length:Int)=2:=fun _=>rfl
 have hall:takeS s 0 (wholeE m).length=some (wholeE m):=by
  rw[hs]
  have:=takeS_mid [] (wholeE m) r
  simpa using this
 have hh:=hall
 unfold wholeE at hh
 obtain⟨hh,hq⟩:=takeS_app hh
 rw[headE_len,Int.zero_add] at hq
 unfold headE at hh
 simp only[List.append_assoc] at hh
 have g0:=getS_put2 hh c1.1 (by omega)
 obtain⟨_,h2⟩:=takeS_app hh
 rw[p2] at h2
 have g2:=getS_put2 h2 c2.1 (by omega)
 obtain⟨_,h4⟩:=takeS_app h2
 rw[p2] at h4
 have g4:=getS_put2 h4 (by omega) (by omega)
 obtain⟨_,h6⟩:=takeS_app h4
 rw[p2] at h6
 have g6:=getS_put2 h6 (by omega) (by omega)
 obtain⟨_,h8⟩:=takeS_app h6
 rw[p2] at h8
 have g8:=getS_put2 h8 (by omega) (by omega)
 obtain⟨_,h10⟩:=takeS_app h8
 rw[p2] at h10
 have g10:=getS_put2 (t:=[]) (by rw[List.append_nil];exact h10) (by omega) (by omega)
 simp only[Int.zero_add] at g2 g4 g6 g8 g10
 have k4:cntS s 4=m.2.2.1.length:=by unfold cntS;rw[show (4:Int)=2+2 from rfl,g4];simp
 have k6:cntS s 6=m.2.2.2.1.length:=by unfold cntS;rw[show (6:Int)=2+2+2 from rfl,g6];simp
 have k8:cntS s 8=m.2.2.2.2.1.length:=by unfold cntS;rw[show (8:Int)=2+2+2+2 from rfl,g8];simp
 have k10:cntS s 10=m.2.2.2.2.2.length:=by unfold cntS;rw[show (10:Int)=2+2+2+2+2 from rfl,g10];simp
 have hbn:=baseM_name c4
 have hne:∀r:RRt,recC r=true→recE (baseM m) 12 r≠[]:=fun r hr e=>by
  rcases recE_nil.1 e with e | e
  · rw[hr] at e;simp at e
  · rw[hbn] at e;simp at e
 have hrec:∀r:RRt,recC r=true→∀(i n:Int),12+((m.2.2.1.map encQ).flatten.length:Int)≤i→takeS s i n=some (recE (baseM m) 12 r)→recS s i=(backR (baseM m) r,i+(recE (baseM m) 12 r).length,0):=by
  intro r hr i n hi ht
  cases hQ:m.2.2.1 with
  | nil =>
   have hb:baseM m=[0]:=by unfold baseM;rw[hQ]
   have hn:=hne r hr
   rw[hb] at ht hn ⊢
   exact (recS_root hn ht).1
  | cons q l =>
   have hb:baseM m=q.1:=by unfold baseM;rw[hQ]
   have hn:=hne r hr
   have hqq:=hq
   rw[hQ] at hqq hi
   rw[List.map_cons,List.flatten_cons] at hqq hi
   have he:encQ q=q.1++(put2 q.2.1++put2 q.2.2):=by simp[encQ]
   rw[he] at hqq hi
   simp only[List.append_assoc] at hqq hi
   have htb:=(takeS_app hqq).1
   rw[hb] at ht hn ⊢
   exact (recS_enc htb (by simp only[List.length_append] at hi;omega) hn ht).1
 obtain⟨hq0,ha⟩:=takeS_app hq
 obtain⟨_,hn⟩:=takeS_app ha
 obtain⟨_,hr⟩:=takeS_app hn
 refine⟨by rw[g0];rfl,by rw[g2];rfl,?_,?_,?_,?_⟩
 · rw[k4]
   have:=many_enc (f:=qS s) (s:=s) (enc:=encQ) (g:=fun q=>q) m.2.2.1 12 _ _ 12 (fun q hq i n hi ht=>qS_enc (c4 q hq) ht) (by omega) hq
   simpa using this
 · rw[k6]
   exact many_enc (f:=recS s) (s:=s) (enc:=recE (baseM m) 12) (g:=backR (baseM m)) m.2.2.2.1 _ _ _ _ (fun r hr i n hi ht=>hrec r (c6 r hr) i n hi ht) (Int.le_refl _) ha
 · rw[k8]
   exact many_enc (f:=recS s) (s:=s) (enc:=recE (baseM m) 12) (g:=backR (baseM m)) m.2.2.2.2.1 _ _ _ (12+((m.2.2.1.map encQ).flatten.length:Int)) (fun r hr i n hi ht=>hrec r (c8 r hr) i n hi ht) (by omega) hn
 · rw[k10]
   have:=many_enc (f:=recS s) (s:=s) (enc:=recE (baseM m) 12) (g:=backR (baseM m)) m.2.2.2.2.2 (12+((m.2.2.1.map encQ).flatten.length:Int)+((encs (baseM m) m.2.2.2.1).length:Int)+((encs (baseM m) m.2.2.2.2.1).length:Int)) _ [] (12+((m.2.2.1.map encQ).flatten.length:Int)) (fun r hr i n hi ht=>hrec r (c10 r hr) i n hi ht) (by omega) (by rw[List.append_nil];exact hr)
   rw[this]
   refine Prod.ext rfl (Prod.ext ?_ rfl)
   simp only[wholeE,List.length_append,headE_len,encs_eq]
   omega
theorem dec_enc {m:Mt} (h:(encM m).2=0):decS (encM m).1=(backM m,0):=by
 obtain⟨hc,he,hl⟩:=encM_ok h
 rw[he]
 simp only
 obtain⟨g0,g1,d1,d2,d3,d4⟩:=dec_parts (m:=m) (s:=wholeE m) (r:=[]) hc (by simp)
 have hlen:12≤(wholeE m).length:=by simp only[wholeE,List.length_append,headE_len];omega
 unfold decS
 rw[if_neg (by omega),if_neg (by omega),d1]
 simp only[ne_eq,not_true_eq_false,if_false]
 rw[d2]
 simp only[not_true_eq_false,if_false]
 rw[d3]
 simp only[not_true_eq_false,if_false]
 rw[d4]
 simp only[not_true_eq_false,if_false,g0,g1]
 rfl
theorem encM_err {m:Mt} (h:(encM m).2≠0):(encM m).1=[]∧((encM m).2=6∨((encM m).2=1∧checkM m=false)):=by
 unfold encM at h ⊢
 cases hc:checkM m with
 | false=>simp
 | true =>
  rw[hc] at h
  simp only[Bool.true_eq_false,if_false] at h ⊢
  split at h
  · rename_i hl;rw[if_pos hl];simp
  · simp at h
end Go.Abs

namespace Go.Abs
open Go
theorem decS_ok {s:List UInt8} (h:(decS s).2=0):12≤s.length∧s.length≤65535 ∧
 (manyS (qS s) (cntS s 4) 12).2.2=0∧(manyS (recS s) (cntS s 6) (manyS (qS s) (cntS s 4) 12).2.1).2.2=0 ∧
 (manyS (recS s) (cntS s 8) (manyS (recS s) (cntS s 6) (manyS (qS s) (cntS s 4) 12).2.1).2.1).2.2=0 ∧
 (manyS (recS s) (cntS s 10) (manyS (recS s) (cntS s 8) (manyS (recS s) (cntS s 6) (manyS (qS s) (cntS s 4) 12).2.1).2.1).2.1).2.2=0 ∧
 (manyS (recS s) (cntS s 10) (manyS (recS s) (cntS s 8) (manyS (recS s) (cntS s 6) (manyS (qS s) (cntS s 4) 12).2.1).2.1).2.1).2.1=s.length ∧
 (decS s).1=((getS s 0 2).getD 0,(getS s 2 2).getD 0,(manyS (qS s) (cntS s 4) 12).1,(manyS (recS s) (cntS s 6) (manyS (qS s) (cntS s 4) 12).2.1).1,
 (manyS (recS s) (cntS s 8) (manyS (recS s) (cntS s 6) (manyS (qS s) (cntS s 4) 12).2.1).2.1).1,(manyS (recS s) (cntS s 10) (manyS (recS s) (cntS s 8) (manyS (recS s) (cntS s 6) (manyS (qS s) (cntS s 4) 12).2.1).2.1).2.1).1):=by
 unfold decS at h ⊢
 split at h
 · simp at h
 split at h
 · simp at h
 split at h
 · rename_i h3;exact absurd h h3
 split at h
 · rename_i h3;exact absurd h h3
 split at h
 · rename_i h3;exact absurd h h3
 split at h
 · rename_i h3;exact absurd h h3
 split at h
 · simp at h
 rename_i h1 h2 h3 h4 h5 h6 h7
 rw[if_neg h1,if_neg h2,if_neg h3,if_neg h4,if_neg h5,if_neg h6,if_neg h7]
 exact⟨by omega,by omega,Decidable.not_not.1 h3,Decidable.not_not.1 h4,Decidable.not_not.1 h5,Decidable.not_not.1 h6,Decidable.not_not.1 h7,rfl⟩
theorem checkM_mk {m:Mt} (h1:0≤m.1∧m.1≤65535) (h2:0≤m.2.1∧m.2.1≤65535) (h3:m.2.2.1.length≤65535) (h4:∀q∈m.2.2.1,okQ q=true) (h5:m.2.2.2.1.length≤65535) (h6:∀r∈m.2.2.2.1,recC r=true)
 (h7:m.2.2.2.2.1.length≤65535) (h8:∀r∈m.2.2.2.2.1,recC r=true) (h9:m.2.2.2.2.2.length≤65535) (h10:∀r∈m.2.2.2.2.2,recC r=true):checkM m=true:=by
 have i:∀{n:Int},0≤n∧n≤65535→inC n 65535=true:=fun h=>by unfold inC;rw[decide_eq_true h.1,decide_eq_true h.2];rfl
 have g:∀{n:Nat},n≤65535→inC (n:Int) 65535=true:=fun h=>i (by omega)
 unfold checkM
 rw[i h1,i h2,g h3,g h5,g h7,g h9,List.all_eq_true.2 h4,List.all_eq_true.2 h6,List.all_eq_true.2 h8,List.all_eq_true.2 h10]
 rfl
end Go.Abs

namespace Go.Abs
open Go
end Go.Abs

namespace Go.Abs
open Go
theorem encF_fit {base:List UInt8}:∀(l:List RRt) (s:List UInt8),(s++encs base l).length≤65535→encF base l s=s++encs base l
 | [],s,_=>by simp[encF,encs]
 | r::l,s,h=>by
  have e:encs base (r::l)=recE base 12 r++encs base l:=by simp[encs]
  rw[e] at h ⊢
  have hs:s.length≤65535:=by simp at h;omega
  rw[encF,if_neg (by omega),encF_fit l _ (by rw[List.append_assoc];exact h),List.append_assoc]
theorem encM_mk {m:Mt} (hc:checkM m=true) (hl:(wholeE m).length≤65535):encM m=(wholeE m,0):=by
 have e:encF (baseM m) (m.2.2.2.1++m.2.2.2.2.1++m.2.2.2.2.2) (headE m++(m.2.2.1.map encQ).flatten)=wholeE m:=by
  have e2:headE m++(m.2.2.1.map encQ).flatten++encs (baseM m) (m.2.2.2.1++m.2.2.2.2.1++m.2.2.2.2.2)=wholeE m:=by
   rw[encs_app,encs_app]
   simp[wholeE]
  rw[encF_fit _ _ (by rw[e2];exact hl),e2]
 unfold encM
 rw[hc,e,if_neg (by simp),if_neg (by omega)]
theorem enc_id {m:Mt} {id:Int} (hi:0≤id∧id≤65535) (h:(encM m).2=0):(encM (id,m.2)).2=0∧(encM (id,m.2)).1=put2 id++(encM m).1.drop 2:=by
 obtain⟨hc,hw,hl⟩:=encM_ok h
 obtain⟨c1,c2,c3,c4,c5,c6,c7,c8,c9,c10⟩:=checkM_iff hc
 have hcn:checkM (id,m.2)=true:=checkM_mk hi c2 c3 c4 c5 c6 c7 c8 c9 c10
 obtain⟨a,r⟩:=m
 have e1:wholeE (id,r)=put2 id++(wholeE (a,r)).drop 2:=by
  simp[wholeE,headE,put2,baseM]
 have e2:(wholeE (a,r)).length=2+((wholeE (a,r)).drop 2).length:=by
  simp[wholeE,headE,put2];omega
 have e3:=encM_mk (m:=(id,r)) hcn (by rw[e1,List.length_append];simp only[put2,List.length_cons,List.length_nil];omega)
 rw[e3,hw]
 exact⟨rfl,e1⟩
end Go.Abs
