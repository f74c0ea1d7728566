/- Part of a proof. -/
import Derived.Test.YthlcfhkcbmikcaaGreatSxB
import Derived.Test.YthlcfhkcbmikcaaGreatSnD
set_option linter.unusedSimpArgs false
set_option linter.unusedVariables false
set_option linter.unusedSectionVars false
namespace Go.Abs
open Go
theorem ofInt_i64 (a:Nat) (ha:a<18446744073709551616):(BitVec.ofInt 64 (a:Int)).toNat=a:=by
 rw[BitVec.ofInt_natCast,BitVec.toNat_ofNat];exact Nat.mod_eq_of_lt (by omega)
theorem i64_or_nat (a b:Nat) (ha:a<9223372036854775808) (hb:b<9223372036854775808):bits .or .i64 (a:Int) (b:Int)=((a ||| b:Nat):Int):=by
 have hx:a ||| b<2 ^ 63:=Nat.or_lt_two_pow (by omega) (by omega)
 show IntKind.i64.wrap ((BitVec.ofInt 64 (a:Int) ||| BitVec.ofInt 64 (b:Int)).toNat:Int)=_
 rw[BitVec.toNat_or,ofInt_i64 a (by omega),ofInt_i64 b (by omega)]
 exact wrap64 (by omega) (by omega)
theorem i64_and_nat (a b:Nat) (ha:a<9223372036854775808) (hb:b<9223372036854775808):bits .and .i64 (a:Int) (b:Int)=((a &&& b:Nat):Int):=by
 have hx:a &&& b<2 ^ 63:=Nat.and_lt_two_pow _ (by omega)
 show IntKind.i64.wrap ((BitVec.ofInt 64 (a:Int) &&& BitVec.ofInt 64 (b:Int)).toNat:Int)=_
 rw[BitVec.toNat_and,ofInt_i64 a (by omega),ofInt_i64 b (by omega)]
 exact wrap64 (by omega) (by omega)
theorem or_byte (a b:Nat) (hb:b<256):a*256 ||| b=a*256+b:=by
 have:=Nat.shiftLeft_add_eq_or_of_lt (b:=b) (i:=8) (by omega) a
 rw[Nat.shiftLeft_eq] at this
 exact this.symm
theorem i64_or_byteN {n m:Nat} (ha:n<36028797018963968) (hb:m<256):bits .or .i64 ((n*256:Nat):Int) (m:Int)=((n*256+m:Nat):Int):=by
 have h1:n*256<9223372036854775808:=by omega
 have h2:m<9223372036854775808:=by omega
 rw[i64_or_nat _ _ h1 h2,or_byte n m hb]
theorem i64_or_byte {a b:Int} (ha:0≤a) (ha2:a<36028797018963968) (hb:0≤b) (hb2:b<256):bits .or .i64 (a*256) b=a*256+b:=by
 obtain⟨n,rfl⟩:=Int.eq_ofNat_of_zero_le ha
 obtain⟨m,rfl⟩:=Int.eq_ofNat_of_zero_le hb
 have h:=i64_or_byteN (n:=n) (m:=m) (by omega) (by omega)
 rw[Int.natCast_add,Int.natCast_mul] at h
 exact h
theorem byte_lt (b:UInt8):(b.toNat:Int)<256:=by have:=b.toNat_lt;omega
theorem byte_nn (b:UInt8):(0:Int)≤(b.toNat:Int):=by omega
theorem wrap_byte (b:UInt8):IntKind.i64.wrap (b.toNat:Int)=(b.toNat:Int):=wrap_id (by omega) (by have:=b.toNat_lt;omega)
theorem bytes_back (s:List UInt8):List.map (fun n:Int=>UInt8.ofNat n.toNat) (List.map (fun b:UInt8=>(b.toNat:Int)) s)=s:=by
 rw[List.map_map]
 conv=>rhs;rw[←List.map_id s]
 apply List.map_congr_left
 intro b _
 simp
def takeS (s:List UInt8) (a n:Int):Option (List UInt8):=if 0≤a∧0≤n∧a≤s.length∧n≤s.length-a then some ((s.drop a.toNat).take n.toNat) else none
@[reducible] def two (o:Option (List UInt8)):List UInt8×Bool:=match o with
 | some x=>(x,true)
 | none=>([],false)
def beN (l:List UInt8):Int:=l.foldl (fun n b=>256*n+(b.toNat:Int)) 0
def getS (s:List UInt8) (a n:Int):Option Int:=if 1≤n∧n≤4 then (takeS s a n).map beN else none
@[reducible] def twoI (o:Option Int):Int×Bool:=match o with
 | some x=>(x,true)
 | none=>(0,false)
theorem takeS_len {s:List UInt8} {a n:Int} {t:List UInt8} (h:takeS s a n=some t):(t.length:Int)=n:=by
 unfold takeS at h
 split at h
 · simp only[Option.some.injEq] at h;subst h
   simp
   omega
 · simp at h
theorem grdp {β:Type} {c:Prop} {i:Decidable c} {b:Option β} (h:c):@grd β c i b=b:=by unfold grd;rw[if_pos h]
end Go.Abs

namespace Go.Abs
open Go
def maxI:Int:=9223372036854775807
theorem sized_eq (n:Int):F_octet_sized n=some (decide (1≤n∧n≤4)):=by
 unfold F_octet_sized
 by_cases h:1≤n
 · simp[h]
 · simp[h]
theorem Take_eq {s:List UInt8} (hs:(s.length:Int)≤maxI) (a n:Int):F_octet_Take s a n=some (two (takeS s a n)):=by
 unfold maxI at hs
 unfold F_octet_Take takeS
 by_cases h1:a<0
 · rw[if_neg (by simpa using h1),if_neg (by omega)]
 rw[if_pos (by simpa using h1)]
 by_cases h2:n<0
 · rw[if_neg (by simpa using h2),if_neg (by omega)]
 rw[if_pos (by simpa using h2)]
 by_cases h3:(s.length:Int)<a
 · rw[if_neg (by simpa using h3),if_neg (by omega)]
 rw[if_pos (by simpa using h3),wrap_id (by omega) (by omega)]
 by_cases h4:(s.length:Int)-a<n
 · rw[if_pos (by simpa using h4),if_neg (by omega)]
 rw[if_neg (by simpa using h4),natOf_pos (by omega),grd_pos (by omega),natOf_pos (by omega),grd_pos (by simp;omega),if_pos (by omega)]
theorem get_loop (n:Int) (t:List UInt8) (hn:(t.length:Int)=n) (h4:n≤4):loopS (step_octet_Get_0 n t) (0,0)=some (beN t):=by
 have hl:t.length≤4:=by omega
 have key:∀(k:Nat) (i:Nat) (m:Int),t.length-i=k→i≤t.length→0≤m→m<256 ^ i→loopS (step_octet_Get_0 n t) (m,(i:Int))=some ((t.drop i).foldl (fun n b=>256*n+(b.toNat:Int)) m):=by
  intro k
  induction k with
  | zero =>
   intro i m hk hi h0 h1
   have:t.drop i=[]:=List.drop_eq_nil_of_le (by omega)
   rw[this]
   refine loopS_out ?_
   simp only[step_octet_Get_0]
   rw[if_neg (by simp;omega)]
   rfl
  | succ k ih =>
   intro i m hk hi h0 h1
   have hlt:i<t.length:=by omega
   have hb:=byte_lt t[i]
   have hb0:=byte_nn t[i]
   have hp:(256:Int) ^ i≤16777216:=by
    rcases (by omega:i=0∨i=1∨i=2∨i=3) with rfl | rfl | rfl | rfl<;>decide
   rw[List.drop_eq_getElem_cons hlt,List.foldl_cons]
   rw[loopS_next (y:=(256*m+(t[i].toNat:Int),((i+1:Nat):Int)))]
   · refine ih (i+1) _ (by omega) (by omega) (by omega) ?_
     rw[Int.pow_succ]
     omega
   · simp only[step_octet_Get_0]
     rw[if_pos (by simp;omega),natOf_nat,List.getElem?_eq_getElem hlt,bnd_some,grdEq_self,grdEq_self,wrap_byte,wrap_id (x:=m*256) (by omega) (by omega),i64_or_byte (by omega) (by omega) (by omega) (by omega),wrap_id (x:=(i:Int)+1) (by omega) (by omega),Int.mul_comm m 256]
     rfl
 have:=key t.length 0 0 (by omega) (by omega) (by omega) (by simp)
 simpa[beN] using this
theorem Get_eq {s:List UInt8} (hs:(s.length:Int)≤maxI) (a n:Int):F_octet_Get s a n=some (twoI (getS s a n)):=by
 unfold F_octet_Get getS
 rw[Take_eq hs,bnd_some]
 cases ht:takeS s a n with
 | none=>simp[two,bnd,twoI]
 | some t =>
  have hlen:=takeS_len ht
  simp only[two,sized_eq,bnd_some]
  by_cases h1:1≤n∧n≤4
  · simp only[h1,and_self,decide_true,Bool.not_true,if_true,Bool.false_eq_true,if_false,grdEq_self,bnd_some]
    rw[get_loop n t hlen (by omega),bnd_some]
    rfl
  · simp[h1,bnd,twoI]
end Go.Abs

namespace Go.Abs
open Go
theorem getS_bounds {s:List UInt8} {a n:Int} {k:Int} (h:getS s a n=some k):0≤a∧a+n≤s.length∧1≤n∧n≤4:=by
 unfold getS takeS at h
 split at h
 · split at h
   · omega
   · simp at h
 · simp at h
theorem takeS_bounds {s:List UInt8} {a n:Int} {t:List UInt8} (h:takeS s a n=some t):0≤a∧a+n≤s.length∧0≤n:=by
 unfold takeS at h
 split at h
 · omega
 · simp at h
theorem getS1 {s:List UInt8} {a k:Int} (h:getS s a 1=some k):0≤k∧k<256∧∃b,s[a.toNat]? = some b∧k=(b.toNat:Int):=by
 obtain⟨h0,h1,_,_⟩:=getS_bounds h
 unfold getS takeS at h
 rw[if_pos (by omega),if_pos (by omega)] at h
 have hlt:a.toNat<s.length:=by omega
 simp only[Option.map_some,Option.some.injEq] at h
 rw[List.drop_eq_getElem_cons hlt] at h
 have e:(1:Int).toNat=1:=rfl
 rw[e,List.take_succ_cons,List.take_zero] at h
 simp only[beN,List.foldl_cons,List.foldl_nil] at h
 have:=byte_lt s[a.toNat]
 exact⟨by omega,by omega,s[a.toNat],by simp[hlt],by omega⟩
theorem getS2 {s:List UInt8} {a k p:Int} (h:getS s a 1=some k) (h2:getS s a 2=some p):256*k≤p∧p<256*k+256:=by
 obtain⟨_,_,b,hb,rfl⟩:=getS1 h
 obtain⟨h0,h1,_,_⟩:=getS_bounds h2
 unfold getS takeS at h2
 rw[if_pos (by omega),if_pos (by omega)] at h2
 have hlt:a.toNat<s.length:=by omega
 have hlt2:a.toNat+1<s.length:=by omega
 simp only[Option.map_some,Option.some.injEq] at h2
 rw[List.drop_eq_getElem_cons hlt,List.drop_eq_getElem_cons hlt2] at h2
 have e:(2:Int).toNat=2:=rfl
 rw[e,List.take_succ_cons,List.take_succ_cons,List.take_zero] at h2
 simp only[beN,List.foldl_cons,List.foldl_nil] at h2
 have hbb:s[a.toNat]=b:=by simpa[hlt] using hb
 rw[hbb] at h2
 have:=byte_lt s[a.toNat+1]
 have:=byte_nn s[a.toNat+1]
 omega
def readW (msg:List UInt8) (at_ least next:Int) (out:List UInt8):List UInt8×Int×Int :=
 match getS msg at_ 1 with
 | none=>([],0,2)
 | some k =>
  if k=0 then (out++[0],(if next<0 then at_+1 else next),0)
  else if 192≤k then
   match getS msg at_ 2 with
   | none=>([],0,2)
   | some p=>if h:0≤p-49152∧p-49152<least then readW msg (p-49152) (p-49152) (if next<0 then at_+2 else next) out else ([],0,3)
  else if 63<k then ([],0,3)
  else match takeS msg at_ (k+1) with
   | none=>([],0,2)
   | some l=>if h:out.length+l.length<255∧0<l.length then readW msg (at_+l.length) least next (out++l) else ([],0,3)
termination_by (least.toNat,255-out.length)
decreasing_by
 · apply Prod.Lex.left;omega
 · apply Prod.Lex.right;simp;omega
def readS (msg:List UInt8) (at_:Int):List UInt8×Int×Int:=readW msg at_ at_ (-1) []
def finR (o:(Int×(Int×(Int×(Int×List Int)))) ⊕ (List UInt8×(Int×(Int×(Int×(Int×(Int×List Int))))))):List UInt8×Int×Int :=
 match o with
 | .inl x=>([],0,x.1)
 | .inr x=>(x.1,x.2.1,x.2.2.1)
def ints (l:List UInt8):List Int:=l.map fun b=>(b.toNat:Int)
theorem ints_len (l:List UInt8):(ints l).length=l.length:=by simp[ints]
theorem comp_err (msg:List UInt8) (e:Int) (he:e≠0) (x:Int×Int×Int×List Int):∃o,loopS (step_comp_Read_0 msg) (e,x)=some o∧finR o=([],0,e):=by
 refine⟨.inl (e,x),loopS_out ?_,rfl⟩
 obtain⟨a,b,c,d⟩:=x
 simp only[step_comp_Read_0,grdEq_self]
 simp[he]
theorem bytes_ok (l:List UInt8):∀(n:(Ty.int IntKind.u8).den),n∈ints l→0≤n∧n<256:=by
 intro n hn
 obtain⟨b,_,rfl⟩:=List.mem_map.1 hn
 exact⟨byte_nn b,byte_lt b⟩
theorem comp_read {msg:List UInt8} (hs:(msg.length:Int)≤maxI) (at_ least next:Int) (out:List UInt8) (ho:out.length<255) (hn:next=-1∨0≤next) :
 ∃o,loopS (step_comp_Read_0 msg) (0,(at_,(least,(next,ints out))))=some o∧finR o=readW msg at_ least next out:=by
 have hm:maxI=9223372036854775807:=rfl
 have hb:=bytes_back out
 have hg:=bytes_ok out
 have hil:=ints_len out
 fun_induction readW msg at_ least next out with
 | case1 at_ least next out h1 =>
  refine⟨.inl (2,at_,least,next,ints out),loopS_out ?_,rfl⟩
  simp only[step_comp_Read_0,Get_eq hs,bnd_some,h1,twoI,grdEq_self]
  rfl
 | case2 at_ least next out h1 =>
  obtain⟨b0,b1,_,_⟩:=getS_bounds h1
  have hx:(if next<0 then at_+1 else next)=if next=-1 then at_+1 else next:=by
   by_cases h:next=-1
   · simp[h]
   · have:¬next<0:=by omega
     simp[h,this]
  refine⟨.inr (out++[0],(if next=-1 then at_+1 else next),0,at_,least,(if next=-1 then at_+1 else next),ints out),loopS_out ?_,by simp only[finR,hx]⟩
  simp only[step_comp_Read_0,Get_eq hs,bnd_some,h1,twoI,grdEq_self,wrap_id (x:=at_+1) (by omega) (by omega)]
  have g1:(ints out).length≤9223372036854775807:=by omega
  have g2:out.length+1≤maxStr:=by unfold maxStr;omega
  have hb':List.map (fun n:Int=>UInt8.ofNat n.toNat) (ints out)=out:=hb
  by_cases h:next=-1
  · subst h
    simp only[bnd_some,grd_pos g1,grd_pos hg,grd_pos g2,hb',Bool.not_true,Bool.false_eq_true,if_false,beq_self_eq_true,if_true]
  · have h':(next==-1)=false:=by simpa using h
    simp only[h',bnd_some,grd_pos g1,grd_pos hg,grd_pos g2,hb',Bool.not_true,Bool.false_eq_true,if_false,beq_self_eq_true,if_true,h]
 | case3 at_ least next out k h1 h2 h3 h4 =>
  obtain⟨o,e1,e2⟩:=comp_err msg 2 (by decide) (at_,least,next,ints out)
  refine⟨o,?_,e2⟩
  rw[loopS_next (y:=(2,(at_,least,next,ints out)))]
  · exact e1
  · have h2':(k==0)=false:=by simpa using h2
    simp only[step_comp_Read_0,Get_eq hs,bnd_some,h1,h4,twoI,grdEq_self,h2',h3,Bool.not_true,Bool.false_eq_true,if_false,beq_self_eq_true,if_true,decide_true,Bool.not_false]
 | case4 at_ least next out k h1 h2 h3 p h4 h5 ih =>
  obtain⟨b0,b1,_,_⟩:=getS_bounds h4
  have hp:=getS2 h1 h4
  have hk:=getS1 h1
  have hx:(if h:next<0 then at_+2 else next)=if next=-1 then at_+2 else next:=by
   by_cases h:next=-1
   · simp[h]
   · have:¬next<0:=by omega
     simp[h,this]
  rw[hx] at ih
  obtain⟨o,e1,e2⟩:=ih ho (by split<;>omega) hb hg hil
  refine⟨o,?_,?_⟩
  · rw[loopS_next (y:=(0,(p-49152,(p-49152,((if next=-1 then at_+2 else next),ints out)))))]
    · exact e1
    · have h2':(k==0)=false:=by simpa using h2
      have h6:¬least≤p-49152:=by omega
      simp only[step_comp_Read_0,Get_eq hs,bnd_some,h1,h4,twoI,grdEq_self,h2',h3,Bool.not_true,Bool.false_eq_true,if_false,beq_self_eq_true,if_true,decide_true,Bool.not_false,
       wrap_id (x:=p-49152) (by omega) (by omega),wrap_id (x:=at_+2) (by omega) (by omega),h6,decide_false]
      by_cases h:next=-1
      · subst h
        simp only[beq_self_eq_true,if_true,bnd_some]
      · have h':(next==-1)=false:=by simpa using h
        simp only[h',h,Bool.false_eq_true,if_false,bnd_some]
  · rw[e2]
    have hx2:(if next<0 then at_+2 else next)=if next=-1 then at_+2 else next:=by simpa using hx
    rw[hx2]
 | case5 at_ least next out k h1 h2 h3 p h4 h5 =>
  have hp:=getS2 h1 h4
  have hk:=getS1 h1
  obtain⟨o,e1,e2⟩:=comp_err msg 3 (by decide) (at_,least,next,ints out)
  refine⟨o,?_,e2⟩
  rw[loopS_next (y:=(3,(at_,least,next,ints out)))]
  · exact e1
  · have h2':(k==0)=false:=by simpa using h2
    have h6:least≤p-49152:=by omega
    simp only[step_comp_Read_0,Get_eq hs,bnd_some,h1,h4,twoI,grdEq_self,h2',h3,Bool.not_true,Bool.false_eq_true,if_false,beq_self_eq_true,if_true,decide_true,Bool.not_false,
     wrap_id (x:=p-49152) (by omega) (by omega),h6]
 | case6 at_ least next out k h1 h2 h3 h4 =>
  obtain⟨o,e1,e2⟩:=comp_err msg 3 (by decide) (at_,least,next,ints out)
  refine⟨o,?_,e2⟩
  rw[loopS_next (y:=(3,(at_,least,next,ints out)))]
  · exact e1
  · have h2':(k==0)=false:=by simpa using h2
    simp only[step_comp_Read_0,Get_eq hs,bnd_some,h1,twoI,grdEq_self,h2',h3,h4,Bool.not_true,Bool.false_eq_true,if_false,beq_self_eq_true,if_true,decide_true,decide_false,Bool.not_false]
 | case7 at_ least next out k h1 h2 h3 h4 h5 =>
  have hk:=getS1 h1
  obtain⟨o,e1,e2⟩:=comp_err msg 2 (by decide) (at_,least,next,ints out)
  refine⟨o,?_,e2⟩
  rw[loopS_next (y:=(2,(at_,least,next,ints out)))]
  · exact e1
  · have h2':(k==0)=false:=by simpa using h2
    simp only[step_comp_Read_0,Get_eq hs,Take_eq hs,bnd_some,h1,twoI,two,grdEq_self,h2',h3,h4,Bool.not_true,Bool.false_eq_true,if_false,beq_self_eq_true,if_true,decide_true,decide_false,Bool.not_false,
     wrap_id (x:=1+k) (by omega) (by omega),Int.add_comm 1 k,h5,wrap_id (x:=k+1) (by omega) (by omega)]
 | case8 at_ least next out k h1 h2 h3 h4 l h5 h6 ih =>
  have hk:=getS1 h1
  have hl:=takeS_len h5
  have hb2:=takeS_bounds h5
  have hap:ints out++List.map (fun b:UInt8=>(b.toNat:Int)) l=ints (out++l):=by simp[ints]
  obtain⟨o,e1,e2⟩:=ih (by simp;omega) hn (bytes_back _) (bytes_ok _) (ints_len _)
  refine⟨o,?_,e2⟩
  rw[loopS_next (y:=(0,(at_+l.length,(least,(next,ints (out++l))))))]
  · exact e1
  · have h2':(k==0)=false:=by simpa using h2
    have h7:¬255≤((ints out).length:Int)+(l.length:Int):=by omega
    have g3:((ints out).length+(List.map (fun b:UInt8=>(b.toNat:Int)) l).length)*1≤roomLim:=by unfold roomLim;rw[List.length_map];omega
    simp only[step_comp_Read_0,Get_eq hs,Take_eq hs,bnd_some,h1,twoI,two,grdEq_self,h2',h3,h4,Bool.not_true,Bool.false_eq_true,if_false,beq_self_eq_true,if_true,decide_true,decide_false,Bool.not_false,
     Int.add_comm 1 k,h5,wrap_id (x:=k+1) (by omega) (by omega),wrap_id (x:=((ints out).length:Int)+(l.length:Int)) (by omega) (by omega),h7,grd_pos g3,
     wrap_id (x:=at_+(l.length:Int)) (by omega) (by omega),hap]
 | case9 at_ least next out k h1 h2 h3 h4 l h5 h6 =>
  have hk:=getS1 h1
  have hl:=takeS_len h5
  obtain⟨o,e1,e2⟩:=comp_err msg 3 (by decide) (at_,least,next,ints out)
  refine⟨o,?_,e2⟩
  have hb2:=takeS_bounds h5
  rw[loopS_next (y:=(3,(at_,least,next,ints out)))]
  · exact e1
  · have h2':(k==0)=false:=by simpa using h2
    have h7:255≤((ints out).length:Int)+(l.length:Int):=by omega
    simp only[step_comp_Read_0,Get_eq hs,Take_eq hs,bnd_some,h1,twoI,two,grdEq_self,h2',h3,h4,Bool.not_true,Bool.false_eq_true,if_false,beq_self_eq_true,if_true,decide_true,decide_false,Bool.not_false,
     Int.add_comm 1 k,h5,wrap_id (x:=k+1) (by omega) (by omega),wrap_id (x:=((ints out).length:Int)+(l.length:Int)) (by omega) (by omega),h7]
theorem comp_Read_eq {msg:List UInt8} (hs:(msg.length:Int)≤maxI) (a:Int):F_comp_Read msg a=some (readS msg a):=by
 obtain⟨o,h1,h2⟩:=comp_read hs a a (-1) [] (by simp) (.inl rfl)
 unfold F_comp_Read
 simp only[ints,List.map_nil] at h1
 rw[h1,bnd_some]
 unfold readS
 rw[←h2]
 cases o with
 | inl x=>obtain⟨a,b,c,d,e⟩:=x;rfl
 | inr x=>obtain⟨a,b,c,d,e,f,g⟩:=x;rfl
theorem readW_ends {msg:List UInt8} (at_ least next:Int) (out:List UInt8) (ho:out.length<255) :
 (readW msg at_ least next out).1.length≤255∧((readW msg at_ least next out).2.2=0 →
  (0≤next→(readW msg at_ least next out).2.1=next)∧(next<0→0≤at_∧at_<(readW msg at_ least next out).2.1∧(readW msg at_ least next out).2.1≤msg.length)) ∧
 ((readW msg at_ least next out).2.2≠0→(readW msg at_ least next out).1=[]∧(readW msg at_ least next out).2.1=0):=by
 fun_induction readW msg at_ least next out with
 | case1 at_ least next out h1=>simp
 | case2 at_ least next out h1 =>
  obtain⟨b0,b1,_,_⟩:=getS_bounds h1
  refine⟨by simp;omega,fun _=>⟨fun h=>by simp;omega,fun h=>?_⟩,fun h=>absurd rfl h⟩
  simp only[h,if_true]
  omega
 | case3=>simp
 | case4 at_ least next out k h1 h2 h3 p h4 h5 ih =>
  obtain⟨b0,b1,_,_⟩:=getS_bounds h4
  obtain⟨i1,i2,i3⟩:=ih ho
  refine⟨i1,fun h=>⟨fun hn=>?_,fun hn=>?_⟩,i3⟩
  · obtain⟨j1,_⟩:=i2 h
    have hx:¬next<0:=by omega
    simp only[hx,if_false,dite_eq_ite] at j1 ⊢
    exact j1 hn
  · obtain⟨j1,_⟩:=i2 h
    simp only[hn,if_true,dite_eq_ite] at j1 ⊢
    have:=j1 (by omega)
    omega
 | case5=>simp
 | case6=>simp
 | case7=>simp
 | case8 at_ least next out k h1 h2 h3 h4 l h5 h6 ih =>
  obtain⟨i1,i2,i3⟩:=ih (by simp;omega)
  have hb:=takeS_bounds h5
  refine⟨i1,fun h=>⟨fun hn=>(i2 h).1 hn,fun hn=>?_⟩,i3⟩
  have:=(i2 h).2 hn
  omega
 | case9=>simp
theorem readS_ends (msg:List UInt8) (a:Int):(readS msg a).1.length≤255∧((readS msg a).2.2=0→0≤a∧a<(readS msg a).2.1∧(readS msg a).2.1≤msg.length) ∧
 ((readS msg a).2.2≠0→(readS msg a).1=[]∧(readS msg a).2.1=0):=by
 obtain⟨h1,h2,h3⟩:=readW_ends (msg:=msg) a a (-1) [] (by simp)
 exact⟨h1,fun h=>(h2 h).2 (by decide),h3⟩
end Go.Abs

namespace Go.Abs
open Go
def textsW:List UInt8→Bool
 | []=>true
 | b::r=>if b.toNat≤r.length then textsW (r.drop b.toNat) else false
termination_by l=>l.length
decreasing_by simp;omega
def textsS (d:List UInt8):Bool:=d != []&&textsW d
theorem data_texts_loop (d:List UInt8) (hs:(d.length:Int)≤maxI):loopS step_data_texts_0 d=some (if textsW d then .inr () else .inl false):=by
 have hm:maxI=9223372036854775807:=rfl
 fun_induction textsW d with
 | case1=>exact loopS_out rfl
 | case2 b r h ih =>
  have hb:=byte_lt b
  simp only[List.length_cons] at hs
  rw[loopS_next (y:=r.drop b.toNat)]
  · exact ih (by simp;omega)
  · have h1:¬((b::r).length:Int)<1+(b.toNat:Int):=by simp only[List.length_cons];omega
    have e1:(!(b::r)==[])=true:=rfl
    have e2:(b::r)[0]? = some b:=rfl
    simp only[step_data_texts_0,e1,e2,if_true,bnd_some,wrap_byte,wrap_id (x:=1+(b.toNat:Int)) (by omega) (by omega),h1,decide_false,Bool.false_eq_true,if_false]
    rw[natOf_pos (by omega),grd_pos (by simp;omega)]
    have e3:(1+(b.toNat:Int)).toNat=b.toNat+1:=by omega
    rw[e3]
    rfl
 | case3 b r h =>
  have hb:=byte_lt b
  simp only[List.length_cons] at hs
  refine loopS_out ?_
  have h1:((b::r).length:Int)<1+(b.toNat:Int):=by simp only[List.length_cons];omega
  have e1:(!(b::r)==[])=true:=rfl
  have e2:(b::r)[0]? = some b:=rfl
  simp only[step_data_texts_0,e1,e2,if_true,bnd_some,wrap_byte,wrap_id (x:=1+(b.toNat:Int)) (by omega) (by omega),h1,decide_true,if_true]
  rfl
theorem data_texts_eq {d:List UInt8} (hs:(d.length:Int)≤maxI):F_data_texts d=some (textsS d):=by
 unfold F_data_texts textsS
 cases d with
 | nil=>rfl
 | cons b r =>
  have e1:((b::r)==[])=false:=rfl
  have e2:((b::r) != [])=true:=rfl
  rw[data_texts_loop _ hs,e1,e2]
  cases textsW (b::r)<;>rfl
def namesW (msg:List UInt8):Nat→Int→Option (List (List UInt8)×Int)
 | 0,i=>some ([],i)
 | n+1,i=>if (readS msg i).2.2=0 then (namesW msg n (readS msg i).2.1).map fun p=>((readS msg i).1::p.1,p.2) else none
theorem namesW_ends {msg:List UInt8}:∀{n:Nat} {i:Int} {l:List (List UInt8)} {j:Int},namesW msg n i=some (l,j)→i≤j∧(n≠0→0≤i∧j≤msg.length)∧l.length=n∧l.flatten.length≤255*n
 | 0,i,l,j,h=>by simp only[namesW,Option.some.injEq,Prod.mk.injEq] at h;obtain⟨rfl,rfl⟩:=h;simp
 | n+1,i,l,j,h=>by
  unfold namesW at h
  split at h
  · rename_i h0
    obtain⟨e1,e2,_⟩:=readS_ends msg i
    have e2:=e2 h0
    cases hr:namesW msg n (readS msg i).2.1 with
    | none=>rw[hr] at h;simp at h
    | some p =>
     obtain⟨l',j'⟩:=p
     rw[hr] at h
     simp only[Option.map_some,Option.some.injEq,Prod.mk.injEq] at h
     obtain⟨rfl,rfl⟩:=h
     obtain⟨g1,g2,g3,g4⟩:=namesW_ends hr
     refine⟨by omega,fun _=>⟨e2.1,?_⟩,by simp[g3],?_⟩
     · cases n with
       | zero=>simp only[namesW,Option.some.injEq,Prod.mk.injEq] at hr;omega
       | succ n=>exact (g2 (by omega)).2
     · simp only[List.flatten_cons,List.length_append];omega
  · simp at h
theorem exp_names {msg:List UInt8} (hs:(msg.length:Int)≤maxI) (a size kind z:Int) (hz:IntKind.i64.wrap (a+size)=z) (n8 n9:Nat) (m:List (Int×Int×Int×Int)) (v:Int×Int×Int) (hv0:(shpF kind).getD (0,0,0)=v):∀(n:Nat) (i k:Int) (l:List (List UInt8)),k+n=v.2.1→0≤k→v.2.1≤100→i≤z→l.length≤k →
 ∃l',loopS (step_data_Expand_0 msg a size kind n8 n9) (i,(k,(m,l)))=some (match namesW msg n i with | some p=>if p.2≤z then .inl (p.2,(m,l++p.1)) else .inr (false,(m,l')) | none=>.inr (false,(m,l'))):=by
 intro n
 induction n with
 | zero =>
  intro i k l hk h0 hv hi hl
  refine⟨l,loopS_out ?_⟩
  have:¬k<v.2.1:=by omega
  simp only[step_data_Expand_0,hv0,this,decide_false,Bool.false_eq_true,if_false,grdEq_self,namesW,hi,if_true]
  simp
 | succ n ih =>
  intro i k l hk h0 hv hi hl
  have hlt:k<v.2.1:=by omega
  obtain⟨e1,e2,_⟩:=readS_ends msg i
  by_cases he:(readS msg i).2.2=0
  · have hx:((readS msg i).2.2 != 0)=false:=by simp[he]
    by_cases hlz:z<(readS msg i).2.1
    · refine⟨l,loopS_out ?_⟩
      simp only[step_data_Expand_0,hv0,hz,hlt,decide_true,if_true,comp_Read_eq hs,bnd_some,grdEq_self,hx,hlz]
      rw[namesW,if_pos he]
      cases hr:namesW msg n (readS msg i).2.1 with
      | none=>rfl
      | some p =>
       have:=(namesW_ends hr).1
       have h3:¬p.2≤z:=by omega
       simp only[Option.map_some,h3,if_false]
    · obtain⟨l',h⟩:=ih (readS msg i).2.1 (k+1) (l++[(readS msg i).1]) (by omega) (by omega) hv (by omega) (by simp;omega)
      refine⟨l',?_⟩
      rw[loopS_next (y:=((readS msg i).2.1,(k+1,(m,l++[(readS msg i).1])))),h]
      · rw[namesW,if_pos he]
        cases namesW msg n (readS msg i).2.1 with
        | none=>rfl
        | some p=>simp
      · simp only[step_data_Expand_0,hv0,hz,hlt,decide_true,if_true,comp_Read_eq hs,bnd_some,grdEq_self,hx,hlz,decide_false,Bool.false_eq_true,if_false]
        rw[grd_pos (by unfold roomLim;simp;omega),wrap_id (by omega) (by omega)]
  · refine⟨l,loopS_out ?_⟩
    have hx:((readS msg i).2.2 != 0)=true:=by simp[he]
    simp only[step_data_Expand_0,hv0,hlt,decide_true,if_true,comp_Read_eq hs,bnd_some,grdEq_self,hx]
    rw[namesW,if_neg he]
    rfl
theorem low_names {msg:List UInt8} (hs:(msg.length:Int)≤maxI) (kind z:Int) (hz:(msg.length:Int)=z) (n4:Nat) (m:List (Int×Int×Int×Int)) (v:Int×Int×Int) (hv0:(shpF kind).getD (0,0,0)=v):∀(n:Nat) (i k:Int) (l:List (List UInt8)),k+n=v.2.1→0≤k→v.2.1≤100→i≤z→l.length≤k →
 ∃l',loopS (step_data_Low_0 kind msg n4) (i,(k,(m,l)))=some (match namesW msg n i with | some p=>if p.2≤z then .inl (p.2,(m,l++p.1)) else .inr (false,(m,l')) | none=>.inr (false,(m,l'))):=by
 intro n
 induction n with
 | zero =>
  intro i k l hk h0 hv hi hl
  refine⟨l,loopS_out ?_⟩
  have:¬k<v.2.1:=by omega
  simp only[step_data_Low_0,hv0,this,decide_false,Bool.false_eq_true,if_false,grdEq_self,namesW,hi,if_true]
  simp
 | succ n ih =>
  intro i k l hk h0 hv hi hl
  have hlt:k<v.2.1:=by omega
  obtain⟨e1,e2,_⟩:=readS_ends msg i
  by_cases he:(readS msg i).2.2=0
  · have hx:((readS msg i).2.2 != 0)=false:=by simp[he]
    by_cases hlz:z<(readS msg i).2.1
    · refine⟨l,loopS_out ?_⟩
      simp only[step_data_Low_0,hv0,hz,hlt,decide_true,if_true,comp_Read_eq hs,bnd_some,grdEq_self,hx,hlz]
      rw[namesW,if_pos he]
      cases hr:namesW msg n (readS msg i).2.1 with
      | none=>rfl
      | some p =>
       have:=(namesW_ends hr).1
       have h3:¬p.2≤z:=by omega
       simp only[Option.map_some,h3,if_false]
    · obtain⟨l',h⟩:=ih (readS msg i).2.1 (k+1) (l++[(readS msg i).1]) (by omega) (by omega) hv (by omega) (by simp;omega)
      refine⟨l',?_⟩
      rw[loopS_next (y:=((readS msg i).2.1,(k+1,(m,l++[(readS msg i).1])))),h]
      · rw[namesW,if_pos he]
        cases namesW msg n (readS msg i).2.1 with
        | none=>rfl
        | some p=>simp
      · simp only[step_data_Low_0,hv0,hz,hlt,decide_true,if_true,comp_Read_eq hs,bnd_some,grdEq_self,hx,hlz,decide_false,Bool.false_eq_true,if_false]
        rw[grd_pos (by unfold roomLim;simp;omega),wrap_id (by omega) (by omega)]
  · refine⟨l,loopS_out ?_⟩
    have hx:((readS msg i).2.2 != 0)=true:=by simp[he]
    simp only[step_data_Low_0,hv0,hlt,decide_true,if_true,comp_Read_eq hs,bnd_some,grdEq_self,hx]
    rw[namesW,if_neg he]
    rfl
end Go.Abs

namespace Go.Abs
open Go
def shapeS (kind:Int):Int×Int×Int :=
 if kind=2∨kind=5∨kind=12 then (0,1,0) else if kind=6 then (0,2,20) else if kind=15 then (2,1,0) else if kind=33 then (6,1,0) else if kind=1 then (4,0,0) else if kind=28 then (16,0,0) else (0,0,0)
theorem shapeS_ok (kind:Int):0≤(shapeS kind).1∧(shapeS kind).1≤16∧0≤(shapeS kind).2.1∧(shapeS kind).2.1≤2∧0≤(shapeS kind).2.2∧(shapeS kind).2.2≤20:=by
 unfold shapeS
 repeat' split
 all_goals decide
def cut (msg:List UInt8) (i j:Int):List UInt8:=List.drop i.toNat (List.take j.toNat msg)
def expS (msg:List UInt8) (a size kind:Int):List UInt8×Int :=
 match takeS msg a size with
 | none=>([],2)
 | some d =>
  if shapeS kind=(0,0,0) then (if (kind=16∧textsS d=false)∨65535<d.length then ([],4) else (d,0))
  else if size<(shapeS kind).1 then ([],4)
  else match namesW msg (shapeS kind).2.1.toNat (a+(shapeS kind).1) with
   | none=>([],4)
   | some p=>if p.2+(shapeS kind).2.2≠a+size then ([],4)
    else if 65535<(d.take (shapeS kind).1.toNat++p.1.flatten++cut msg p.2 (a+size)).length then ([],4)
    else (d.take (shapeS kind).1.toNat++p.1.flatten++cut msg p.2 (a+size),0)
theorem cut_len (msg:List UInt8) (i j:Int):(cut msg i j).length≤msg.length:=by
 unfold cut
 simp
 omega
end Go.Abs

namespace Go.Abs
open Go
theorem join_nil (l:List (List UInt8)):Lib.join l []=l.flatten:=by
 unfold Lib.join
 induction l with
 | nil=>rfl
 | cons a r ih =>
  cases r with
  | nil=>simp[List.intercalate,List.intersperse]
  | cons b r =>
   simp only[List.intercalate,List.intersperse,List.flatten_cons] at ih ⊢
   simp[ih]
theorem whole_eq {p:List UInt8×List UInt8×List (List UInt8)} (h1:p.2.2.length≤1000) (h2:p.1.length+p.2.2.flatten.length+p.2.1.length≤100000000):F_data_parts_whole p=some (p.1++p.2.2.flatten++p.2.1):=by
 unfold F_data_parts_whole F_strings_Join
 rw[join_nil,if_pos ⟨by omega,by omega⟩,bnd_some,grdp (by unfold maxStr;omega),grdp (by unfold maxStr;simp only[List.length_append];omega)]
theorem cut_len2 {msg:List UInt8} {i j:Int} (h0:0≤i) (h1:i≤j) (h2:j≤msg.length):((cut msg i j).length:Int)=j-i:=by
 unfold cut
 simp
 omega
theorem shapes_eq (kind:Int):sfind tI tK kind [(1,(4,0,0)),(28,(16,0,0)),(2,(0,1,0)),(5,(0,1,0)),(12,(0,1,0)),(6,(0,2,20)),(15,(2,1,0)),(33,(6,1,0))] =
 if shapeS kind=(0,0,0) then none else some (shapeS kind):=by
 unfold shapeS
 simp only[sfind,Ty.beq]
 by_cases h1:kind=1
 · subst h1;rfl
 by_cases h28:kind=28
 · subst h28;rfl
 by_cases h2:kind=2
 · subst h2;rfl
 by_cases h5:kind=5
 · subst h5;rfl
 by_cases h12:kind=12
 · subst h12;rfl
 by_cases h6:kind=6
 · subst h6;rfl
 by_cases h15:kind=15
 · subst h15;rfl
 by_cases h33:kind=33
 · subst h33;rfl
 have e (m:Int) (h:¬kind=m):(kind==m)=false:=by simpa using h
 simp only[e _ h1,e _ h28,e _ h2,e _ h5,e _ h12,e _ h6,e _ h15,e _ h33,Bool.false_eq_true,if_false,h1,h28,h2,h5,h12,h6,h15,h33,or_self,if_true]
theorem shpF_eq (kind:Int):shpF kind=if shapeS kind=(0,0,0) then none else some (shapeS kind):=shapes_eq kind
theorem shpF_some {kind:Int} (h:shapeS kind≠(0,0,0)):shpF kind=some (shapeS kind):=by rw[shpF_eq,if_neg h]
end Go.Abs

namespace Go.Abs
open Go
theorem cut_take {msg d:List UInt8} {a size x:Int} (ht:takeS msg a size=some d) (hx:0≤x) (hx2:x≤size):cut msg a (a+x)=d.take x.toNat:=by
 obtain⟨t0,t1,t2⟩:=takeS_bounds ht
 unfold takeS at ht
 rw[if_pos (by omega)] at ht
 simp only[Option.some.injEq] at ht
 subst ht
 unfold cut
 rw[List.drop_take,List.take_take]
 congr 1
 omega
theorem data_Expand_eq {msg:List UInt8} (hs:msg.length≤1000000) (a size kind:Int):F_data_Expand msg a size kind=some (expS msg a size kind):=by
 have hm:maxI=9223372036854775807:=rfl
 have hs':(msg.length:Int)≤maxI:=by omega
 unfold F_data_Expand expS
 rw[Take_eq hs',bnd_some]
 cases ht:takeS msg a size with
 | none=>rfl
 | some d =>
  have hd:=takeS_len ht
  obtain⟨t0,t1,t2⟩:=takeS_bounds ht
  obtain⟨v0,v1,v2,v3,v4,v5⟩:=shapeS_ok kind
  simp only[two,Bool.not_true,Bool.false_eq_true,if_false,bnd_some]
  have hfin:∀(e:List UInt8),e.length≤100000000→(if (kind==16)=true then bnd (F_data_texts e) fun v12=>if (!v12)=false then (if decide (65535<(e.length:Int))=true then some (([]:List UInt8),(4:Int)) else some (e,0)) else some ([],4)
   else if decide (65535<(e.length:Int))=true then some ([],4) else some (e,0))=some (if (kind=16∧textsS e=false)∨65535<e.length then ([],4) else (e,0)):=by
   intro e he
   rw[data_texts_eq (d:=e) (by omega),bnd_some]
   by_cases hk:kind=16
   · cases htx:textsS e
     · simp[hk]
     · by_cases h9:65535<e.length
       · simp[hk,h9,show (65535:Int)<(e.length:Int) by omega]
       · simp[hk,h9,show ¬(65535:Int)<(e.length:Int) by omega]
   · by_cases h9:65535<e.length
     · simp[hk,h9,show (65535:Int)<(e.length:Int) by omega]
     · simp[hk,h9,show ¬(65535:Int)<(e.length:Int) by omega]
  by_cases hz:shapeS kind=(0,0,0)
  · have hq:shpF kind=none:=by rw[shpF_eq,if_pos hz]
    simp only[hq,Option.isSome_none,Bool.false_eq_true,if_false,grdEq_self,bnd_some,hz,if_true,Bool.not_true]
    exact hfin d (by omega)
  · have hq:=shpF_some hz
    have hk16:kind≠16:=by
     rintro rfl
     exact hz rfl
    simp only[hq,Option.isSome_some,if_true,Option.getD_some,hz,if_false,grdEq_self]
    have es:a+size-a=size:=by omega
    rw[wrap_id (x:=a+size) (by omega) (by omega),es,wrap_id (x:=size) (by omega) (by omega)]
    generalize hv:shapeS kind=v at *
    obtain⟨x,y,z⟩:=v
    simp only at *
    have e0:F_data_parts_whole ([],[],[])=some []:=whole_eq (by simp) (by simp)
    by_cases hx:size<x
    · rw[if_pos hx,if_pos (by simp;omega)]
      simp only[e0,bnd_some,Bool.not_false,Bool.true_eq_false,if_false]
    · rw[if_neg hx,if_neg (by simp;omega),wrap_id (x:=a+x) (by omega) (by omega),natOf_pos (by omega),grdp (by omega),natOf_pos (by omega),grdp (by omega)]
      obtain⟨l',hl⟩:=exp_names hs' a size kind (a+size) (wrap_id (by omega) (by omega)) (a+x).toNat a.toNat (sputM tI tK 33 (6,1,0) (sputM tI tK 15 (2,1,0) (sputM tI tK 6 (0,2,20) (sputM tI tK 12 (0,1,0) (sputM tI tK 5 (0,1,0) (sputM tI tK 2 (0,1,0) (sputM tI tK 28 (16,0,0) (sputM tI tK 1 (4,0,0) [])))))))) (x,y,z) (by rw[hq];rfl) y.toNat (a+x) 0 [] (by simp only;omega) (by omega) (by simp only;omega) (by omega) (by simp)
      rw[hl,bnd_some]
      cases hn:namesW msg y.toNat (a+x) with
      | none=>simp only[e0,bnd_some,Bool.not_false,Bool.true_eq_false,if_false]
      | some p =>
       obtain⟨l,j⟩:=p
       obtain⟨n1,n2,n3,n4⟩:=namesW_ends hn
       simp only
       by_cases hj:j≤a+size
       · simp only[hj,if_true,List.nil_append]
         have hc:=cut_len2 (msg:=msg) (i:=j) (j:=a+size) (by omega) hj (by omega)
         have c1:=cut_len msg a (a+x)
         have c2:=cut_len msg j (a+size)
         rw[natOf_pos (by omega),grdp (by omega),natOf_pos (by omega),grdp (by omega)]
         have ew:F_data_parts_whole (List.drop a.toNat (List.take (a+x).toNat msg),List.drop j.toNat (List.take (a+size).toNat msg),l)=some (cut msg a (a+x)++l.flatten++cut msg j (a+size)):=whole_eq (by simp only;omega) (by simp only;unfold cut at c1 c2;omega)
         have el:((List.drop j.toNat (List.take (a+size).toNat msg)).length:Int)=a+size-j:=by unfold cut at hc;exact hc
         rw[ew,bnd_some,bnd_some,el,cut_take ht v0 (by omega)]
         by_cases he:j+z=a+size
         · have he3:(a+size-j==z)=true:=by simp;omega
           have he2:¬(j+z≠a+size):=by omega
           simp only[he3,Bool.not_true,if_true,he2,if_false]
           have:=hfin (List.take x.toNat d++l.flatten++cut msg j (a+size)) (by simp only[List.length_append,List.length_take];omega)
           rw[this]
           simp[hk16]
         · have he3:(a+size-j==z)=false:=by simp;omega
           simp only[he3,Bool.not_false,Bool.true_eq_false,if_false,ne_eq,he,not_false_eq_true,if_true]
       · have he:¬j+z=a+size:=by omega
         simp only[hj,if_false,e0,bnd_some,Bool.not_false,Bool.true_eq_false,ne_eq,he,not_false_eq_true,if_true]
end Go.Abs

namespace Go.Abs
open Go
abbrev RRt:=List UInt8×Int×Int×Int×List UInt8
end Go.Abs

namespace Go.Abs
open Go
def lab (x:List UInt8):List UInt8:=UInt8.ofNat x.length::x
def flat (L:List (List UInt8)):List UInt8:=(L.map lab).flatten
def okL (L:List (List UInt8)):Prop:=∀x∈L,1≤x.length∧x.length≤63
def labW:List UInt8→Option (List (List UInt8))
 | []=>none
 | b::r=>if b=0∧r=[] then some [] else if 1≤b.toNat∧b.toNat≤63∧b.toNat<r.length then (labW (r.drop b.toNat)).map fun L=>r.take b.toNat::L else none
termination_by l=>l.length
decreasing_by simp;omega
theorem flat_cons (x:List UInt8) (L:List (List UInt8)):flat (x::L)=UInt8.ofNat x.length::(x++flat L):=by simp[flat,lab]
theorem flat_app (L M:List (List UInt8)):flat (L++M)=flat L++flat M:=by simp[flat]
theorem flat_nil:flat []=[]:=rfl
theorem labW_flat:∀(L:List (List UInt8)),okL L→labW (flat L++[0])=some L
 | [],_=>by rw[flat_nil,List.nil_append,labW];simp
 | x::L,h=>by
  obtain⟨h1,h2⟩:=h x (by simp)
  have ih:=labW_flat L (fun y hy=>h y (by simp[hy]))
  have hx:(UInt8.ofNat x.length).toNat=x.length:=by simp;omega
  rw[flat_cons,List.cons_append,labW,hx,if_neg (by simp),if_pos (by simp;omega)]
  simp only[List.append_assoc,List.drop_left,List.take_left]
  rw[ih]
  rfl
theorem labW_some:∀{n:List UInt8} {L:List (List UInt8)},labW n=some L→n=flat L++[0]∧okL L:=by
 intro n
 fun_induction labW n with
 | case1=>intro L h;simp at h
 | case2 b r h =>
  intro L hL
  simp only[Option.some.injEq] at hL
  subst hL
  obtain⟨rfl,rfl⟩:=h
  exact⟨rfl,fun _ h=>by simp at h⟩
 | case3 b r h1 h2 ih =>
  intro L hL
  cases hr:labW (r.drop b.toNat) with
  | none=>rw[hr] at hL;simp at hL
  | some M =>
   rw[hr] at hL
   simp only[Option.map_some,Option.some.injEq] at hL
   subst hL
   obtain⟨e,ho⟩:=ih hr
   have hl:(r.take b.toNat).length=b.toNat:=by simp;omega
   refine⟨?_,?_⟩
   · rw[flat_cons,hl,List.cons_append,List.append_assoc,←e,List.take_append_drop]
     simp
   · intro x hx
     rcases List.mem_cons.1 hx with rfl | hx
     · omega
     · exact ho x hx
 | case4=>intro L h;simp at h
def nameS (n:List UInt8):Bool:=decide (n.length≤255)&&(labW n).isSome
theorem nameS_iff {n:List UInt8}:nameS n=true↔∃L,n=flat L++[0]∧okL L∧n.length≤255:=by
 unfold nameS
 rw[Bool.and_eq_true,decide_eq_true_eq,Option.isSome_iff_exists]
 constructor
 · rintro⟨h1,L,h2⟩
   obtain⟨a,b⟩:=labW_some h2
   exact⟨L,a,b,h1⟩
 · rintro⟨L,rfl,h2,h3⟩
   exact⟨h3,L,labW_flat L h2⟩
def splitS (n:List UInt8):List (List UInt8)×Bool:=if n.length≤255 then (match labW n with | some l=>(l,true) | none=>([],false)) else ([],false)
theorem splitS_2 (n:List UInt8):(splitS n).2=nameS n:=by
 unfold splitS nameS
 by_cases h:n.length≤255
 · simp only[h,if_true,decide_true,Bool.true_and]
   cases labW n<;>rfl
 · simp[h]
theorem split_loop (n:List UInt8) (acc:List (List UInt8)) (hs:(n.length:Int)≤1000000) (hn:acc.length+n.length≤1000000) :
 loopS step_name_split_0 (n,acc)=some (match labW n with | some l=>.inr ([0],acc++l) | none=>if n=[] then .inr ([],acc) else .inl false):=by
 fun_induction labW n generalizing acc with
 | case1 =>
  refine loopS_out ?_
  simp only[step_name_split_0,grdEq_self]
  rfl
 | case2 b r h =>
  obtain⟨rfl,rfl⟩:=h
  refine loopS_out ?_
  simp only[step_name_split_0,grdEq_self,List.append_nil]
  rfl
 | case3 b r h1 h2 ih =>
  have hb:=byte_lt b
  have e1:(!(b::r)==[0])=true:=by
   simp only[Bool.not_eq_true',beq_eq_false_iff_ne,ne_eq,List.cons.injEq]
   exact h1
  have hst:step_name_split_0 (b::r,acc)=some (.inl (r.drop b.toNat,acc++[r.take b.toNat])):=by
   have e2:(b::r)[0]? = some b:=rfl
   simp only[List.length_cons] at hs
   have e3:decide ((0:Int)<((b::r).length:Int))=true:=by simp
   simp only[step_name_split_0,e3,e1,e2,if_true,bnd_some,grdEq_self,wrap_byte]
   rw[if_pos (by simp;omega),if_pos (by simp;omega),wrap_id (x:=(b.toNat:Int)+1) (by omega) (by omega),if_neg (by simp;omega)]
   simp only[bnd_some]
   rw[wrap_id (x:=1+(b.toNat:Int)) (by omega) (by omega)]
   have e4:(1+(b.toNat:Int))=((b.toNat+1:Nat):Int):=by omega
   rw[e4,natOf_nat,grdp (by simp;omega),grdp (by omega),grdp (by unfold roomLim;simp only[List.length_cons] at hn;simp;omega),natOf_nat,grdp (by simp;omega)]
   rfl
  rw[loopS_next hst]
  have hd:(r.drop b.toNat)≠[]:=by intro h;have:=congrArg List.length h;simp at this;omega
  have h:=ih (acc++[r.take b.toNat]) (by simp only[List.length_cons] at hs;simp;omega) (by simp only[List.length_cons] at hn;simp;omega)
  rw[h]
  cases hr:labW (r.drop b.toNat) with
  | some L=>simp
  | none=>simp only[hd,if_false,Option.map_none];rfl
 | case4 b r h1 h2 =>
  refine loopS_out ?_
  have hb:=byte_lt b
  simp only[List.length_cons] at hs
  have e1:(!(b::r)==[0])=true:=by
   simp only[Bool.not_eq_true',beq_eq_false_iff_ne,ne_eq,List.cons.injEq]
   exact h1
  have e2:(b::r)[0]? = some b:=rfl
  have e3:decide ((0:Int)<((b::r).length:Int))=true:=by simp
  simp only[step_name_split_0,e3,e1,e2,if_true,bnd_some,grdEq_self,wrap_byte]
  rw[wrap_id (x:=(b.toNat:Int)+1) (by omega) (by omega)]
  by_cases c1:(b.toNat:Int)<1
  · simp only[c1,decide_true,bnd_some];rfl
  · by_cases c2:63<(b.toNat:Int)
    · simp only[c1,c2,decide_true,decide_false,bnd_some,if_true];rfl
    · have c3:((b::r).length:Int)≤(b.toNat:Int)+1:=by simp only[List.length_cons];omega
      simp only[c1,c2,c3,decide_true,decide_false,if_true,bnd_some];rfl
theorem name_split_eq {n:List UInt8} (hs:(n.length:Int)≤maxI):F_name_split n=some (splitS n):=by
 unfold F_name_split splitS
 by_cases h:255<n.length
 · rw[if_pos (by simp;omega),if_neg (by omega)]
 · rw[if_neg (by simp;omega),if_pos (by omega),split_loop n [] (by omega) (by simp;omega),bnd_some]
   cases labW n with
   | some l=>simp
   | none =>
    by_cases h0:n=[]
    · subst h0;rfl
    · simp[h0]
theorem name_Check_eq {n:List UInt8} (hs:(n.length:Int)≤maxI):F_name_Check n=some (nameS n):=by
 unfold F_name_Check
 rw[name_split_eq hs,bnd_some,←splitS_2]
theorem readW_name {msg:List UInt8} (at_ least next:Int) (out:List UInt8) (ho:out.length<255) (hL:∃L,out=flat L∧okL L) :
 (readW msg at_ least next out).2.2=0→nameS (readW msg at_ least next out).1=true:=by
 fun_induction readW msg at_ least next out with
 | case1=>simp
 | case2 at_ least next out h1 =>
  intro _
  obtain⟨L,rfl,h2⟩:=hL
  exact nameS_iff.2 ⟨L,rfl,h2,by simp;omega⟩
 | case3=>simp
 | case4 at_ least next out k h1 h2 h3 p h4 h5 ih=>exact ih ho hL
 | case5=>simp
 | case6=>simp
 | case7=>simp
 | case8 at_ least next out k h1 h2 h3 h4 l h5 h6 ih =>
  refine ih (by simp;omega) ?_
  obtain⟨L,rfl,ho2⟩:=hL
  obtain⟨k0,k1,b,hb,hk⟩:=getS1 h1
  have hl:=takeS_len h5
  obtain⟨t0,t1,t2⟩:=takeS_bounds h5
  unfold takeS at h5
  rw[if_pos (by omega)] at h5
  simp only[Option.some.injEq] at h5
  have hlt:at_.toNat<msg.length:=by omega
  rw[List.drop_eq_getElem_cons hlt] at h5
  have hbb:msg[at_.toNat]=b:=by simpa[hlt] using hb
  rw[hbb,show (k+1).toNat=b.toNat+1 by omega,List.take_succ_cons] at h5
  generalize hx:List.take b.toNat (List.drop (at_.toNat+1) msg)=x at h5
  have hxl:x.length=b.toNat:=by rw[←h5] at hl;simp only[List.length_cons] at hl;omega
  refine⟨L++[x],?_,?_⟩
  · rw[flat_app,←h5]
    simp[flat,lab,hxl]
  · intro y hy
    rcases List.mem_append.1 hy with h | h
    · exact ho2 y h
    · simp only[List.mem_singleton] at h
      subst h
      omega
 | case9=>simp
theorem readS_name {msg:List UInt8} {a:Int} (h:(readS msg a).2.2=0):nameS (readS msg a).1=true :=
 readW_name a a (-1) [] (by simp) ⟨[],rfl,fun _ h=>by simp at h⟩ h
end Go.Abs

namespace Go.Abs
open Go
theorem takeS_eq {s t:List UInt8} {a n:Int} (h:takeS s a n=some t):0≤a∧n=t.length∧a+n≤s.length∧(s.drop a.toNat).take t.length=t:=by
 have hl:=takeS_len h
 obtain⟨b0,b1,b2⟩:=takeS_bounds h
 refine⟨b0,by omega,b1,?_⟩
 unfold takeS at h
 rw[if_pos (by omega)] at h
 simp only[Option.some.injEq] at h
 rw[show n.toNat=t.length by omega] at h
 exact h
theorem takeS_mk {s t:List UInt8} {a n:Int} (h0:0≤a) (hn:n=t.length) (h1:a+n≤s.length) (h:(s.drop a.toNat).take t.length=t):takeS s a n=some t:=by
 unfold takeS
 rw[if_pos (by omega),show n.toNat=t.length by omega,h]
theorem takeS_app {s u v:List UInt8} {a n:Int} (h:takeS s a n=some (u++v)):takeS s a u.length=some u∧takeS s (a+u.length) v.length=some v:=by
 obtain⟨h0,hn,h1,h2⟩:=takeS_eq h
 simp only[List.length_append] at hn h1 h2
 have hu:(s.drop a.toNat).take u.length=u:=by
  have:=congrArg (List.take u.length) h2
  rw[List.take_take,List.take_left,Nat.min_eq_left (by omega)] at this
  exact this
 refine⟨takeS_mk h0 rfl (by omega) hu,takeS_mk (by omega) rfl (by omega) ?_⟩
 have:=congrArg (List.drop u.length) h2
 rw[List.drop_left,List.drop_take,List.drop_drop] at this
 rw[show (a+(u.length:Int)).toNat=a.toNat+u.length by omega]
 rw[show u.length+v.length-u.length=v.length by omega] at this
 exact this
theorem takeS_self (s:List UInt8):takeS s 0 s.length=some s:=takeS_mk (by omega) rfl (by omega) (by simp)
theorem getS_cons {s t:List UInt8} {b:UInt8} {a n:Int} (h:takeS s a n=some (b::t)):getS s a 1=some (b.toNat:Int):=by
 have h2:=(takeS_app (u:=[b]) (v:=t) h).1
 unfold getS
 have e:(([b]:List UInt8).length:Int)=1:=rfl
 rw[e] at h2
 rw[if_pos (by omega),h2]
 simp[beN]
theorem readW_plain {msg:List UInt8}:∀(L:List (List UInt8)) (at_ least next n:Int) (out:List UInt8),okL L→takeS msg at_ n=some (flat L++[0])→out.length+(flat L).length<255 →
 readW msg at_ least next out=(out++(flat L++[0]),(if next<0 then at_+(flat L++[0]).length else next),0)
 | [],at_,least,next,n,out,hL,h,ho=>by
  have hg:getS msg at_ 1=some 0:=getS_cons (t:=[]) (b:=0) h
  rw[readW,hg]
  simp[flat_nil]
 | x::L,at_,least,next,n,out,hL,h,ho=>by
  obtain⟨x1,x2⟩:=hL x (by simp)
  have hx:(UInt8.ofNat x.length).toNat=x.length:=by simp;omega
  have e:flat (x::L)++[0]=lab x++(flat L++[0]):=by simp[flat]
  rw[e] at h
  obtain⟨h1,h2⟩:=takeS_app h
  have hg:getS msg at_ 1=some (x.length:Int):=by
   have:=getS_cons (b:=UInt8.ofNat x.length) (t:=x) h1
   rwa [hx] at this
  have hll:(lab x).length=x.length+1:=by simp[lab]
  have hfl:(flat (x::L)).length=x.length+1+(flat L).length:=by rw[flat_cons];simp;omega
  rw[hll] at h1 h2
  rw[readW,hg]
  simp only
  have e1:((x.length:Int)+1)=((x.length+1:Nat):Int):=by omega
  rw[if_neg (by omega),if_neg (by omega),if_neg (by omega),e1,h1]
  simp only
  rw[dif_pos (by omega),hll]
  rw[readW_plain L _ _ _ _ (out++lab x) (fun y hy=>hL y (by simp[hy])) h2 (by simp only[List.length_append,hll];omega),e]
  simp only[List.length_append,List.append_assoc,hll]
  congr 2
  by_cases hn:next<0
  · simp only[hn,if_true]
    simp only[List.length_cons,List.length_nil]
    omega
  · simp only[hn,if_false]
theorem readS_plain {msg nm:List UInt8} {a n:Int} (hn:nameS nm=true) (h:takeS msg a n=some nm):readS msg a=(nm,a+nm.length,0):=by
 obtain⟨L,rfl,hL,hl⟩:=nameS_iff.1 hn
 unfold readS
 rw[readW_plain L a a (-1) n [] hL h (by simp at hl ⊢;omega)]
 simp
theorem nameS_pos {n:List UInt8} (h:nameS n=true):1≤n.length∧n.length≤255:=by
 obtain⟨L,rfl,hL,hl⟩:=nameS_iff.1 h
 exact⟨by simp,hl⟩
theorem namesW_names {msg:List UInt8}:∀{n:Nat} {i:Int} {l:List (List UInt8)} {j:Int},namesW msg n i=some (l,j)→∀x∈l,nameS x=true
 | 0,i,l,j,h=>by simp only[namesW,Option.some.injEq,Prod.mk.injEq] at h;obtain⟨rfl,rfl⟩:=h;simp
 | n+1,i,l,j,h=>by
  unfold namesW at h
  split at h
  · rename_i h0
    cases hr:namesW msg n (readS msg i).2.1 with
    | none=>rw[hr] at h;simp at h
    | some p =>
     obtain⟨l',j'⟩:=p
     rw[hr] at h
     simp only[Option.map_some,Option.some.injEq,Prod.mk.injEq] at h
     obtain⟨rfl,rfl⟩:=h
     intro x hx
     rcases List.mem_cons.1 hx with rfl | hx
     · exact readS_name h0
     · exact namesW_names hr x hx
  · simp at h
theorem namesW_plain {d:List UInt8}:∀(l:List (List UInt8)) (i n:Int) (r:List UInt8),(∀x∈l,nameS x=true)→takeS d i n=some (l.flatten++r)→namesW d l.length i=some (l,i+l.flatten.length)
 | [],i,n,r,_,_=>by simp[namesW]
 | x::l,i,n,r,hl,h=>by
  rw[List.flatten_cons,List.append_assoc] at h
  obtain⟨h1,h2⟩:=takeS_app h
  have hr:=readS_plain (hl x (by simp)) h1
  rw[List.length_cons,namesW,hr]
  simp only[if_true]
  rw[namesW_plain l _ _ r (fun y hy=>hl y (by simp[hy])) h2]
  simp only[Option.map_some,List.flatten_cons,List.length_append]
  congr 2
  omega
def dataC (kind:Int) (d:List UInt8):Bool:=decide (d.length≤65535)&&(expS d 0 d.length kind).2==0&&(expS d 0 d.length kind).1==d
theorem data_Check_eq (kind:Int) (d:List UInt8):F_data_Check kind d=some (dataC kind d):=by
 unfold F_data_Check dataC
 by_cases h:65535<d.length
 · rw[if_pos (by simp;omega)]
   have:decide (d.length≤65535)=false:=by simp;omega
   simp[this]
 · rw[if_neg (by simp;omega),data_Expand_eq (by omega),bnd_some]
   have:decide (d.length≤65535)=true:=by simp;omega
   rw[this]
   simp only[Bool.true_and]
   cases (expS d 0 d.length kind).2==0<;>simp
def inC (n most:Int):Bool:=decide (0≤n)&&decide (n≤most)
theorem record_in_eq (n m:Int):F_record_in n m=some (inC n m):=by
 unfold F_record_in inC
 by_cases h:0≤n<;>simp[h]
def recC (r:RRt):Bool:=nameS r.1&&inC r.2.1 65535&&inC r.2.2.1 65535&&inC r.2.2.2.1 2147483647&&dataC r.2.1 r.2.2.2.2
theorem record_Check_eq {r:RRt} (hs:(r.1.length:Int)≤maxI):F_record_Check r=some (recC r):=by
 unfold F_record_Check recC
 simp only[name_Check_eq hs,record_in_eq,data_Check_eq,bnd_some]
 cases nameS r.1<;>cases inC r.2.1 65535<;>cases inC r.2.2.1 65535<;>cases inC r.2.2.2.1 2147483647<;>simp
end Go.Abs

namespace Go.Abs
open Go
def nm (L:List (List UInt8)):List UInt8:=flat L++[0]
theorem nm_cons (x:List UInt8) (L:List (List UInt8)):nm (x::L)=UInt8.ofNat x.length::(x++nm L):=by simp[nm,flat_cons]
theorem nm_len_cons (x:List UInt8) (L:List (List UInt8)):(nm (x::L)).length=x.length+1+(nm L).length:=by rw[nm_cons];simp;omega
theorem nm_pos (L:List (List UInt8)):1≤(nm L).length:=by simp[nm]
theorem nameS_nm {L:List (List UInt8)} (h:okL L) (hl:(nm L).length≤255):nameS (nm L)=true:=nameS_iff.2 ⟨L,rfl,h,hl⟩
theorem nameS_L {n:List UInt8} (h:nameS n=true):∃L,n=nm L∧okL L∧(nm L).length≤255:=by
 obtain⟨L,rfl,h1,h2⟩:=nameS_iff.1 h
 exact⟨L,rfl,h1,h2⟩
theorem labW_nm {L:List (List UInt8)} (h:okL L):labW (nm L)=some L:=labW_flat L h
theorem okL_tail {x:List UInt8} {L:List (List UInt8)} (h:okL (x::L)):okL L:=fun y hy=>h y (by simp[hy])
theorem nm_app (L M:List (List UInt8)):nm (L++M)=flat L++nm M:=by simp[nm,flat_app]
def lowB (b:UInt8):UInt8:=if 65≤b.toNat∧b.toNat≤90 then UInt8.ofNat (b.toNat+32) else b
def lowS (s:List UInt8):List UInt8:=s.map lowB
theorem lowS_app (s t:List UInt8):lowS (s++t)=lowS s++lowS t:=by simp[lowS]
theorem lowS_len (s:List UInt8):(lowS s).length=s.length:=by simp[lowS]
theorem wrap8 (n:Nat):IntKind.u8.wrap (n:Int)=((n % 256:Nat):Int):=by simp[IntKind.wrap,IntKind.bits,IntKind.signed]
theorem ofNat_mod (n:Nat):UInt8.ofNat (n % 256)=UInt8.ofNat n:=by
 apply UInt8.toNat_inj.1
 simp
theorem name_small_eq (b:UInt8):F_name_small (b.toNat:Int)=some ((lowB b).toNat:Int):=by
 have hb:=b.toNat_lt
 unfold F_name_small lowB
 by_cases h1:65≤b.toNat
 · by_cases h2:b.toNat≤90
   · rw[if_pos (by simp;omega),if_pos (by simp;omega),if_pos ⟨h1,h2⟩]
     have e:((b.toNat:Int)+32)=((b.toNat+32:Nat):Int):=by omega
     rw[e,wrap8]
     simp
   · rw[if_pos (by simp;omega),if_neg (by simp;omega),if_neg (by omega)]
 · rw[if_neg (by simp;omega),if_neg (by omega)]
theorem ints_app (s t:List UInt8):ints (s++t)=ints s++ints t:=by simp[ints]
theorem ints_cons (b:UInt8) (t:List UInt8):ints (b::t)=(b.toNat:Int)::ints t:=rfl
theorem mid_get (A:List Int) (c:Int) (B:List Int):(A++c::B)[A.length]? = some c:=by simp
theorem mid_set (A:List Int) (c d:Int) (B:List Int):(A++c::B).set A.length d=A++d::B:=by simp
theorem low_loop (s:List UInt8) (hs:(s.length:Int)≤maxI):∀(v u:List UInt8),s=u++v→loopS (step_name_low_0 s) (ints (lowS u)++ints v,(ints (lowS u)++ints v,(u.length:Int)))=some (ints (lowS s))
 | [],u,h=>by
  refine loopS_out ?_
  rw[List.append_nil] at h
  subst h
  simp only[step_name_low_0,List.length_map,Int.lt_irrefl,decide_false,Bool.false_eq_true,if_false]
  simp[ints]
 | b::v,u,h=>by
  have hm:maxI=9223372036854775807:=rfl
  have hl:s.length=u.length+1+v.length:=by rw[h];simp;omega
  have hlen:(ints (lowS u)).length=u.length:=by rw[ints_len,lowS_len]
  rw[loopS_next (y:=(ints (lowS (u++[b]))++ints v,(ints (lowS (u++[b]))++ints v,((u++[b]).length:Int))))]
  · exact low_loop s hs v (u++[b]) (by rw[h];simp)
  · simp only[step_name_low_0,List.length_map]
    rw[if_pos (by simp;omega),natOf_nat,ints_cons,←hlen]
    simp only[mid_get,bnd_some,name_small_eq,natOf_nat,grdEq_self,mid_set]
    rw[wrap_id (by omega) (by omega)]
    simp[ints,lowS]
theorem name_low_eq {s:List UInt8} (hs:(s.length:Int)≤maxI):F_name_low s=some (lowS s):=by
 unfold F_name_low
 have:=low_loop s hs s [] rfl
 simp only[lowS,List.map_nil,ints,List.nil_append,List.length_nil] at this
 simp only[Int.natCast_zero] at this
 rw[this,bnd_some]
 have hb:=bytes_back (lowS s)
 simp only[lowS] at hb
 rw[hb]
 rfl
theorem small_loop (s:List UInt8) (hs:(s.length:Int)≤maxI):∀(v u:List UInt8),s=u++v→loopS step_ref02_Small_0 (ints (lowS u)++ints v,(u.length:Int))=some (ints (lowS s))
 | [],u,h=>by
  refine loopS_out ?_
  rw[List.append_nil] at h
  subst h
  simp only[step_ref02_Small_0,List.length_append,ints_len,lowS_len]
  rw[if_neg (by simp[ints])]
  simp[ints]
 | b::v,u,h=>by
  have hm:maxI=9223372036854775807:=rfl
  have hl:s.length=u.length+1+v.length:=by rw[h];simp;omega
  have hlen:(ints (lowS u)).length=u.length:=by rw[ints_len,lowS_len]
  have hb:=b.toNat_lt
  rw[loopS_next (y:=(ints (lowS (u++[b]))++ints v,((u++[b]).length:Int)))]
  · exact small_loop s hs v (u++[b]) (by rw[h];simp)
  · simp only[step_ref02_Small_0,List.length_append,ints_len,lowS_len,List.length_cons]
    rw[if_pos (by simp;omega),natOf_nat,ints_cons,←hlen,mid_get,bnd_some]
    have hx:ints (lowS (u++[b]))=ints (lowS u)++[((lowB b).toNat:Int)]:=by rw[lowS_app,ints_app];rfl
    by_cases h1:65≤b.toNat
    · by_cases h2:b.toNat≤90
      · rw[if_pos (by simp;omega)]
        have e1:decide ((b.toNat:Int)≤90)=true:=by simp;omega
        simp only[natOf_nat,mid_get,bnd_some,grdEq_self,e1,if_true,mid_set]
        have e:((b.toNat:Int)+32)=((b.toNat+32:Nat):Int):=by omega
        rw[wrap_id (x:=((ints (lowS u)).length:Int)+1) (by omega) (by omega),e,wrap8,hx]
        unfold lowB
        rw[if_pos ⟨h1,h2⟩]
        simp
      · rw[if_pos (by simp;omega)]
        have e1:decide ((b.toNat:Int)≤90)=false:=by simp;omega
        simp only[natOf_nat,mid_get,bnd_some,grdEq_self,e1,Bool.false_eq_true,if_false]
        rw[wrap_id (x:=((ints (lowS u)).length:Int)+1) (by omega) (by omega),hx]
        unfold lowB
        rw[if_neg (by omega)]
        simp
    · rw[if_neg (by simp;omega)]
      simp only[bnd_some,grdEq_self,Bool.false_eq_true,if_false]
      rw[wrap_id (x:=((ints (lowS u)).length:Int)+1) (by omega) (by omega),hx]
      unfold lowB
      rw[if_neg (by omega)]
      simp
theorem ref02_Small_eq {s:List UInt8} (hs:(s.length:Int)≤maxI):F_ref02_Small s=some (lowS s):=by
 unfold F_ref02_Small
 have:=small_loop s hs s [] rfl
 simp only[lowS,List.map_nil,ints,List.nil_append,List.length_nil] at this
 simp only[Int.natCast_zero] at this
 rw[this,bnd_some]
 have hb:=bytes_back (lowS s)
 simp only[lowS] at hb
 rw[hb]
 rfl
theorem labels_loop (n:List UInt8) (hs:n.length≤255) (m:List UInt8) (i:Nat) (out:List (List UInt8)) (hi:i≤n.length) (hm:n.drop i=m) (ho:out.length≤i) :
 ∃r,loopS (step_ref02_Labels_0 n) (out,(i:Int))=some r∧(match labW m with | some L=>r=.inl (out++L,true) | none=>(∃l,r=.inl (l,false))∨r=.inr ()):=by
 have hlen:m.length=n.length-i:=by rw[←hm];simp
 fun_induction labW m generalizing i out with
 | case1 =>
  simp only[List.length_nil] at hlen
  refine⟨.inr (),loopS_out ?_,.inr rfl⟩
  simp only[step_ref02_Labels_0]
  rw[if_neg (by simp;omega)]
 | case2 b r h =>
  obtain⟨rfl,rfl⟩:=h
  simp only[List.length_cons,List.length_nil] at hlen
  have hg:n[i]? = some 0:=by rw[←List.head?_drop,hm];rfl
  refine⟨.inl (out,true),loopS_out ?_,by simp⟩
  simp only[step_ref02_Labels_0]
  rw[if_pos (by simp;omega),natOf_nat,hg,bnd_some,wrap_byte,wrap_id (x:=(n.length:Int)-1) (by omega) (by omega)]
  have e:((i:Int)==(n.length:Int)-1)=true:=by simp;omega
  rw[e]
  rfl
 | case3 b r h1 h2 ih =>
  simp only[List.length_cons] at hlen
  have hb:=byte_lt b
  have hg:n[i]? = some b:=by rw[←List.head?_drop,hm];rfl
  have hd1:n.drop (i+1)=r:=by rw[←List.drop_drop,hm];rfl
  have hd2:n.drop (i+1+b.toNat)=r.drop b.toNat:=by rw[←List.drop_drop,hd1]
  obtain⟨res,g1,g2⟩:=ih (i+1+b.toNat) (out++[r.take b.toNat]) (by omega) hd2 (by simp;omega) (by simp;omega)
  have hst:step_ref02_Labels_0 n (out,(i:Int))=some (.inl (out++[r.take b.toNat],((i+1+b.toNat:Nat):Int))):=by
   simp only[step_ref02_Labels_0]
   have e0:((b.toNat:Int)==0)=false:=by simp;omega
   rw[if_pos (by simp;omega),natOf_nat,hg,bnd_some,wrap_byte,e0,wrap_id (x:=(n.length:Int)-i) (by omega) (by omega)]
   simp only[Bool.false_eq_true,if_false]
   rw[if_pos (by simp;omega),if_neg (by simp;omega),grdEq_self,grdEq_self,grdEq_self,bnd_some]
   simp only
   rw[wrap_id (x:=(i:Int)+1) (by omega) (by omega),wrap_id (x:=(i:Int)+1+(b.toNat:Int)) (by omega) (by omega)]
   have e4:(i:Int)+1+(b.toNat:Int)=((i+1+b.toNat:Nat):Int):=by omega
   have e5:(i:Int)+1=((i+1:Nat):Int):=by omega
   rw[e4,e5,natOf_nat,grdp (by omega),natOf_nat,grdp (by omega),grdp (by unfold roomLim;simp;omega),grdEq_self]
   rw[List.drop_take,hd1]
   have e6:i+1+b.toNat-(i+1)=b.toNat:=by omega
   rw[e6]
  rw[loopS_next hst]
  refine⟨res,g1,?_⟩
  cases hr:labW (r.drop b.toNat) with
  | some L=>rw[hr] at g2;simp only at g2;simp[g2]
  | none=>rw[hr] at g2;simpa using g2
 | case4 b r h1 h2 =>
  simp only[List.length_cons] at hlen
  have hb:=byte_lt b
  have hg:n[i]? = some b:=by rw[←List.head?_drop,hm];rfl
  by_cases hz:b.toNat=0
  · have hbz:b=0:=UInt8.toNat_inj.1 (by simpa using hz)
    subst hbz
    refine⟨.inl (out,false),loopS_out ?_,.inl ⟨_,rfl⟩⟩
    have hr:r≠[]:=fun h=>h1 ⟨rfl,h⟩
    have hrl:0<r.length:=List.length_pos_iff.2 hr
    simp only[step_ref02_Labels_0]
    rw[if_pos (by simp;omega),natOf_nat,hg,bnd_some,wrap_byte,wrap_id (x:=(n.length:Int)-1) (by omega) (by omega)]
    have e:((i:Int)==(n.length:Int)-1)=false:=by simp;omega
    rw[e]
    rfl
  · have e0:((b.toNat:Int)==0)=false:=by simp;omega
    by_cases c2:63<b.toNat
    · refine⟨.inl ([],false),loopS_out ?_,.inl ⟨_,rfl⟩⟩
      simp only[step_ref02_Labels_0]
      rw[if_pos (by simp;omega),natOf_nat,hg,bnd_some,wrap_byte,e0]
      simp only[Bool.false_eq_true,if_false]
      rw[if_neg (by simp;omega)]
      rfl
    · by_cases c3:r.length+1≤b.toNat
      · refine⟨.inl ([],false),loopS_out ?_,.inl ⟨_,rfl⟩⟩
        simp only[step_ref02_Labels_0]
        rw[if_pos (by simp;omega),natOf_nat,hg,bnd_some,wrap_byte,e0,wrap_id (x:=(n.length:Int)-i) (by omega) (by omega)]
        simp only[Bool.false_eq_true,if_false]
        rw[if_pos (by simp;omega),if_pos (by simp;omega)]
        rfl
      · have hbr:b.toNat=r.length:=by omega
        refine⟨.inr (),?_,.inr rfl⟩
        have hd1:n.drop (i+1)=r:=by rw[←List.drop_drop,hm];rfl
        rw[loopS_next (y:=(out++[r.take b.toNat],((i+1+b.toNat:Nat):Int)))]
        · refine loopS_out ?_
          simp only[step_ref02_Labels_0]
          rw[if_neg (by simp;omega)]
        · simp only[step_ref02_Labels_0]
          rw[if_pos (by simp;omega),natOf_nat,hg,bnd_some,wrap_byte,e0,wrap_id (x:=(n.length:Int)-i) (by omega) (by omega)]
          simp only[Bool.false_eq_true,if_false]
          rw[if_pos (by simp;omega),if_neg (by simp;omega),grdEq_self,grdEq_self,grdEq_self,bnd_some]
          simp only
          rw[wrap_id (x:=(i:Int)+1) (by omega) (by omega),wrap_id (x:=(i:Int)+1+(b.toNat:Int)) (by omega) (by omega)]
          have e4:(i:Int)+1+(b.toNat:Int)=((i+1+b.toNat:Nat):Int):=by omega
          have e5:(i:Int)+1=((i+1:Nat):Int):=by omega
          rw[e4,e5,natOf_nat,grdp (by omega),natOf_nat,grdp (by omega),grdp (by unfold roomLim;simp;omega),grdEq_self]
          rw[List.drop_take,hd1]
          have e6:i+1+b.toNat-(i+1)=b.toNat:=by omega
          rw[e6]
theorem ref02_Labels_eq (n:List UInt8):∃l,F_ref02_Labels n=some (l,nameS n)∧(nameS n=true→labW n=some l):=by
 unfold F_ref02_Labels nameS
 by_cases h1:n.length<1
 · have:n=[]:=List.length_eq_zero_iff.1 (by omega)
   subst this
   exact⟨[],by rw[if_neg (by simp)];simp[labW,bnd_some],by simp[labW]⟩
 · rw[if_pos (by simp;omega)]
   by_cases h2:255<n.length
   · rw[if_pos (by simp;omega)]
     have:decide (n.length≤255)=false:=by simp;omega
     rw[this]
     exact⟨[],rfl,by simp⟩
   · rw[if_neg (by simp;omega),grdEq_self,bnd_some]
     have hd:decide (n.length≤255)=true:=by simp;omega
     rw[hd]
     obtain⟨r,g1,g2⟩:=labels_loop n (by omega) n 0 [] (by omega) rfl (by simp)
     simp only[Int.natCast_zero] at g1
     simp only[g1,bnd_some]
     cases hl:labW n with
     | some L =>
      rw[hl] at g2
      simp only[List.nil_append] at g2
      subst g2
      exact⟨L,rfl,fun _=>rfl⟩
     | none =>
      rw[hl] at g2
      rcases g2 with ⟨l,rfl⟩ | rfl
      · exact⟨l,rfl,by simp⟩
      · exact⟨[],rfl,by simp⟩
theorem ref02_Check_eq (n:List UInt8):F_ref02_Check n=some (nameS n):=by
 unfold F_ref02_Check
 obtain⟨l,h,_⟩:=ref02_Labels_eq n
 rw[h,bnd_some]
def sameS (a b:List UInt8):Bool:=nameS a&&nameS b&&(lowS a==lowS b)
theorem name_Same_eq {a b:List UInt8} (ha:(a.length:Int)≤maxI) (hb:(b.length:Int)≤maxI):F_name_Same a b=some (sameS a b):=by
 unfold F_name_Same sameS
 simp only[name_Check_eq ha,name_Check_eq hb,name_low_eq ha,name_low_eq hb,bnd_some]
 cases nameS a<;>cases nameS b<;>simp
def upS:List (List UInt8)→List UInt8×Bool
 | []=>([],false)
 | _::L=>(nm L,true)
theorem name_Up_eq {L:List (List UInt8)} (h:okL L) (hl:(nm L).length≤255):F_name_Up (nm L)=some (upS L):=by
 have hm:maxI=9223372036854775807:=rfl
 unfold F_name_Up
 rw[name_Check_eq (by omega),bnd_some,nameS_nm h hl]
 simp only[Bool.not_true,if_true]
 cases L with
 | nil=>rfl
 | cons x L =>
  obtain⟨x1,x2⟩:=h x (by simp)
  have hx:(UInt8.ofNat x.length).toNat=x.length:=by simp;omega
  have e1:(nm (x::L)==[0])=false:=by
   rw[nm_cons]
   simp only[beq_eq_false_iff_ne,ne_eq,List.cons.injEq,not_and]
   intro h0
   have:=congrArg UInt8.toNat h0
   rw[hx] at this
   have h00:(0:UInt8).toNat=0:=rfl
   omega
  have e2:(nm (x::L))[0]? = some (UInt8.ofNat x.length):=by rw[nm_cons];rfl
  rw[e1,e2]
  simp only[Bool.false_eq_true,if_false,bnd_some]
  have hlc:=nm_len_cons x L
  rw[hx,wrap_id (x:=(x.length:Int)) (by omega) (by omega),wrap_id (x:=1+(x.length:Int)) (by omega) (by omega)]
  have e3:1+(x.length:Int)=((x.length+1:Nat):Int):=by omega
  rw[e3,natOf_nat,grdp (by omega),nm_cons,List.drop_succ_cons,List.drop_left]
  rfl
end Go.Abs

namespace Go.Abs
open Go
def put2 (n:Int):List UInt8:=[UInt8.ofNat (n.toNat / 256),UInt8.ofNat n.toNat]
def put4 (n:Int):List UInt8:=[UInt8.ofNat (n.toNat / 16777216),UInt8.ofNat (n.toNat / 65536),UInt8.ofNat (n.toNat / 256),UInt8.ofNat n.toNat]
theorem fdiv_nat (m k:Nat):((m:Int)).fdiv (2 ^ k)=((m / 2 ^ k:Nat):Int):=by
 have:(2:Int) ^ k=((2 ^ k:Nat):Int):=by simp
 rw[this,Int.ofNat_fdiv]
theorem octet_put2 {n:Int} (h0:0≤n) (h1:n<65536):F_octet_Put n 2=some (put2 n):=by
 obtain⟨m,rfl⟩:=Int.eq_ofNat_of_zero_le h0
 have hm:m<65536:=by omega
 have hs:F_octet_sized 2=some true:=rfl
 have hn:¬(m:Int)<0:=by omega
 have h16:(natOf (IntKind.i64.wrap (8*2)) fun n4=>if ((m:Int).fdiv (2 ^ min n4 64) != 0)=true then some (Sum.inl ([]:List UInt8)) else some (Sum.inr ()))=some (Sum.inr ()):=by
  have e:IntKind.i64.wrap (8*2)=((16:Nat):Int):=rfl
  rw[e,natOf_nat,show min 16 64=16 from rfl,fdiv_nat,show m / 2 ^ 16=0 by omega]
  rfl
 have e1:loopS (step_octet_Put_0 (m:Int) 2) ([0,0],0)=some [((m / 256 % 256:Nat):Int),((m % 256:Nat):Int)]:=by
  rw[loopS_next (y:=([0,((m % 256:Nat):Int)],1))]
  · rw[loopS_next (y:=([((m / 256 % 256:Nat):Int),((m % 256:Nat):Int)],2))]
    · refine loopS_out ?_
      simp only[step_octet_Put_0]
      rfl
    · simp only[step_octet_Put_0,grdEq_self]
      rw[if_pos (by decide),show IntKind.i64.wrap (8*1)=((8:Nat):Int) from rfl,natOf_nat,show IntKind.i64.wrap (IntKind.i64.wrap (2-1)-1)=((0:Nat):Int) from rfl,natOf_nat]
      rw[show min 8 64=8 from rfl,fdiv_nat,wrap8]
      rfl
  · simp only[step_octet_Put_0,grdEq_self]
    rw[if_pos (by decide),show IntKind.i64.wrap (8*0)=((0:Nat):Int) from rfl,natOf_nat,show IntKind.i64.wrap (IntKind.i64.wrap (2-1)-0)=((1:Nat):Int) from rfl,natOf_nat]
    rw[show min 0 64=0 from rfl,fdiv_nat,wrap8,show m / 2 ^ 0=m by simp]
    rfl
 unfold F_octet_Put
 simp only[hs,bnd_some,Bool.not_true,if_true,hn,decide_false,grdEq_self,h16]
 rw[grdp (by decide),show (List.replicate (2:Int).toNat (0:Int))=[0,0] from rfl,e1]
 simp only[bnd_some,List.map_cons,List.map_nil,Int.toNat_natCast,ofNat_mod,put2]
theorem octet_put4 {n:Int} (h0:0≤n) (h1:n<4294967296):F_octet_Put n 4=some (put4 n):=by
 obtain⟨m,rfl⟩:=Int.eq_ofNat_of_zero_le h0
 have hm:m<4294967296:=by omega
 have hs:F_octet_sized 4=some true:=rfl
 have hn:¬(m:Int)<0:=by omega
 have h16:(natOf (IntKind.i64.wrap (8*4)) fun n4=>if ((m:Int).fdiv (2 ^ min n4 64) != 0)=true then some (Sum.inl ([]:List UInt8)) else some (Sum.inr ()))=some (Sum.inr ()):=by
  have e:IntKind.i64.wrap (8*4)=((32:Nat):Int):=rfl
  rw[e,natOf_nat,show min 32 64=32 from rfl,fdiv_nat,show m / 2 ^ 32=0 by omega]
  rfl
 have step:∀(i j:Nat) (b:List Int),j<4→b.length=4→i=3-j→step_octet_Put_0 (m:Int) 4 (b,(j:Int))=some (.inl (b.set i ((m / 2 ^ (8*j) % 256:Nat):Int),((j+1:Nat):Int))):=by
  intro i j b hj hb hi
  simp only[step_octet_Put_0,grdEq_self]
  rw[if_pos (by simp;omega),wrap_id (x:=8*(j:Int)) (by omega) (by omega),show 8*(j:Int)=((8*j:Nat):Int) by omega,natOf_nat,show IntKind.i64.wrap (4-1)=3 from rfl,
   wrap_id (x:=3-(j:Int)) (by omega) (by omega),show 3-(j:Int)=((i:Nat):Int) by omega,natOf_nat,List.getElem?_eq_getElem (by omega),bnd_some,wrap_id (x:=(j:Int)+1) (by omega) (by omega)]
  rw[show min (8*j) 64=8*j by omega,fdiv_nat,wrap8]
  rfl
 have e1:loopS (step_octet_Put_0 (m:Int) 4) ([0,0,0,0],0)=some [((m / 2 ^ 24 % 256:Nat):Int),((m / 2 ^ 16 % 256:Nat):Int),((m / 2 ^ 8 % 256:Nat):Int),((m / 2 ^ 0 % 256:Nat):Int)]:=by
  have s0:=step 3 0 [0,0,0,0] (by omega) rfl rfl
  have s1:=step 2 1 [0,0,0,((m / 2 ^ 0 % 256:Nat):Int)] (by omega) rfl rfl
  have s2:=step 1 2 [0,0,((m / 2 ^ 8 % 256:Nat):Int),((m / 2 ^ 0 % 256:Nat):Int)] (by omega) rfl rfl
  have s3:=step 0 3 [0,((m / 2 ^ 16 % 256:Nat):Int),((m / 2 ^ 8 % 256:Nat):Int),((m / 2 ^ 0 % 256:Nat):Int)] (by omega) rfl rfl
  refine (loopS_next s0).trans ?_
  refine (loopS_next s1).trans ?_
  refine (loopS_next s2).trans ?_
  refine (loopS_next s3).trans ?_
  refine loopS_out ?_
  simp only[step_octet_Put_0]
  rfl
 unfold F_octet_Put
 simp only[hs,bnd_some,Bool.not_true,if_true,hn,decide_false,grdEq_self,h16]
 rw[grdp (by decide),show (List.replicate (4:Int).toNat (0:Int))=[0,0,0,0] from rfl,e1]
 simp only[bnd_some,List.map_cons,List.map_nil,Int.toNat_natCast,ofNat_mod,put4,Nat.pow_zero,Nat.div_one]
def placeW:List (List UInt8)→List UInt8→Option (List (List UInt8))
 | [],_=>none
 | x::L,n=>if sameS (nm (x::L)) n then some (x::L) else placeW L n
theorem placeW_end:∀{B:List (List UInt8)} {n:List UInt8} {E:List (List UInt8)},placeW B n=some E→∃U,B=U++E∧sameS (nm E) n=true∧E≠[]
 | [],_,_,h=>by simp[placeW] at h
 | x::L,n,E,h=>by
  unfold placeW at h
  split at h
  · rename_i hs
    simp only[Option.some.injEq] at h
    subst h
    exact⟨[],rfl,hs,by simp⟩
  · obtain⟨U,rfl,h2⟩:=placeW_end h
    exact⟨x::U,rfl,h2⟩
theorem comp_place_loop {base n:List UInt8} (hb:base.length≤255) (hn:(n.length:Int)≤maxI):∀(L:List (List UInt8)),okL L→(nm L).length≤base.length →
 loopS (step_comp_place_0 base n) (nm L,true)=some (match placeW L n with | some E=>.inl ((base.length:Int)-(nm E).length) | none=>.inr ())
 | [],_,_=>by
  refine loopS_out ?_
  simp only[step_comp_place_0]
  rfl
 | x::L,h,hl=>by
  have hm:maxI=9223372036854775807:=rfl
  have hlc:=nm_len_cons x L
  have hp:=nm_pos L
  have c1:decide ((1:Int)<((nm (x::L)).length:Int))=true:=by simp;omega
  unfold placeW
  by_cases hs:sameS (nm (x::L)) n=true
  · refine loopS_out ?_
    simp only[step_comp_place_0,c1,if_true,grdEq_self,bnd_some,name_Same_eq (a:=nm (x::L)) (b:=n) (by omega) hn,hs]
    rw[wrap_id (by omega) (by omega)]
  · rw[loopS_next (y:=(nm L,true))]
    · rw[comp_place_loop hb hn L (okL_tail h) (by omega)]
      simp only[hs,Bool.false_eq_true,if_false]
    · simp only[step_comp_place_0,c1,if_true,grdEq_self,bnd_some,name_Same_eq (a:=nm (x::L)) (b:=n) (by omega) hn,hs,Bool.false_eq_true,if_false,name_Up_eq h (by omega),upS]
theorem comp_place_eq {B:List (List UInt8)} {n:List UInt8} (h:okL B) (hl:(nm B).length≤255) (hn:(n.length:Int)≤maxI) :
 F_comp_place (nm B) n=some (match placeW B n with | some E=>((nm B).length:Int)-(nm E).length | none=>-1):=by
 unfold F_comp_place
 rw[comp_place_loop hl hn B h (Nat.le_refl _),bnd_some]
 cases placeW B n<;>rfl
def writeW (B:List (List UInt8)) (a:Int) (n:List UInt8):List (List UInt8)→List UInt8
 | []=>n
 | y::M=>match placeW B (nm (y::M)) with
  | some E=>n.take (n.length-(nm (y::M)).length)++put2 (49152+a+((nm B).length-(nm E).length))
  | none=>writeW B a n M
theorem trim_eq {n pre suf:List UInt8} (h:n=pre++suf) (hn:n.length≤255):F_strings_TrimSuffix n suf=some (n.take (n.length-suf.length)):=by
 have hm:maxI=9223372036854775807:=rfl
 have hl:n.length=pre.length+suf.length:=by rw[h];simp
 have hs:F_stringslite_HasSuffix n suf=some true:=by
  unfold F_stringslite_HasSuffix
  have e1:decide ((suf.length:Int)≤(n.length:Int))=true:=by simp;omega
  simp only[e1,if_true]
  rw[wrap_id (by omega) (by omega),show (n.length:Int)-suf.length=((pre.length:Nat):Int) by omega,natOf_nat,grdp (by omega)]
  rw[h,List.drop_left]
  simp
 unfold F_strings_TrimSuffix F_stringslite_TrimSuffix
 rw[hs]
 simp only[bnd_some,if_true]
 rw[wrap_id (by omega) (by omega),show (n.length:Int)-suf.length=((n.length-suf.length:Nat):Int) by omega,natOf_nat,grdp (by omega),bnd_some]
theorem comp_Write_loop {B:List (List UInt8)} {a:Int} {n:List UInt8} (hB:okL B) (hBl:(nm B).length≤255) (hn:n.length≤255) (a0:0≤a) (a1:a≤16000):∀(M:List (List UInt8)) (pre:List UInt8),okL M→n=pre++nm M →
 ∃r,loopS (step_comp_Write_0 (nm B) a n) (nm M,true)=some r∧(match r with | .inl s=>s | .inr _=>n)=writeW B a n M
 | [],pre,_,hp=>by
  refine⟨.inr (),loopS_out ?_,rfl⟩
  simp only[step_comp_Write_0,grdEq_self]
  rfl
 | y::M,pre,h,hp=>by
  have hm:maxI=9223372036854775807:=rfl
  have hlc:=nm_len_cons y M
  have hpp:=nm_pos M
  have hnl:n.length=pre.length+(nm (y::M)).length:=by rw[hp];simp
  have c1:decide ((1:Int)<((nm (y::M)).length:Int))=true:=by simp;omega
  have hpl:=comp_place_eq (B:=B) (n:=nm (y::M)) hB hBl (by omega)
  unfold writeW
  cases hw:placeW B (nm (y::M)) with
  | some E =>
   rw[hw] at hpl
   obtain⟨U,hU,_,_⟩:=placeW_end hw
   have hEl:(nm E).length≤(nm B).length:=by rw[hU,nm_app];simp
   have c2:decide ((0:Int)≤((nm B).length:Int)-(nm E).length)=true:=by simp;omega
   refine⟨.inl _,loopS_out ?_,rfl⟩
   simp only[step_comp_Write_0,c1,if_true,grdEq_self,bnd_some,hpl,c2,trim_eq hp hn]
   rw[wrap_id (x:=49152+a) (by omega) (by omega),wrap_id (by omega) (by omega),octet_put2 (by omega) (by omega),bnd_some,grdp (by unfold maxStr;simp[put2];omega)]
  | none =>
   rw[hw] at hpl
   obtain⟨r,r1,r2⟩:=comp_Write_loop hB hBl hn a0 a1 M (pre++lab y) (okL_tail h) (by rw[hp];simp[nm,flat])
   refine⟨r,?_,r2⟩
   rw[loopS_next (y:=(nm M,true)),r1]
   have c2:decide ((0:Int)≤-1)=false:=rfl
   simp only[step_comp_Write_0,c1,if_true,grdEq_self,bnd_some,hpl,c2,Bool.false_eq_true,if_false,name_Up_eq h (by omega),upS]
def writeS (base:List UInt8) (a:Int) (n:List UInt8):List UInt8 :=
 if nameS base=true∧nameS n=true∧0≤a∧a≤16000 then writeW ((labW base).getD []) a n ((labW n).getD []) else []
theorem comp_Write_eq {base n:List UInt8} (hb:(base.length:Int)≤maxI) (hn:(n.length:Int)≤maxI) (a:Int):F_comp_Write base a n=some (writeS base a n):=by
 unfold F_comp_Write writeS
 simp only[name_Check_eq hb,name_Check_eq hn,bnd_some,grdEq_self]
 cases h1:nameS base with
 | false=>simp[bnd_some]
 | true =>
  cases h2:nameS n with
  | false=>simp[bnd_some]
  | true =>
   by_cases h3:a<0
   · have:¬(0≤a):=by omega
     simp[h3,this,bnd_some]
   · by_cases h4:16000<a
     · have:¬(a≤16000):=by omega
       simp[h3,h4,this,bnd_some]
     · obtain⟨B,rfl,hB,hBl⟩:=nameS_L h1
       obtain⟨M,rfl,hM,hMl⟩:=nameS_L h2
       obtain⟨r,r1,r2⟩:=comp_Write_loop (B:=B) (a:=a) (n:=nm M) hB hBl hMl (by omega) (by omega) M [] hM rfl
       have h5:0≤a∧a≤16000:=by omega
       simp only[Bool.not_true,if_true,h3,h4,decide_false,Bool.false_eq_true,if_false,bnd_some,true_and,h5,and_self,labW_nm hB,labW_nm hM,Option.getD_some,r1]
       rw[←r2]
       cases r<;>rfl
end Go.Abs

namespace Go.Abs
open Go
theorem writeW_len {B:List (List UInt8)} {a:Int} {n:List UInt8}:∀M:List (List UInt8),(writeW B a n M).length≤n.length+2
 | []=>by simp[writeW]
 | y::M=>by
  unfold writeW
  cases placeW B (nm (y::M)) with
  | some E=>simp[put2]
  | none=>exact writeW_len M
theorem writeS_len (base n:List UInt8) (a:Int):(writeS base a n).length≤257:=by
 unfold writeS
 split
 · rename_i h
   have:=writeW_len (B:=(labW base).getD []) (a:=a) (n:=n) ((labW n).getD [])
   have:=(nameS_pos h.2.1).2
   omega
 · simp
theorem recC_iff {r:RRt} (h:recC r=true):nameS r.1=true∧(0≤r.2.1∧r.2.1≤65535)∧(0≤r.2.2.1∧r.2.2.1≤65535)∧(0≤r.2.2.2.1∧r.2.2.2.1≤2147483647)∧dataC r.2.1 r.2.2.2.2=true:=by
 unfold recC inC at h
 simp only[Bool.and_eq_true,decide_eq_true_eq] at h
 obtain⟨⟨⟨⟨h1,h2⟩,h3⟩,h4⟩,h5⟩:=h
 exact⟨h1,h2,h3,h4,h5⟩
theorem dataC_iff {k:Int} {d:List UInt8} (h:dataC k d=true):d.length≤65535∧expS d 0 d.length k=(d,0):=by
 unfold dataC at h
 simp only[Bool.and_eq_true,decide_eq_true_eq,beq_iff_eq] at h
 exact⟨h.1.1,Prod.ext h.2 h.1.2⟩
def tailE (r:RRt):List UInt8:=put2 r.2.1++put2 r.2.2.1++put4 r.2.2.2.1++put2 (r.2.2.2.2.length:Int)++r.2.2.2.2
def recE (base:List UInt8) (a:Int) (r:RRt):List UInt8:=if writeS base a r.1=[]∨recC r=false then [] else writeS base a r.1++tailE r
theorem record_Encode_eq {base:List UInt8} {r:RRt} (hb:(base.length:Int)≤maxI) (hr:(r.1.length:Int)≤maxI) (a:Int):F_record_Encode base a r=some (recE base a r):=by
 unfold F_record_Encode recE
 rw[comp_Write_eq hb hr,bnd_some]
 have hwl:=writeS_len base r.1 a
 generalize writeS base a r.1=w at *
 have hck:F_record_Check (r.fst,r.snd.fst,r.snd.snd.fst,r.snd.snd.snd.fst,r.snd.snd.snd.snd)=some (recC r):=record_Check_eq (r:=(r.fst,r.snd.fst,r.snd.snd.fst,r.snd.snd.snd.fst,r.snd.snd.snd.snd)) hr
 simp only[grdEq_self,hck,bnd_some]
 by_cases hw:w=[]
 · subst hw
   simp[bnd_some]
 · have e1:(w==[])=false:=by simpa using hw
   cases hc:recC r with
   | false=>simp[e1,hw,bnd_some]
   | true =>
    obtain⟨c1,c2,c3,c4,c5⟩:=recC_iff hc
    obtain⟨d1,d2⟩:=dataC_iff c5
    simp only[e1,if_true,Bool.not_true,Bool.false_eq_true,if_false,bnd_some,hw,or_self,Bool.true_eq_false]
    rw[octet_put2 c2.1 (by omega),bnd_some,grdp (by unfold maxStr;simp[put2];omega),octet_put2 c3.1 (by omega),bnd_some,grdp (by unfold maxStr;simp[put2];omega),
     octet_put4 c4.1 (by omega),bnd_some,grdp (by unfold maxStr;simp[put2,put4];omega),octet_put2 (by omega) (by omega),bnd_some,grdp (by unfold maxStr;simp[put2,put4];omega),grdp (by unfold maxStr;simp[put2,put4];omega)]
    simp only[tailE,List.append_assoc]
def ttlS (base:List UInt8) (a:Int) (r:RRt):Int:=if recE base a r=[] then -1 else (writeS base a r.1).length+4
theorem record_TTL_eq {base:List UInt8} {r:RRt} (hb:(base.length:Int)≤maxI) (hr:(r.1.length:Int)≤maxI) (a:Int):F_record_TTL base a r=some (ttlS base a r):=by
 unfold F_record_TTL ttlS
 have hwl:=writeS_len base r.1 a
 have he:F_record_Encode base a (r.fst,r.snd.fst,r.snd.snd.fst,r.snd.snd.snd.fst,r.snd.snd.snd.snd)=some (recE base a r):=record_Encode_eq (r:=(r.fst,r.snd.fst,r.snd.snd.fst,r.snd.snd.snd.fst,r.snd.snd.snd.snd)) hb hr a
 rw[he,bnd_some,comp_Write_eq hb hr,bnd_some,wrap_id (by omega) (by omega)]
 by_cases h:recE base a r=[]<;>simp[h]
end Go.Abs

namespace Go.Abs
open Go
def dataF (k:Int) (d:List UInt8):Prop:=d.length≤65535∧((shapeS k=(0,0,0)∧¬(k=16∧textsS d=false))∨(shapeS k≠(0,0,0) ∧
 ∃(A:List UInt8) (l:List (List UInt8)) (C:List UInt8),d=A++(l.flatten++C)∧A.length=(shapeS k).1.toNat∧l.length=(shapeS k).2.1.toNat∧C.length=(shapeS k).2.2.toNat∧∀x∈l,nameS x=true))
theorem expS_form {msg d:List UInt8} {a size kind:Int} (h:expS msg a size kind=(d,0)):dataF kind d:=by
 unfold expS at h
 cases ht:takeS msg a size with
 | none=>rw[ht] at h;simp at h
 | some t =>
  rw[ht] at h
  simp only at h
  obtain⟨v0,v1,v2,v3,v4,v5⟩:=shapeS_ok kind
  have htl:=takeS_len ht
  obtain⟨t0,t1,t2⟩:=takeS_bounds ht
  split at h
  · rename_i hz
    split at h
    · simp at h
    · rename_i hx
      simp only[Prod.mk.injEq,and_true] at h
      subst h
      exact⟨by omega,.inl ⟨hz,fun h=>hx (.inl h)⟩⟩
  · rename_i hz
    split at h
    · simp at h
    · rename_i hx
      cases hn:namesW msg (shapeS kind).2.1.toNat (a+(shapeS kind).1) with
      | none=>rw[hn] at h;simp at h
      | some p =>
       obtain⟨l,j⟩:=p
       rw[hn] at h
       simp only at h
       obtain⟨n1,n2,n3,n4⟩:=namesW_ends hn
       have hnm:=namesW_names hn
       split at h
       · simp at h
       · rename_i hj
         split at h
         · simp at h
         · rename_i hlen
           simp only[Prod.mk.injEq,and_true] at h
           have hc:=cut_len2 (msg:=msg) (i:=j) (j:=a+size) (by omega) (by omega) t1
           have hA:(t.take (shapeS kind).1.toNat).length=(shapeS kind).1.toNat:=by simp;omega
           exact⟨by rw[←h];omega,.inr ⟨hz,t.take (shapeS kind).1.toNat,l,cut msg j (a+size),by rw[←h];simp,hA,n3,by omega,hnm⟩⟩
theorem recE_ne {base:List UInt8} {r:RRt} (h:recE base 12 r≠[]):nameS base=true∧recC r=true∧recE base 12 r=writeS base 12 r.1++tailE r:=by
 unfold recE at h ⊢
 split at h
 · exact absurd rfl h
 · rename_i hx
   rw[if_neg hx]
   have h1:¬writeS base 12 r.1=[]:=fun e=>hx (.inl e)
   have h2:recC r=true:=by
    cases hc:recC r with
    | true=>rfl
    | false=>exact absurd (.inr hc) hx
   refine⟨?_,h2,rfl⟩
   unfold writeS at h1
   split at h1
   · rename_i hy;exact hy.1
   · exact absurd rfl h1
theorem lab_root:labW [0]=some []:=by rw[labW];simp
theorem writeS_ne {base n:List UInt8} (hb:nameS base=true) (hn:nameS n=true):writeS base 12 n≠[]:=by
 obtain⟨B,rfl,hB,hBl⟩:=nameS_L hb
 obtain⟨M,rfl,hM,hMl⟩:=nameS_L hn
 unfold writeS
 rw[if_pos ⟨hb,hn,by omega,by omega⟩]
 simp only[labW_nm hB,labW_nm hM,Option.getD_some]
 have key:∀L:List (List UInt8),writeW B 12 (nm M) L≠[]:=by
  intro L
  induction L with
  | nil=>unfold writeW;intro h;have:=nm_pos M;rw[h] at this;simp at this
  | cons y L ih =>
   unfold writeW
   cases placeW B (nm (y::L)) with
   | some E=>simp[put2]
   | none=>exact ih
 exact key M
theorem recE_nil {base:List UInt8} {r:RRt}:recE base 12 r=[]↔recC r=false∨nameS base=false:=by
 constructor
 · intro h
   unfold recE at h
   split at h
   · rename_i hx
     rcases hx with hx | hx
     · cases hc:recC r with
       | false=>exact .inl rfl
       | true =>
        cases hb:nameS base with
        | false=>exact .inr rfl
        | true=>exact absurd hx (writeS_ne hb (recC_iff hc).1)
     · exact .inl hx
   · rename_i hx
     have:=(List.append_eq_nil_iff.1 h).1
     exact absurd (.inl this) hx
 · intro h
   unfold recE
   rw[if_pos]
   rcases h with h | h
   · exact .inr h
   · left
     unfold writeS
     rw[if_neg (by simp[h])]
end Go.Abs
