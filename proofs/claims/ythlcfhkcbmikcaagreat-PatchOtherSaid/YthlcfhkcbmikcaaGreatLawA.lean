/- Part of a proof. -/
import Derived.Test.YthlcfhkcbmikcaaGreatSxB
import Derived.Test.YthlcfhkcbmikcaaGreatSnD
set_option linter.unusedSimpArgs false
set_option linter.unusedVariables false
set_option linter.unusedSectionVars false
namespace Go.Abs
open Go
theorem ofInt_i64 (a:Nat) (ha:a<18446744073709551616):(BitVec.ofInt 64 (a:Int)).toNat=a:=by
 rw[BitVec.ofInt_natCast,BitVec.toNat_ofNat];exact Nat.mod_eq_of_lt (by omega)
theorem i64_and_nat (a b:Nat) (ha:a<9223372036854775808) (hb:b<9223372036854775808):bits .and .i64 (a:Int) (b:Int)=((a &&& b:Nat):Int):=by
 have hx:a &&& b<2 ^ 63:=Nat.and_lt_two_pow _ (by omega)
 show IntKind.i64.wrap ((BitVec.ofInt 64 (a:Int) &&& BitVec.ofInt 64 (b:Int)).toNat:Int)=_
 rw[BitVec.toNat_and,ofInt_i64 a (by omega),ofInt_i64 b (by omega)]
 exact wrap64 (by omega) (by omega)
theorem byte_lt (b:UInt8):(b.toNat:Int)<256:=by have:=b.toNat_lt;omega
theorem wrap_byte (b:UInt8):IntKind.i64.wrap (b.toNat:Int)=(b.toNat:Int):=wrap_id (by omega) (by have:=b.toNat_lt;omega)
theorem bytes_back (s:List UInt8):List.map (fun n:Int=>UInt8.ofNat n.toNat) (List.map (fun b:UInt8=>(b.toNat:Int)) s)=s:=by
 rw[List.map_map]
 conv=>rhs;rw[←List.map_id s]
 apply List.map_congr_left
 intro b _
 simp
@[reducible] def two (o:Option (List UInt8)):List UInt8×Bool:=match o with
 | some x=>(x,true)
 | none=>([],false)
theorem grdp {β:Type} {c:Prop} {i:Decidable c} {b:Option β} (h:c):@grd β c i b=b:=by unfold grd;rw[if_pos h]
end Go.Abs

namespace Go.Abs
open Go
def maxI:Int:=9223372036854775807
end Go.Abs

namespace Go.Abs
open Go
def ints (l:List UInt8):List Int:=l.map fun b=>(b.toNat:Int)
theorem ints_len (l:List UInt8):(ints l).length=l.length:=by simp[ints]
end Go.Abs

namespace Go.Abs
open Go
end Go.Abs

namespace Go.Abs
open Go
def cut (msg:List UInt8) (i j:Int):List UInt8:=List.drop i.toNat (List.take j.toNat msg)
end Go.Abs

namespace Go.Abs
open Go
end Go.Abs

namespace Go.Abs
open Go
end Go.Abs

namespace Go.Abs
open Go
abbrev RRt:=List UInt8×Int×Int×Int×List UInt8
end Go.Abs

namespace Go.Abs
open Go
def lab (x:List UInt8):List UInt8:=UInt8.ofNat x.length::x
def flat (L:List (List UInt8)):List UInt8:=(L.map lab).flatten
def labW:List UInt8→Option (List (List UInt8))
 | []=>none
 | b::r=>if b=0∧r=[] then some [] else if 1≤b.toNat∧b.toNat≤63∧b.toNat<r.length then (labW (r.drop b.toNat)).map fun L=>r.take b.toNat::L else none
termination_by l=>l.length
decreasing_by simp;omega
def nameS (n:List UInt8):Bool:=decide (n.length≤255)&&(labW n).isSome
def splitS (n:List UInt8):List (List UInt8)×Bool:=if n.length≤255 then (match labW n with | some l=>(l,true) | none=>([],false)) else ([],false)
theorem splitS_2 (n:List UInt8):(splitS n).2=nameS n:=by
 unfold splitS nameS
 by_cases h:n.length≤255
 · simp only[h,if_true,decide_true,Bool.true_and]
   cases labW n<;>rfl
 · simp[h]
theorem split_loop (n:List UInt8) (acc:List (List UInt8)) (hs:(n.length:Int)≤1000000) (hn:acc.length+n.length≤1000000) :
 loopS step_name_split_0 (n,acc)=some (match labW n with | some l=>.inr ([0],acc++l) | none=>if n=[] then .inr ([],acc) else .inl false):=by
 fun_induction labW n generalizing acc with
 | case1 =>
  refine loopS_out ?_
  simp only[step_name_split_0,grdEq_self]
  rfl
 | case2 b r h =>
  obtain⟨rfl,rfl⟩:=h
  refine loopS_out ?_
  simp only[step_name_split_0,grdEq_self,List.append_nil]
  rfl
 | case3 b r h1 h2 ih =>
  have hb:=byte_lt b
  have e1:(!(b::r)==[0])=true:=by
   simp only[Bool.not_eq_true',beq_eq_false_iff_ne,ne_eq,List.cons.injEq]
   exact h1
  have hst:step_name_split_0 (b::r,acc)=some (.inl (r.drop b.toNat,acc++[r.take b.toNat])):=by
   have e2:(b::r)[0]? = some b:=rfl
   simp only[List.length_cons] at hs
   have e3:decide ((0:Int)<((b::r).length:Int))=true:=by simp
   simp only[step_name_split_0,e3,e1,e2,if_true,bnd_some,grdEq_self,wrap_byte]
   rw[if_pos (by simp;omega),if_pos (by simp;omega),wrap_id (x:=(b.toNat:Int)+1) (by omega) (by omega),if_neg (by simp;omega)]
   simp only[bnd_some]
   rw[wrap_id (x:=1+(b.toNat:Int)) (by omega) (by omega)]
   have e4:(1+(b.toNat:Int))=((b.toNat+1:Nat):Int):=by omega
   rw[e4,natOf_nat,grdp (by simp;omega),grdp (by omega),grdp (by unfold roomLim;simp only[List.length_cons] at hn;simp;omega),natOf_nat,grdp (by simp;omega)]
   rfl
  rw[loopS_next hst]
  have hd:(r.drop b.toNat)≠[]:=by intro h;have:=congrArg List.length h;simp at this;omega
  have h:=ih (acc++[r.take b.toNat]) (by simp only[List.length_cons] at hs;simp;omega) (by simp only[List.length_cons] at hn;simp;omega)
  rw[h]
  cases hr:labW (r.drop b.toNat) with
  | some L=>simp
  | none=>simp only[hd,if_false,Option.map_none];rfl
 | case4 b r h1 h2 =>
  refine loopS_out ?_
  have hb:=byte_lt b
  simp only[List.length_cons] at hs
  have e1:(!(b::r)==[0])=true:=by
   simp only[Bool.not_eq_true',beq_eq_false_iff_ne,ne_eq,List.cons.injEq]
   exact h1
  have e2:(b::r)[0]? = some b:=rfl
  have e3:decide ((0:Int)<((b::r).length:Int))=true:=by simp
  simp only[step_name_split_0,e3,e1,e2,if_true,bnd_some,grdEq_self,wrap_byte]
  rw[wrap_id (x:=(b.toNat:Int)+1) (by omega) (by omega)]
  by_cases c1:(b.toNat:Int)<1
  · simp only[c1,decide_true,bnd_some];rfl
  · by_cases c2:63<(b.toNat:Int)
    · simp only[c1,c2,decide_true,decide_false,bnd_some,if_true];rfl
    · have c3:((b::r).length:Int)≤(b.toNat:Int)+1:=by simp only[List.length_cons];omega
      simp only[c1,c2,c3,decide_true,decide_false,if_true,bnd_some];rfl
theorem name_split_eq {n:List UInt8} (hs:(n.length:Int)≤maxI):F_name_split n=some (splitS n):=by
 unfold F_name_split splitS
 by_cases h:255<n.length
 · rw[if_pos (by simp;omega),if_neg (by omega)]
 · rw[if_neg (by simp;omega),if_pos (by omega),split_loop n [] (by omega) (by simp;omega),bnd_some]
   cases labW n with
   | some l=>simp
   | none =>
    by_cases h0:n=[]
    · subst h0;rfl
    · simp[h0]
theorem name_Check_eq {n:List UInt8} (hs:(n.length:Int)≤maxI):F_name_Check n=some (nameS n):=by
 unfold F_name_Check
 rw[name_split_eq hs,bnd_some,←splitS_2]
end Go.Abs

namespace Go.Abs
open Go
def inC (n most:Int):Bool:=decide (0≤n)&&decide (n≤most)
end Go.Abs

namespace Go.Abs
open Go
def lowB (b:UInt8):UInt8:=if 65≤b.toNat∧b.toNat≤90 then UInt8.ofNat (b.toNat+32) else b
def lowS (s:List UInt8):List UInt8:=s.map lowB
theorem lowS_app (s t:List UInt8):lowS (s++t)=lowS s++lowS t:=by simp[lowS]
theorem lowS_len (s:List UInt8):(lowS s).length=s.length:=by simp[lowS]
theorem wrap8 (n:Nat):IntKind.u8.wrap (n:Int)=((n % 256:Nat):Int):=by simp[IntKind.wrap,IntKind.bits,IntKind.signed]
theorem ofNat_mod (n:Nat):UInt8.ofNat (n % 256)=UInt8.ofNat n:=by
 apply UInt8.toNat_inj.1
 simp
theorem name_small_eq (b:UInt8):F_name_small (b.toNat:Int)=some ((lowB b).toNat:Int):=by
 have hb:=b.toNat_lt
 unfold F_name_small lowB
 by_cases h1:65≤b.toNat
 · by_cases h2:b.toNat≤90
   · rw[if_pos (by simp;omega),if_pos (by simp;omega),if_pos ⟨h1,h2⟩]
     have e:((b.toNat:Int)+32)=((b.toNat+32:Nat):Int):=by omega
     rw[e,wrap8]
     simp
   · rw[if_pos (by simp;omega),if_neg (by simp;omega),if_neg (by omega)]
 · rw[if_neg (by simp;omega),if_neg (by omega)]
theorem ints_app (s t:List UInt8):ints (s++t)=ints s++ints t:=by simp[ints]
theorem ints_cons (b:UInt8) (t:List UInt8):ints (b::t)=(b.toNat:Int)::ints t:=rfl
theorem mid_get (A:List Int) (c:Int) (B:List Int):(A++c::B)[A.length]? = some c:=by simp
theorem mid_set (A:List Int) (c d:Int) (B:List Int):(A++c::B).set A.length d=A++d::B:=by simp
theorem low_loop (s:List UInt8) (hs:(s.length:Int)≤maxI):∀(v u:List UInt8),s=u++v→loopS (step_name_low_0 s) (ints (lowS u)++ints v,(ints (lowS u)++ints v,(u.length:Int)))=some (ints (lowS s))
 | [],u,h=>by
  refine loopS_out ?_
  rw[List.append_nil] at h
  subst h
  simp only[step_name_low_0,List.length_map,Int.lt_irrefl,decide_false,Bool.false_eq_true,if_false]
  simp[ints]
 | b::v,u,h=>by
  have hm:maxI=9223372036854775807:=rfl
  have hl:s.length=u.length+1+v.length:=by rw[h];simp;omega
  have hlen:(ints (lowS u)).length=u.length:=by rw[ints_len,lowS_len]
  rw[loopS_next (y:=(ints (lowS (u++[b]))++ints v,(ints (lowS (u++[b]))++ints v,((u++[b]).length:Int))))]
  · exact low_loop s hs v (u++[b]) (by rw[h];simp)
  · simp only[step_name_low_0,List.length_map]
    rw[if_pos (by simp;omega),natOf_nat,ints_cons,←hlen]
    simp only[mid_get,bnd_some,name_small_eq,natOf_nat,grdEq_self,mid_set]
    rw[wrap_id (by omega) (by omega)]
    simp[ints,lowS]
theorem name_low_eq {s:List UInt8} (hs:(s.length:Int)≤maxI):F_name_low s=some (lowS s):=by
 unfold F_name_low
 have:=low_loop s hs s [] rfl
 simp only[lowS,List.map_nil,ints,List.nil_append,List.length_nil] at this
 simp only[Int.natCast_zero] at this
 rw[this,bnd_some]
 have hb:=bytes_back (lowS s)
 simp only[lowS] at hb
 rw[hb]
 rfl
theorem small_loop (s:List UInt8) (hs:(s.length:Int)≤maxI):∀(v u:List UInt8),s=u++v→loopS step_ref02_Small_0 (ints (lowS u)++ints v,(u.length:Int))=some (ints (lowS s))
 | [],u,h=>by
  refine loopS_out ?_
  rw[List.append_nil] at h
  subst h
  simp only[step_ref02_Small_0,List.length_append,ints_len,lowS_len]
  rw[if_neg (by simp[ints])]
  simp[ints]
 | b::v,u,h=>by
  have hm:maxI=9223372036854775807:=rfl
  have hl:s.length=u.length+1+v.length:=by rw[h];simp;omega
  have hlen:(ints (lowS u)).length=u.length:=by rw[ints_len,lowS_len]
  have hb:=b.toNat_lt
  rw[loopS_next (y:=(ints (lowS (u++[b]))++ints v,((u++[b]).length:Int)))]
  · exact small_loop s hs v (u++[b]) (by rw[h];simp)
  · simp only[step_ref02_Small_0,List.length_append,ints_len,lowS_len,List.length_cons]
    rw[if_pos (by simp;omega),natOf_nat,ints_cons,←hlen,mid_get,bnd_some]
    have hx:ints (lowS (u++[b]))=ints (lowS u)++[((lowB b).toNat:Int)]:=by rw[lowS_app,ints_app];rfl
    by_cases h1:65≤b.toNat
    · by_cases h2:b.toNat≤90
      · rw[if_pos (by simp;omega)]
        have e1:decide ((b.toNat:Int)≤90)=true:=by simp;omega
        simp only[natOf_nat,mid_get,bnd_some,grdEq_self,e1,if_true,mid_set]
        have e:((b.toNat:Int)+32)=((b.toNat+32:Nat):Int):=by omega
        rw[wrap_id (x:=((ints (lowS u)).length:Int)+1) (by omega) (by omega),e,wrap8,hx]
        unfold lowB
        rw[if_pos ⟨h1,h2⟩]
        simp
      · rw[if_pos (by simp;omega)]
        have e1:decide ((b.toNat:Int)≤90)=false:=by simp;omega
        simp only[natOf_nat,mid_get,bnd_some,grdEq_self,e1,Bool.false_eq_true,if_false]
        rw[wrap_id (x:=((ints (lowS u)).length:Int)+1) (by omega) (by omega),hx]
        unfold lowB
        rw[if_neg (by omega)]
        simp
    · rw[if_neg (by simp;omega)]
      simp only[bnd_some,grdEq_self,Bool.false_eq_true,if_false]
      rw[wrap_id (x:=((ints (lowS u)).length:Int)+1) (by omega) (by omega),hx]
      unfold lowB
      rw[if_neg (by omega)]
      simp
theorem ref02_Small_eq {s:List UInt8} (hs:(s.length:Int)≤maxI):F_ref02_Small s=some (lowS s):=by
 unfold F_ref02_Small
 have:=small_loop s hs s [] rfl
 simp only[lowS,List.map_nil,ints,List.nil_append,List.length_nil] at this
 simp only[Int.natCast_zero] at this
 rw[this,bnd_some]
 have hb:=bytes_back (lowS s)
 simp only[lowS] at hb
 rw[hb]
 rfl
theorem labels_loop (n:List UInt8) (hs:n.length≤255) (m:List UInt8) (i:Nat) (out:List (List UInt8)) (hi:i≤n.length) (hm:n.drop i=m) (ho:out.length≤i) :
 ∃r,loopS (step_ref02_Labels_0 n) (out,(i:Int))=some r∧(match labW m with | some L=>r=.inl (out++L,true) | none=>(∃l,r=.inl (l,false))∨r=.inr ()):=by
 have hlen:m.length=n.length-i:=by rw[←hm];simp
 fun_induction labW m generalizing i out with
 | case1 =>
  simp only[List.length_nil] at hlen
  refine⟨.inr (),loopS_out ?_,.inr rfl⟩
  simp only[step_ref02_Labels_0]
  rw[if_neg (by simp;omega)]
 | case2 b r h =>
  obtain⟨rfl,rfl⟩:=h
  simp only[List.length_cons,List.length_nil] at hlen
  have hg:n[i]? = some 0:=by rw[←List.head?_drop,hm];rfl
  refine⟨.inl (out,true),loopS_out ?_,by simp⟩
  simp only[step_ref02_Labels_0]
  rw[if_pos (by simp;omega),natOf_nat,hg,bnd_some,wrap_byte,wrap_id (x:=(n.length:Int)-1) (by omega) (by omega)]
  have e:((i:Int)==(n.length:Int)-1)=true:=by simp;omega
  rw[e]
  rfl
 | case3 b r h1 h2 ih =>
  simp only[List.length_cons] at hlen
  have hb:=byte_lt b
  have hg:n[i]? = some b:=by rw[←List.head?_drop,hm];rfl
  have hd1:n.drop (i+1)=r:=by rw[←List.drop_drop,hm];rfl
  have hd2:n.drop (i+1+b.toNat)=r.drop b.toNat:=by rw[←List.drop_drop,hd1]
  obtain⟨res,g1,g2⟩:=ih (i+1+b.toNat) (out++[r.take b.toNat]) (by omega) hd2 (by simp;omega) (by simp;omega)
  have hst:step_ref02_Labels_0 n (out,(i:Int))=some (.inl (out++[r.take b.toNat],((i+1+b.toNat:Nat):Int))):=by
   simp only[step_ref02_Labels_0]
   have e0:((b.toNat:Int)==0)=false:=by simp;omega
   rw[if_pos (by simp;omega),natOf_nat,hg,bnd_some,wrap_byte,e0,wrap_id (x:=(n.length:Int)-i) (by omega) (by omega)]
   simp only[Bool.false_eq_true,if_false]
   rw[if_pos (by simp;omega),if_neg (by simp;omega),grdEq_self,grdEq_self,grdEq_self,bnd_some]
   simp only
   rw[wrap_id (x:=(i:Int)+1) (by omega) (by omega),wrap_id (x:=(i:Int)+1+(b.toNat:Int)) (by omega) (by omega)]
   have e4:(i:Int)+1+(b.toNat:Int)=((i+1+b.toNat:Nat):Int):=by omega
   have e5:(i:Int)+1=((i+1:Nat):Int):=by omega
   rw[e4,e5,natOf_nat,grdp (by omega),natOf_nat,grdp (by omega),grdp (by unfold roomLim;simp;omega),grdEq_self]
   rw[List.drop_take,hd1]
   have e6:i+1+b.toNat-(i+1)=b.toNat:=by omega
   rw[e6]
  rw[loopS_next hst]
  refine⟨res,g1,?_⟩
  cases hr:labW (r.drop b.toNat) with
  | some L=>rw[hr] at g2;simp only at g2;simp[g2]
  | none=>rw[hr] at g2;simpa using g2
 | case4 b r h1 h2 =>
  simp only[List.length_cons] at hlen
  have hb:=byte_lt b
  have hg:n[i]? = some b:=by rw[←List.head?_drop,hm];rfl
  by_cases hz:b.toNat=0
  · have hbz:b=0:=UInt8.toNat_inj.1 (by simpa using hz)
    subst hbz
    refine⟨.inl (out,false),loopS_out ?_,.inl ⟨_,rfl⟩⟩
    have hr:r≠[]:=fun h=>h1 ⟨rfl,h⟩
    have hrl:0<r.length:=List.length_pos_iff.2 hr
    simp only[step_ref02_Labels_0]
    rw[if_pos (by simp;omega),natOf_nat,hg,bnd_some,wrap_byte,wrap_id (x:=(n.length:Int)-1) (by omega) (by omega)]
    have e:((i:Int)==(n.length:Int)-1)=false:=by simp;omega
    rw[e]
    rfl
  · have e0:((b.toNat:Int)==0)=false:=by simp;omega
    by_cases c2:63<b.toNat
    · refine⟨.inl ([],false),loopS_out ?_,.inl ⟨_,rfl⟩⟩
      simp only[step_ref02_Labels_0]
      rw[if_pos (by simp;omega),natOf_nat,hg,bnd_some,wrap_byte,e0]
      simp only[Bool.false_eq_true,if_false]
      rw[if_neg (by simp;omega)]
      rfl
    · by_cases c3:r.length+1≤b.toNat
      · refine⟨.inl ([],false),loopS_out ?_,.inl ⟨_,rfl⟩⟩
        simp only[step_ref02_Labels_0]
        rw[if_pos (by simp;omega),natOf_nat,hg,bnd_some,wrap_byte,e0,wrap_id (x:=(n.length:Int)-i) (by omega) (by omega)]
        simp only[Bool.false_eq_true,if_false]
        rw[if_pos (by simp;omega),if_pos (by simp;omega)]
        rfl
      · have hbr:b.toNat=r.length:=by omega
        refine⟨.inr (),?_,.inr rfl⟩
        have hd1:n.drop (i+1)=r:=by rw[←List.drop_drop,hm];rfl
        rw[loopS_next (y:=(out++[r.take b.toNat],((i+1+b.toNat:Nat):Int)))]
        · refine loopS_out ?_
          simp only[step_ref02_Labels_0]
          rw[if_neg (by simp;omega)]
        · simp only[step_ref02_Labels_0]
          rw[if_pos (by simp;omega),natOf_nat,hg,bnd_some,wrap_byte,e0,wrap_id (x:=(n.length:Int)-i) (by omega) (by omega)]
          simp only[Bool.false_eq_true,if_false]
          rw[if_pos (by simp;omega),if_neg (by simp;omega),grdEq_self,grdEq_self,grdEq_self,bnd_some]
          simp only
          rw[wrap_id (x:=(i:Int)+1) (by omega) (by omega),wrap_id (x:=(i:Int)+1+(b.toNat:Int)) (by omega) (by omega)]
          have e4:(i:Int)+1+(b.toNat:Int)=((i+1+b.toNat:Nat):Int):=by omega
          have e5:(i:Int)+1=((i+1:Nat):Int):=by omega
          rw[e4,e5,natOf_nat,grdp (by omega),natOf_nat,grdp (by omega),grdp (by unfold roomLim;simp;omega),grdEq_self]
          rw[List.drop_take,hd1]
          have e6:i+1+b.toNat-(i+1)=b.toNat:=by omega
          rw[e6]
theorem ref02_Labels_eq (n:List UInt8):∃l,F_ref02_Labels n=some (l,nameS n)∧(nameS n=true→labW n=some l):=by
 unfold F_ref02_Labels nameS
 by_cases h1:n.length<1
 · have:n=[]:=List.length_eq_zero_iff.1 (by omega)
   subst this
   exact⟨[],by rw[if_neg (by simp)];simp[labW,bnd_some],by simp[labW]⟩
 · rw[if_pos (by simp;omega)]
   by_cases h2:255<n.length
   · rw[if_pos (by simp;omega)]
     have:decide (n.length≤255)=false:=by simp;omega
     rw[this]
     exact⟨[],rfl,by simp⟩
   · rw[if_neg (by simp;omega),grdEq_self,bnd_some]
     have hd:decide (n.length≤255)=true:=by simp;omega
     rw[hd]
     obtain⟨r,g1,g2⟩:=labels_loop n (by omega) n 0 [] (by omega) rfl (by simp)
     simp only[Int.natCast_zero] at g1
     simp only[g1,bnd_some]
     cases hl:labW n with
     | some L =>
      rw[hl] at g2
      simp only[List.nil_append] at g2
      subst g2
      exact⟨L,rfl,fun _=>rfl⟩
     | none =>
      rw[hl] at g2
      rcases g2 with ⟨l,rfl⟩ | rfl
      · exact⟨l,rfl,by simp⟩
      · exact⟨[],rfl,by simp⟩
theorem ref02_Check_eq (n:List UInt8):F_ref02_Check n=some (nameS n):=by
 unfold F_ref02_Check
 obtain⟨l,h,_⟩:=ref02_Labels_eq n
 rw[h,bnd_some]
end Go.Abs

namespace Go.Abs
open Go
def put2 (n:Int):List UInt8:=[UInt8.ofNat (n.toNat / 256),UInt8.ofNat n.toNat]
def put4 (n:Int):List UInt8:=[UInt8.ofNat (n.toNat / 16777216),UInt8.ofNat (n.toNat / 65536),UInt8.ofNat (n.toNat / 256),UInt8.ofNat n.toNat]
theorem fdiv_nat (m k:Nat):((m:Int)).fdiv (2 ^ k)=((m / 2 ^ k:Nat):Int):=by
 have:(2:Int) ^ k=((2 ^ k:Nat):Int):=by simp
 rw[this,Int.ofNat_fdiv]
theorem octet_put2 {n:Int} (h0:0≤n) (h1:n<65536):F_octet_Put n 2=some (put2 n):=by
 obtain⟨m,rfl⟩:=Int.eq_ofNat_of_zero_le h0
 have hm:m<65536:=by omega
 have hs:F_octet_sized 2=some true:=rfl
 have hn:¬(m:Int)<0:=by omega
 have h16:(natOf (IntKind.i64.wrap (8*2)) fun n4=>if ((m:Int).fdiv (2 ^ min n4 64) != 0)=true then some (Sum.inl ([]:List UInt8)) else some (Sum.inr ()))=some (Sum.inr ()):=by
  have e:IntKind.i64.wrap (8*2)=((16:Nat):Int):=rfl
  rw[e,natOf_nat,show min 16 64=16 from rfl,fdiv_nat,show m / 2 ^ 16=0 by omega]
  rfl
 have e1:loopS (step_octet_Put_0 (m:Int) 2) ([0,0],0)=some [((m / 256 % 256:Nat):Int),((m % 256:Nat):Int)]:=by
  rw[loopS_next (y:=([0,((m % 256:Nat):Int)],1))]
  · rw[loopS_next (y:=([((m / 256 % 256:Nat):Int),((m % 256:Nat):Int)],2))]
    · refine loopS_out ?_
      simp only[step_octet_Put_0]
      rfl
    · simp only[step_octet_Put_0,grdEq_self]
      rw[if_pos (by decide),show IntKind.i64.wrap (8*1)=((8:Nat):Int) from rfl,natOf_nat,show IntKind.i64.wrap (IntKind.i64.wrap (2-1)-1)=((0:Nat):Int) from rfl,natOf_nat]
      rw[show min 8 64=8 from rfl,fdiv_nat,wrap8]
      rfl
  · simp only[step_octet_Put_0,grdEq_self]
    rw[if_pos (by decide),show IntKind.i64.wrap (8*0)=((0:Nat):Int) from rfl,natOf_nat,show IntKind.i64.wrap (IntKind.i64.wrap (2-1)-0)=((1:Nat):Int) from rfl,natOf_nat]
    rw[show min 0 64=0 from rfl,fdiv_nat,wrap8,show m / 2 ^ 0=m by simp]
    rfl
 unfold F_octet_Put
 simp only[hs,bnd_some,Bool.not_true,if_true,hn,decide_false,grdEq_self,h16]
 rw[grdp (by decide),show (List.replicate (2:Int).toNat (0:Int))=[0,0] from rfl,e1]
 simp only[bnd_some,List.map_cons,List.map_nil,Int.toNat_natCast,ofNat_mod,put2]
theorem octet_put4 {n:Int} (h0:0≤n) (h1:n<4294967296):F_octet_Put n 4=some (put4 n):=by
 obtain⟨m,rfl⟩:=Int.eq_ofNat_of_zero_le h0
 have hm:m<4294967296:=by omega
 have hs:F_octet_sized 4=some true:=rfl
 have hn:¬(m:Int)<0:=by omega
 have h16:(natOf (IntKind.i64.wrap (8*4)) fun n4=>if ((m:Int).fdiv (2 ^ min n4 64) != 0)=true then some (Sum.inl ([]:List UInt8)) else some (Sum.inr ()))=some (Sum.inr ()):=by
  have e:IntKind.i64.wrap (8*4)=((32:Nat):Int):=rfl
  rw[e,natOf_nat,show min 32 64=32 from rfl,fdiv_nat,show m / 2 ^ 32=0 by omega]
  rfl
 have step:∀(i j:Nat) (b:List Int),j<4→b.length=4→i=3-j→step_octet_Put_0 (m:Int) 4 (b,(j:Int))=some (.inl (b.set i ((m / 2 ^ (8*j) % 256:Nat):Int),((j+1:Nat):Int))):=by
  intro i j b hj hb hi
  simp only[step_octet_Put_0,grdEq_self]
  rw[if_pos (by simp;omega),wrap_id (x:=8*(j:Int)) (by omega) (by omega),show 8*(j:Int)=((8*j:Nat):Int) by omega,natOf_nat,show IntKind.i64.wrap (4-1)=3 from rfl,
   wrap_id (x:=3-(j:Int)) (by omega) (by omega),show 3-(j:Int)=((i:Nat):Int) by omega,natOf_nat,List.getElem?_eq_getElem (by omega),bnd_some,wrap_id (x:=(j:Int)+1) (by omega) (by omega)]
  rw[show min (8*j) 64=8*j by omega,fdiv_nat,wrap8]
  rfl
 have e1:loopS (step_octet_Put_0 (m:Int) 4) ([0,0,0,0],0)=some [((m / 2 ^ 24 % 256:Nat):Int),((m / 2 ^ 16 % 256:Nat):Int),((m / 2 ^ 8 % 256:Nat):Int),((m / 2 ^ 0 % 256:Nat):Int)]:=by
  have s0:=step 3 0 [0,0,0,0] (by omega) rfl rfl
  have s1:=step 2 1 [0,0,0,((m / 2 ^ 0 % 256:Nat):Int)] (by omega) rfl rfl
  have s2:=step 1 2 [0,0,((m / 2 ^ 8 % 256:Nat):Int),((m / 2 ^ 0 % 256:Nat):Int)] (by omega) rfl rfl
  have s3:=step 0 3 [0,((m / 2 ^ 16 % 256:Nat):Int),((m / 2 ^ 8 % 256:Nat):Int),((m / 2 ^ 0 % 256:Nat):Int)] (by omega) rfl rfl
  refine (loopS_next s0).trans ?_
  refine (loopS_next s1).trans ?_
  refine (loopS_next s2).trans ?_
  refine (loopS_next s3).trans ?_
  refine loopS_out ?_
  simp only[step_octet_Put_0]
  rfl
 unfold F_octet_Put
 simp only[hs,bnd_some,Bool.not_true,if_true,hn,decide_false,grdEq_self,h16]
 rw[grdp (by decide),show (List.replicate (4:Int).toNat (0:Int))=[0,0,0,0] from rfl,e1]
 simp only[bnd_some,List.map_cons,List.map_nil,Int.toNat_natCast,ofNat_mod,put4,Nat.pow_zero,Nat.div_one]
end Go.Abs

namespace Go.Abs
open Go
def tailE (r:RRt):List UInt8:=put2 r.2.1++put2 r.2.2.1++put4 r.2.2.2.1++put2 (r.2.2.2.2.length:Int)++r.2.2.2.2
end Go.Abs

namespace Go.Abs
open Go
end Go.Abs
