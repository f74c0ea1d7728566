/- Part of a proof. -/
import Derived.Test.YthlcfhkcbmikcaaGreatSxB
import Derived.Test.YthlcfhkcbmikcaaGreatSnD
set_option linter.unusedSimpArgs false
set_option linter.unusedVariables false
set_option linter.unusedSectionVars false
namespace Go.Abs
open Go
theorem byte_lt (b:UInt8):(b.toNat:Int)<256:=by have:=b.toNat_lt;omega
theorem wrap_byte (b:UInt8):IntKind.i64.wrap (b.toNat:Int)=(b.toNat:Int):=wrap_id (by omega) (by have:=b.toNat_lt;omega)
theorem bytes_back (s:List UInt8):List.map (fun n:Int=>UInt8.ofNat n.toNat) (List.map (fun b:UInt8=>(b.toNat:Int)) s)=s:=by
 rw[List.map_map]
 conv=>rhs;rw[←List.map_id s]
 apply List.map_congr_left
 intro b _
 simp
@[reducible] def two (o:Option (List UInt8)):List UInt8×Bool:=match o with
 | some x=>(x,true)
 | none=>([],false)
theorem grdp {β:Type} {c:Prop} {i:Decidable c} {b:Option β} (h:c):@grd β c i b=b:=by unfold grd;rw[if_pos h]
end Go.Abs

namespace Go.Abs
open Go
def maxI:Int:=9223372036854775807
end Go.Abs

namespace Go.Abs
open Go
def ints (l:List UInt8):List Int:=l.map fun b=>(b.toNat:Int)
theorem ints_len (l:List UInt8):(ints l).length=l.length:=by simp[ints]
end Go.Abs

namespace Go.Abs
open Go
end Go.Abs

namespace Go.Abs
open Go
def cut (msg:List UInt8) (i j:Int):List UInt8:=List.drop i.toNat (List.take j.toNat msg)
end Go.Abs

namespace Go.Abs
open Go
end Go.Abs

namespace Go.Abs
open Go
end Go.Abs

namespace Go.Abs
open Go
abbrev RRt:=List UInt8×Int×Int×Int×List UInt8
end Go.Abs

namespace Go.Abs
open Go
def lab (x:List UInt8):List UInt8:=UInt8.ofNat x.length::x
def flat (L:List (List UInt8)):List UInt8:=(L.map lab).flatten
def labW:List UInt8→Option (List (List UInt8))
 | []=>none
 | b::r=>if b=0∧r=[] then some [] else if 1≤b.toNat∧b.toNat≤63∧b.toNat<r.length then (labW (r.drop b.toNat)).map fun L=>r.take b.toNat::L else none
termination_by l=>l.length
decreasing_by simp;omega
def nameS (n:List UInt8):Bool:=decide (n.length≤255)&&(labW n).isSome
def splitS (n:List UInt8):List (List UInt8)×Bool:=if n.length≤255 then (match labW n with | some l=>(l,true) | none=>([],false)) else ([],false)
theorem splitS_2 (n:List UInt8):(splitS n).2=nameS n:=by
 unfold splitS nameS
 by_cases h:n.length≤255
 · simp only[h,if_true,decide_true,Bool.true_and]
   cases labW n<;>rfl
 · simp[h]
theorem split_loop (n:List UInt8) (acc:List (List UInt8)) (hs:(n.length:Int)≤1000000) (hn:acc.length+n.length≤1000000) :
 loopS step_name_split_0 (n,acc)=some (match labW n with | some l=>.inr ([0],acc++l) | none=>if n=[] then .inr ([],acc) else .inl false):=by
 fun_induction labW n generalizing acc with
 | case1 =>
  refine loopS_out ?_
  simp only[step_name_split_0,grdEq_self]
  rfl
 | case2 b r h =>
  obtain⟨rfl,rfl⟩:=h
  refine loopS_out ?_
  simp only[step_name_split_0,grdEq_self,List.append_nil]
  rfl
 | case3 b r h1 h2 ih =>
  have hb:=byte_lt b
  have e1:(!(b::r)==[0])=true:=by
   simp only[Bool.not_eq_true',beq_eq_false_iff_ne,ne_eq,List.cons.injEq]
   exact h1
  have hst:step_name_split_0 (b::r,acc)=some (.inl (r.drop b.toNat,acc++[r.take b.toNat])):=by
   have e2:(b::r)[0]? = some b:=rfl
   simp only[List.length_cons] at hs
   have e3:decide ((0:Int)<((b::r).length:Int))=true:=by simp
   simp only[step_name_split_0,e3,e1,e2,if_true,bnd_some,grdEq_self,wrap_byte]
   rw[if_pos (by simp;omega),if_pos (by simp;omega),wrap_id (x:=(b.toNat:Int)+1) (by omega) (by omega),if_neg (by simp;omega)]
   simp only[bnd_some]
   rw[wrap_id (x:=1+(b.toNat:Int)) (by omega) (by omega)]
   have e4:(1+(b.toNat:Int))=((b.toNat+1:Nat):Int):=by omega
   rw[e4,natOf_nat,grdp (by simp;omega),grdp (by omega),grdp (by unfold roomLim;simp only[List.length_cons] at hn;simp;omega),natOf_nat,grdp (by simp;omega)]
   rfl
  rw[loopS_next hst]
  have hd:(r.drop b.toNat)≠[]:=by intro h;have:=congrArg List.length h;simp at this;omega
  have h:=ih (acc++[r.take b.toNat]) (by simp only[List.length_cons] at hs;simp;omega) (by simp only[List.length_cons] at hn;simp;omega)
  rw[h]
  cases hr:labW (r.drop b.toNat) with
  | some L=>simp
  | none=>simp only[hd,if_false,Option.map_none];rfl
 | case4 b r h1 h2 =>
  refine loopS_out ?_
  have hb:=byte_lt b
  simp only[List.length_cons] at hs
  have e1:(!(b::r)==[0])=true:=by
   simp only[Bool.not_eq_true',beq_eq_false_iff_ne,ne_eq,List.cons.injEq]
   exact h1
  have e2:(b::r)[0]? = some b:=rfl
  have e3:decide ((0:Int)<((b::r).length:Int))=true:=by simp
  simp only[step_name_split_0,e3,e1,e2,if_true,bnd_some,grdEq_self,wrap_byte]
  rw[wrap_id (x:=(b.toNat:Int)+1) (by omega) (by omega)]
  by_cases c1:(b.toNat:Int)<1
  · simp only[c1,decide_true,bnd_some];rfl
  · by_cases c2:63<(b.toNat:Int)
    · simp only[c1,c2,decide_true,decide_false,bnd_some,if_true];rfl
    · have c3:((b::r).length:Int)≤(b.toNat:Int)+1:=by simp only[List.length_cons];omega
      simp only[c1,c2,c3,decide_true,decide_false,if_true,bnd_some];rfl
theorem name_split_eq {n:List UInt8} (hs:(n.length:Int)≤maxI):F_name_split n=some (splitS n):=by
 unfold F_name_split splitS
 by_cases h:255<n.length
 · rw[if_pos (by simp;omega),if_neg (by omega)]
 · rw[if_neg (by simp;omega),if_pos (by omega),split_loop n [] (by omega) (by simp;omega),bnd_some]
   cases labW n with
   | some l=>simp
   | none =>
    by_cases h0:n=[]
    · subst h0;rfl
    · simp[h0]
theorem name_Check_eq {n:List UInt8} (hs:(n.length:Int)≤maxI):F_name_Check n=some (nameS n):=by
 unfold F_name_Check
 rw[name_split_eq hs,bnd_some,←splitS_2]
end Go.Abs

namespace Go.Abs
open Go
def inC (n most:Int):Bool:=decide (0≤n)&&decide (n≤most)
end Go.Abs

namespace Go.Abs
open Go
def lowB (b:UInt8):UInt8:=if 65≤b.toNat∧b.toNat≤90 then UInt8.ofNat (b.toNat+32) else b
def lowS (s:List UInt8):List UInt8:=s.map lowB
theorem lowS_len (s:List UInt8):(lowS s).length=s.length:=by simp[lowS]
theorem wrap8 (n:Nat):IntKind.u8.wrap (n:Int)=((n % 256:Nat):Int):=by simp[IntKind.wrap,IntKind.bits,IntKind.signed]
theorem name_small_eq (b:UInt8):F_name_small (b.toNat:Int)=some ((lowB b).toNat:Int):=by
 have hb:=b.toNat_lt
 unfold F_name_small lowB
 by_cases h1:65≤b.toNat
 · by_cases h2:b.toNat≤90
   · rw[if_pos (by simp;omega),if_pos (by simp;omega),if_pos ⟨h1,h2⟩]
     have e:((b.toNat:Int)+32)=((b.toNat+32:Nat):Int):=by omega
     rw[e,wrap8]
     simp
   · rw[if_pos (by simp;omega),if_neg (by simp;omega),if_neg (by omega)]
 · rw[if_neg (by simp;omega),if_neg (by omega)]
theorem ints_cons (b:UInt8) (t:List UInt8):ints (b::t)=(b.toNat:Int)::ints t:=rfl
theorem mid_get (A:List Int) (c:Int) (B:List Int):(A++c::B)[A.length]? = some c:=by simp
theorem mid_set (A:List Int) (c d:Int) (B:List Int):(A++c::B).set A.length d=A++d::B:=by simp
theorem low_loop (s:List UInt8) (hs:(s.length:Int)≤maxI):∀(v u:List UInt8),s=u++v→loopS (step_name_low_0 s) (ints (lowS u)++ints v,(ints (lowS u)++ints v,(u.length:Int)))=some (ints (lowS s))
 | [],u,h=>by
  refine loopS_out ?_
  rw[List.append_nil] at h
  subst h
  simp only[step_name_low_0,List.length_map,Int.lt_irrefl,decide_false,Bool.false_eq_true,if_false]
  simp[ints]
 | b::v,u,h=>by
  have hm:maxI=9223372036854775807:=rfl
  have hl:s.length=u.length+1+v.length:=by rw[h];simp;omega
  have hlen:(ints (lowS u)).length=u.length:=by rw[ints_len,lowS_len]
  rw[loopS_next (y:=(ints (lowS (u++[b]))++ints v,(ints (lowS (u++[b]))++ints v,((u++[b]).length:Int))))]
  · exact low_loop s hs v (u++[b]) (by rw[h];simp)
  · simp only[step_name_low_0,List.length_map]
    rw[if_pos (by simp;omega),natOf_nat,ints_cons,←hlen]
    simp only[mid_get,bnd_some,name_small_eq,natOf_nat,grdEq_self,mid_set]
    rw[wrap_id (by omega) (by omega)]
    simp[ints,lowS]
theorem name_low_eq {s:List UInt8} (hs:(s.length:Int)≤maxI):F_name_low s=some (lowS s):=by
 unfold F_name_low
 have:=low_loop s hs s [] rfl
 simp only[lowS,List.map_nil,ints,List.nil_append,List.length_nil] at this
 simp only[Int.natCast_zero] at this
 rw[this,bnd_some]
 have hb:=bytes_back (lowS s)
 simp only[lowS] at hb
 rw[hb]
 rfl
end Go.Abs

namespace Go.Abs
open Go
end Go.Abs

namespace Go.Abs
open Go
end Go.Abs

namespace Go.Abs
open Go
end Go.Abs
