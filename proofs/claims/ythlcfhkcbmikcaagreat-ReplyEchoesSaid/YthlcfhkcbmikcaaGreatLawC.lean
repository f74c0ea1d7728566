/- Part of a proof. -/
import Derived.Test.YthlcfhkcbmikcaaGreatLawB
import Derived.Test.YthlcfhkcbmikcaaGreatSxB
import Derived.Test.YthlcfhkcbmikcaaGreatSnD
set_option linter.unusedSimpArgs false
set_option linter.unusedVariables false
set_option linter.unusedSectionVars false
namespace Go.Abs
open Go
theorem take_next {β:Type} {l:List β} {i:Nat} {x:β} (h:l[i]? = some x):l.take (i+1)=l.take i++[x]:=by
 rw[List.take_add_one,h];rfl
abbrev Sp:=Int×Int×Int
abbrev Pc:=List Sp×Int×Bool
end Go.Abs

namespace Go.Abs
open Go
def seg (s:List UInt8) (a b:Nat):List UInt8:=List.drop a (List.take b s)
end Go.Abs

namespace Go.Abs
open Go
def scanF {β τ:Type} (f:Nat→β→Option τ) (e:τ):Nat→List β→τ
 | _,[]=>e
 | i,x::l=>match f i x with
  | some t=>t
  | none=>scanF f e (i+1) l
theorem loop_scan {β τ:Type} {l:List β} {step:Int→Option (Int ⊕ τ)} (f:Nat→β→Option τ) (e:τ)
 (hs:∀(i:Nat) x,l[i]? = some x→step (i:Int)=some (match f i x with | some t=>.inr t | none=>.inl ((i+1:Nat):Int))) (he:step (l.length:Int)=some (.inr e)):loopS step 0=some (scanF f e 0 l):=by
 suffices h:∀(v u:List β),l=u++v→loopS step (u.length:Int)=some (scanF f e u.length v) from h l [] rfl
 intro v
 induction v with
 | nil =>
  intro u hu
  rw[List.append_nil] at hu
  subst hu
  exact loopS_out he
 | cons x v ih =>
  intro u hu
  have hx:=hs u.length x (by rw[hu];simp)
  unfold scanF
  cases hf:f u.length x with
  | some t=>rw[hf] at hx;exact loopS_out hx
  | none =>
   rw[hf] at hx
   rw[loopS_next hx]
   have:=ih (u++[x]) (by rw[hu];simp)
   simpa using this
theorem map_set {α:Type} {l:List α} {f:α→α} {i:Nat} {x:α} (h:l[i]? = some x):((l.take i).map f++l.drop i).set i (f x)=(l.take (i+1)).map f++l.drop (i+1):=by
 have hi:=(List.getElem?_eq_some_iff.1 h).1
 have e:l.drop i=x::l.drop (i+1):=by
  rw[List.drop_eq_getElem_cons hi]
  congr 1
  have:=List.getElem?_eq_getElem hi
  rw[h] at this
  exact (Option.some.inj this).symm
 rw[e,take_next h,List.set_append_right _ _ (by rw[List.length_map,List.length_take];omega),List.map_append]
 simp[Nat.min_eq_left (Nat.le_of_lt hi)]
end Go.Abs

namespace Go.Abs
open Go
end Go.Abs

namespace Go.Abs
open Go
end Go.Abs

namespace Go.Abs
open Go
abbrev TP:=List UInt8×List Pc
end Go.Abs

namespace Go.Abs
open Go
end Go.Abs

namespace Go.Abs
open Go
def covW:Int→List Sp→Int→Prop
 | a,[],b=>a=b
 | a,s::l,b=>s.1=a∧0≤s.1∧s.1≤4000000∧s.1≤s.2.1∧s.1+5≤s.2.2∧covW s.2.1 l b
def covP:Int→List Pc→Int→Prop
 | a,[],b=>a=b
 | a,p::l,b=>∃m,covW a p.1 m∧covP m l b
structure Made (t:TP) (n:Nat):Prop where
 cov:covP 0 t.2 (t.1.length:Int)
 len:t.1.length≤136020*n
 num:t.2.length=n
 few:∀p∈t.2,p.1.length≤60
end Go.Abs

namespace Go.Abs
open Go
end Go.Abs

namespace Go.Abs
open Go
theorem and_mask (n k:Nat) (hn:n<9223372036854775808) (hk:k<60):Go.bits .and .i64 (n:Int) ((2 ^ k-1:Nat):Int)=((n % 2 ^ k:Nat):Int):=by
 have hp:2 ^ k<2 ^ 63:=Nat.pow_lt_pow_right (by omega) (by omega)
 rw[i64_and_nat n (2 ^ k-1) hn (by omega),Nat.and_two_pow_sub_one_eq_mod]
def goodB (b:Int):Bool:=decide (0≤b)&&decide (b≤65535)
theorem goodB_iff {b:Int}:goodB b=true↔0≤b∧b≤65535:=by simp[goodB]
def ofS (d m:Int) (b:Int):Int:=if goodB b then b / d % m else 0
theorem may_eq {f b:Int} (h0:0≤f) (h1:f<9):F_flag_Field_may f b=some (goodB b):=by
 unfold F_flag_Field_may goodB
 by_cases h2:0≤b
 · by_cases h3:b≤65535
   · simp[h0,h1,h2,h3]
   · simp[h2,h3]
 · simp[h2]
theorem fof_core {b:Int} (hg:goodB b=true) (s k:Nat) (hs:s<20) (hk:k<10):Go.bits .and .i64 (b.fdiv ((2 ^ s:Nat):Int)) ((2 ^ k-1:Nat):Int)=b / ((2 ^ s:Nat):Int) % ((2 ^ k:Nat):Int):=by
 obtain⟨h0,h1⟩:=goodB_iff.1 hg
 obtain⟨n,rfl⟩:=Int.eq_ofNat_of_zero_le h0
 have e:((n:Int)).fdiv ((2 ^ s:Nat):Int)=((n / 2 ^ s:Nat):Int):=by
  rw[Int.fdiv_eq_ediv_of_nonneg _ (Int.natCast_nonneg _)];rfl
 have hle:n / 2 ^ s≤n:=Nat.div_le_self _ _
 rw[e,and_mask (n / 2 ^ s) k (by omega) (by omega)]
 rfl
theorem mask_11_4:F_flag_place_mask (11,4)=some 15:=by kernel_rfl
theorem mask_15_1:F_flag_place_mask (15,1)=some 1:=by kernel_rfl
theorem of0_eq (b:Int):F_flag_Field_Of 0 b=some (ofS 32768 2 b):=by
 unfold F_flag_Field_Of ofS
 rw[may_eq (by omega) (by omega),bnd_some]
 cases hg:goodB b with
 | false=>rfl
 | true =>
  simp only[Bool.not_true,Bool.false_eq_true,if_false,beq_self_eq_true,if_true,mask_15_1,bnd_some]
  exact congrArg some (fof_core hg 15 1 (by omega) (by omega))
theorem of1_eq (b:Int):F_flag_Field_Of 1 b=some (ofS 2048 16 b):=by
 unfold F_flag_Field_Of ofS
 rw[may_eq (by omega) (by omega),bnd_some]
 cases hg:goodB b with
 | false=>rfl
 | true =>
  simp only[Bool.not_true,Bool.false_eq_true,if_false,beq_self_eq_true,if_true,mask_11_4,bnd_some,show ((1:Int)==0)=false from rfl]
  exact congrArg some (fof_core hg 11 4 (by omega) (by omega))
end Go.Abs

namespace Go.Abs
open Go
abbrev Ep:=Bool×Int×Int×Int×Bool
def op0:Ep:=(false,0,0,0,false)
def isO (r:RRt):Bool:=r.2.1==41
def goodO (r:RRt):Bool:=(r.1==[0])&&inC r.2.2.1 65535&&inC r.2.2.2.1 4294967295
def optO (r:RRt):Ep:=(true,r.2.2.1,r.2.2.2.1 / 16777216,r.2.2.2.1 / 65536 % 256,decide (r.2.2.2.1 / 32768 % 2=1))
def findS (m:Mt):Ep×Int :=
 if (m.2.2.2.1.any isO || m.2.2.2.2.1.any isO)=true then (op0,7) else
 match m.2.2.2.2.2.filter isO with
 | []=>(op0,0)
 | [r]=>if goodO r=true then (optO r,0) else (op0,7)
 | _=>(op0,7)
def scanO (l:List RRt):Int ⊕ Unit:=scanF (fun i x=>if isO x=true then some (Sum.inl (β:=Unit) (i:Int)) else none) (.inr ()) 0 l
theorem scanO_go:∀(l:List RRt) (i:Nat),(l.any isO=false∧scanF (fun i x=>if isO x=true then some (Sum.inl (β:=Unit) (i:Int)) else none) (.inr ()) i l=.inr ()) ∨
 ∃u r v,l=u++r::v∧u.any isO=false∧isO r=true∧scanF (fun i x=>if isO x=true then some (Sum.inl (β:=Unit) (i:Int)) else none) (.inr ()) i l=.inl ((i+u.length:Nat):Int)
 | [],i=>.inl ⟨rfl,rfl⟩
 | x::l,i=>by
  unfold scanF
  by_cases h:isO x=true
  · simp only[h,if_true]
    exact .inr ⟨[],x,l,rfl,rfl,h,rfl⟩
  · simp only[h,Bool.false_eq_true,if_false]
    rcases scanO_go l (i+1) with ⟨h1,h2⟩ | ⟨u,r,v,h1,h2,h3,h4⟩
    · exact .inl ⟨by simp[h,h1],h2⟩
    · refine .inr ⟨x::u,r,v,by simp[h1],by simp[h,h2],h3,?_⟩
      rw[h4]
      congr 2
      simp only[List.length_cons]
      omega
theorem scanO_cases (l:List RRt):(l.any isO=false∧scanO l=.inr ())∨∃u r v,l=u++r::v∧u.any isO=false∧isO r=true∧scanO l=.inl (u.length:Int):=by
 have:=scanO_go l 0
 simpa[scanO] using this
theorem any_filter (l:List RRt):l.any isO=false↔l.filter isO=[]:=by
 rw[List.filter_eq_nil_iff,List.any_eq_false]
theorem edns_in_eq (n m:Int):F_edns_in n m=some (inC n m):=by
 unfold F_edns_in inC
 by_cases h0:0≤n<;>simp[h0]
theorem find_loop {l:List RRt} {step:Int→Option (Int ⊕ (Int ⊕ Unit))} (hl:(l.length:Int)≤maxI)
 (hs:∀(i:Nat) (x:RRt),l[i]? = some x→i<l.length→step (i:Int)=if isO x=true then some (.inr (.inl (i:Int))) else some (.inl (IntKind.i64.wrap ((i:Int)+1)))) (he:step (l.length:Int)=some (.inr (.inr ()))):loopS step 0=some (scanO l):=by
 refine loop_scan _ _ (fun i x hx=>?_) he
 have hi:=(List.getElem?_eq_some_iff.1 hx).1
 unfold maxI at hl
 rw[hs i x hx hi,wrap_id (by omega) (by omega)]
 by_cases h:isO x=true<;>simp[h]
theorem find_step {l:List RRt} {step:Int→Option (Int ⊕ (Int ⊕ Unit))} (hst:step=fun i=>if decide (i<(l.length:Int))=true then natOf i fun n=>bnd (l[n]?) fun x=>bnd (F_edns_opt (x.1,x.2.1,x.2.2.1,x.2.2.2.1,x.2.2.2.2)) fun v=>if v=true then some (.inr (.inl i)) else some (.inl (IntKind.i64.wrap (i+1))) else some (.inr (.inr ())))
 (hl:(l.length:Int)≤maxI):loopS step 0=some (scanO l):=by
 subst hst
 refine find_loop hl (fun i x hx hi=>?_) ?_
 · simp only[show decide ((i:Int)<(l.length:Int))=true from decide_eq_true (by omega),if_true,natOf,Int.natCast_nonneg,Int.toNat_natCast,hx,bnd_some,F_edns_opt]
   rfl
 · simp
theorem and_pow15 (k:Nat):k &&& 2 ^ 15=if k / 2 ^ 15 % 2=1 then 2 ^ 15 else 0:=by
 apply Nat.eq_of_testBit_eq
 intro i
 rw[Nat.testBit_and,Nat.testBit_two_pow]
 by_cases hi:15=i
 · subst hi
   rw[Nat.testBit_eq_decide_div_mod_eq]
   by_cases h:k / 2 ^ 15 % 2=1
   · rw[if_pos h,Nat.testBit_two_pow];simp[h]
   · rw[if_neg h];simp[h]
 · by_cases h:k / 2 ^ 15 % 2=1
   · rw[if_pos h,Nat.testBit_two_pow];simp[hi]
   · rw[if_neg h];simp[hi]
theorem do_bit {n:Int} (h0:0≤n) (h1:n≤4294967295):(Go.bits .and .i64 n 32768 != 0)=decide (n / 32768 % 2=1):=by
 obtain⟨k,rfl⟩:=Int.eq_ofNat_of_zero_le h0
 have:=i64_and_nat k 32768 (by omega) (by omega)
 rw[show ((32768:Nat):Int)=32768 from rfl] at this
 rw[this,show (32768:Nat)=2 ^ 15 from rfl,and_pow15]
 have e:((k:Int) / 32768 % 2=1)↔(k / 2 ^ 15 % 2=1):=by omega
 by_cases h:k / 2 ^ 15 % 2=1
 · rw[decide_eq_true (e.2 h)]
   simp[h]
 · rw[decide_eq_false (fun q=>h (e.1 q))]
   simp[h]
theorem low8 {n:Int} (h0:0≤n) (h1:n≤4294967295):Go.bits .and .i64 (n.fdiv 65536) 255=n / 65536 % 256:=by
 obtain⟨k,rfl⟩:=Int.eq_ofNat_of_zero_le h0
 have e:((k:Int)).fdiv 65536=((k / 65536:Nat):Int):=by
  rw[Int.fdiv_eq_ediv_of_nonneg _ (by omega)];rfl
 rw[e]
 have:=and_mask (k / 65536) 8 (by omega) (by omega)
 rw[show ((2 ^ 8-1:Nat):Int)=255 from rfl] at this
 rw[this]
 rfl
theorem findS_any {m:Mt} (h:m.2.2.2.1.any isO=true∨m.2.2.2.2.1.any isO=true):findS m=(op0,7):=by
 unfold findS
 rw[if_pos (by rcases h with h | h<;>simp[h])]
theorem findS_none {m:Mt} (h1:m.2.2.2.1.any isO=false) (h2:m.2.2.2.2.1.any isO=false) (h3:m.2.2.2.2.2.any isO=false):findS m=(op0,0):=by
 unfold findS
 rw[if_neg (by simp[h1,h2]),(any_filter _).1 h3]
theorem findS_some {m:Mt} {u v:List RRt} {r:RRt} (h1:m.2.2.2.1.any isO=false) (h2:m.2.2.2.2.1.any isO=false) (h3:m.2.2.2.2.2=u++r::v) (hu:u.any isO=false) (hr:isO r=true) :
 findS m=if (v.any isO || !goodO r)=true then (op0,7) else (optO r,0):=by
 unfold findS
 rw[if_neg (by simp[h1,h2]),h3,List.filter_append,(any_filter _).1 hu,List.nil_append,List.filter_cons,hr,if_pos rfl]
 cases hv:v.any isO with
 | false =>
  rw[(any_filter _).1 hv]
  cases hg:goodO r<;>simp[hg]
 | true =>
  have:v.filter isO≠[]:=fun h=>by rw[←any_filter,hv] at h;simp at h
  obtain⟨x,l,hx⟩:=List.exists_cons_of_ne_nil this
  rw[hx]
  simp
theorem find_two {m:Mt} (hf:fewM m):loopS (step_edns_Find_1 m) 0=some (scanO m.2.2.2.1)∧loopS (step_edns_Find_2 m) 0=some (scanO m.2.2.2.2.1)∧loopS (step_edns_Find_3 m) 0=some (scanO m.2.2.2.2.1) ∧
 loopS (step_edns_Find_5 m) 0=some (scanO m.2.2.2.1)∧loopS (step_edns_Find_6 m) 0=some (scanO m.2.2.2.2.1)∧loopS (step_edns_Find_7 m) 0=some (scanO m.2.2.2.2.1) :=
 ⟨find_step (by funext i;unfold step_edns_Find_1;simp only[grdEq_self]) hf.2.1,find_step (by funext i;unfold step_edns_Find_2;simp only[grdEq_self]) hf.2.2.1,find_step (by funext i;unfold step_edns_Find_3;simp only[grdEq_self]) hf.2.2.1,
  find_step (by funext i;unfold step_edns_Find_5;simp only[grdEq_self]) hf.2.1,find_step (by funext i;unfold step_edns_Find_6;simp only[grdEq_self]) hf.2.2.1,find_step (by funext i;unfold step_edns_Find_7;simp only[grdEq_self]) hf.2.2.1⟩
theorem edns_Find_eq {m:Mt} (hf:fewM m):F_edns_Find m=some (findS m):=by
 obtain⟨e1,e2,e3,e5,e6,e7⟩:=find_two hf
 have e0:loopS (step_edns_Find_0 m) 0=some (scanO m.2.2.2.2.2):=find_step (by funext i;unfold step_edns_Find_0;simp only[grdEq_self]) hf.2.2.2
 unfold F_edns_Find
 simp only[grdEq_self]
 rw[e0,bnd_some]
 have hl:(m.2.2.2.2.2.length:Int)≤maxI:=hf.2.2.2
 rcases scanO_cases m.2.2.2.1 with ⟨a1,a2⟩ | ⟨u1,r1,v1,a1,a2,a3,a4⟩
 · rcases scanO_cases m.2.2.2.2.1 with ⟨b1,b2⟩ | ⟨u2,r2,v2,b1,b2,b3,b4⟩
   · rcases scanO_cases m.2.2.2.2.2 with ⟨c1,c2⟩ | ⟨u,r,v,c1,c2,c3,c4⟩
     · rw[findS_none a1 b1 c1]
       simp only[c2,e5,e6,e7,a2,b2,bnd_some,Bool.false_eq_true,if_false]
       rfl
     · rw[findS_some a1 b1 c1 c2 c3]
       have hn:¬((u.length:Int)<0):=by omega
       have hlen:u.length+1≤m.2.2.2.2.2.length:=by rw[c1];simp
       unfold maxI at hl
       have hw:Go.IntKind.i64.wrap ((u.length:Int)+1)=((u.length+1:Nat):Int):=by rw[wrap_id (by omega) (by omega)];rfl
       have hg:m.2.2.2.2.2[u.length]? = some r:=by rw[c1];simp
       have hd:List.drop (u.length+1) m.2.2.2.2.2=v:=by rw[c1];simp
       have e4:loopS (step_edns_Find_4 m r (u.length+1)) 0=some (scanO v):=by
        rw[←hd]
        refine find_step (by funext i;unfold step_edns_Find_4;simp only[grdEq_self]) ?_
        unfold maxI
        simp only[List.length_drop]
        omega
       simp only[c4,e1,e2,e3,a2,b2,bnd_some,Bool.false_eq_true,if_false,hn,decide_false,natOf,Int.natCast_nonneg,if_true,Int.toNat_natCast,hg,hw]
       rw[grdp hlen,e4,bnd_some]
       have hgood:∀{A:Type} (K:Bool→Option A),bnd (if (!r.fst==[0])=false then bnd (F_edns_in r.snd.snd.fst 65535) fun v=>if (!v)=false then bnd (F_edns_in r.snd.snd.snd.fst 4294967295) fun v=>some (!v) else some true else some true) K=K (!goodO r):=by
        intro A K
        simp only[edns_in_eq,bnd_some]
        unfold goodO
        cases (r.fst==[0])<;>cases inC r.snd.snd.fst 65535<;>cases inC r.snd.snd.snd.fst 4294967295<;>rfl
       have hopt:goodO r=true→(true,r.snd.snd.fst,Int.fdiv r.snd.snd.snd.fst 16777216,Go.bits Go.BinOp.and Go.IntKind.i64 (Int.fdiv r.snd.snd.snd.fst 65536) 255,Go.bits Go.BinOp.and Go.IntKind.i64 r.snd.snd.snd.fst 32768 != 0)=optO r:=by
        intro h
        unfold goodO inC at h
        simp only[Bool.and_eq_true,decide_eq_true_eq] at h
        unfold optO
        rw[do_bit h.2.1 h.2.2,low8 h.2.1 h.2.2,Int.fdiv_eq_ediv_of_nonneg _ (by omega)]
       rcases scanO_cases v with ⟨d1,d2⟩ | ⟨u3,r3,v3,d1,d2,d3,d4⟩
       · simp only[d2,hgood,d1,Bool.false_or]
         cases hgo:goodO r with
         | false=>rfl
         | true =>
          simp only[Bool.not_true,Bool.false_eq_true,if_false,bnd_some]
          rw[←hopt hgo]
       · have hv:v.any isO=true:=by rw[d1];simp[d3]
         simp only[d4,hv,Bool.true_or,if_true,show decide ((0:Int)≤(u3.length:Int))=true from decide_eq_true (by omega),Bool.true_eq_false,if_false,bnd_some]
         rfl
   · have hb:m.2.2.2.2.1.any isO=true:=by rw[b1];simp[b3]
     rw[findS_any (.inr hb)]
     simp only[e1,e2,e3,e5,e6,e7,a2,b4,bnd_some,show decide ((0:Int)≤(u2.length:Int))=true from decide_eq_true (by omega),if_true]
     cases scanO m.2.2.2.2.2<;>rfl
 · have ha:m.2.2.2.1.any isO=true:=by rw[a1];simp[a3]
   rw[findS_any (.inl ha)]
   simp only[e1,e2,e3,e5,e6,e7,a4,bnd_some,show decide ((0:Int)≤(u1.length:Int))=true from decide_eq_true (by omega),if_true,Bool.true_eq_false,if_false]
   cases scanO m.2.2.2.2.2<;>rfl
end Go.Abs

namespace Go.Abs
open Go
abbrev Ak:=Int×Int×List UInt8×Int×Int×Bool×Int×Int×Int×Bool
def mkA (id bits:Int) (q:Qt) (o:Ep):Ak:=(id,bits,q.1,q.2.1,q.2.2,o.1,o.2.1,o.2.2.1,o.2.2.2.1,o.2.2.2.2)
def q0:Qt:=([],0,0)
def ak0:Ak:=mkA 0 0 q0 op0
def askS (s:List UInt8):Option (Qt×Ep) :=
 if (decS s).2≠0∨(findS (decS s).1).2≠0 then none else
 match (decS s).1.2.2.1 with
 | [q]=>some (q,(findS (decS s).1).1)
 | _=>none
def readQ (id bits:Int) (q:Qt) (o:Ep):Ak×Int×Int :=
 if o.2.2.2.1≠0 then (mkA id bits q o,1,16) else if q.2.2≠1 then (mkA id bits q o,1,5)
 else if q.2.1=0∨q.2.1=41∨(128≤q.2.1∧q.2.1≤255) then (mkA id bits q o,1,4) else (mkA id bits q o,2,0)
def readR (s:List UInt8):Ak×Int×Int :=
 if (headS s).2.2=false∨ofS 32768 2 (headS s).2.1=1 then (ak0,0,0)
 else if ofS 2048 16 (headS s).2.1≠0 then (mkA (headS s).1 (headS s).2.1 q0 op0,1,4)
 else match askS s with
  | none=>(mkA (headS s).1 (headS s).2.1 q0 op0,1,1)
  | some (q,o)=>readQ (headS s).1 (headS s).2.1 q o
@[reducible] def askT (o:Option (Qt×Ep)):Qt×Ep×Bool:=match o with
 | some (q,o)=>(q,o,true)
 | none=>(q0,op0,false)
theorem reply_asked_eq {s:List UInt8} (hs:s.length≤1000000):F_reply_asked s=some (askT (askS s)):=by
 unfold F_reply_asked
 rw[msg_Decode_eq hs,bnd_some]
 have hf:=decS_few s
 have e1:F_edns_Find ((decS s).1.1,(decS s).1.2.1,(decS s).1.2.2.1,(decS s).1.2.2.2.1,(decS s).1.2.2.2.2.1,(decS s).1.2.2.2.2.2)=some (findS (decS s).1):=edns_Find_eq hf
 simp only[e1,bnd_some,grdEq_self]
 unfold askS
 by_cases h:(decS s).2=0
 · have h':((decS s).2 != 0)=false:=by simpa using h
   simp only[h',if_true]
   cases hq:(decS s).1.2.2.1 with
   | nil =>
    simp
    rfl
   | cons q l =>
    cases l with
    | nil =>
     by_cases h2:(findS (decS s).1).2=0
     · have h2':((findS (decS s).1).2 != 0)=false:=by simpa using h2
       simp[h2',h,h2,askT,bnd_some]
     · have h2':((findS (decS s).1).2 != 0)=true:=by simpa using h2
       simp[h2',h,h2,askT,q0,op0,bnd_some]
    | cons q2 l =>
     have:(((q::q2::l).length:Int) != 1)=true:=by
      simp only[List.length_cons,bne_iff_ne,ne_eq]
      omega
     rw[this]
     simp only[bnd_some,if_true]
     have e:(if (decS s).snd≠0∨(findS (decS s).fst).snd≠0 then none else (none:Option (Qt×Ep)))=none:=by split<;>rfl
     rw[e]
     rfl
 · have h':((decS s).2 != 0)=true:=by simpa using h
   simp only[h',Bool.true_eq_false,if_false,bnd_some,if_true]
   rw[if_pos (.inl h)]
   rfl
theorem kind_eq (k:Int):(if (k==0)=false then if (k==41)=false then if decide (128≤k)=true then some (decide (k≤255)) else some false else some true else some true)=some (decide (k=0∨k=41∨(128≤k∧k≤255))):=by
 by_cases h0:k=0
 · simp[h0]
 · by_cases h1:k=41
   · simp[h1]
   · by_cases h2:128≤k
     · simp[h0,h1,h2]
     · simp[h0,h1,h2]
theorem readQ_eq (id bits:Int) (q:Qt) (o:Ep):(if (o.2.2.2.1 != 0)=true then some (mkA id bits q o,(1:Int),(16:Int)) else if (q.2.2 != 1)=true then some (mkA id bits q o,1,5) else if (decide (q.2.1=0∨q.2.1=41∨(128≤q.2.1∧q.2.1≤255)))=true then some (mkA id bits q o,1,4) else some (mkA id bits q o,2,0))=some (readQ id bits q o):=by
 unfold readQ
 by_cases h1:o.2.2.2.1=0
 · by_cases h2:q.2.2=1
   · by_cases h3:q.2.1=0∨q.2.1=41∨(128≤q.2.1∧q.2.1≤255)
     · simp[h1,h2,h3]
     · simp[h1,h2,h3]
   · simp[h1,h2]
 · simp[h1]
theorem reply_Read_eq {s:List UInt8} (hs:s.length≤1000000):F_reply_Read s=some (readR s):=by
 unfold F_reply_Read readR
 rw[msg_Head_eq (by unfold maxI;omega),bnd_some,reply_asked_eq hs]
 rcases headS s with ⟨id,bits,is⟩
 cases is with
 | false =>
  simp only[Bool.not_false,Bool.true_eq_false,if_false,bnd_some,true_or,if_true,grdEq_self]
  rfl
 | true =>
  simp only[of0_eq,of1_eq,bnd_some,grdEq_self,Bool.not_true,if_true]
  by_cases h2:ofS 32768 2 bits=1
  · simp only[h2,beq_self_eq_true,if_true,bnd_some,or_true]
    rfl
  · have h2':(ofS 32768 2 bits==1)=false:=by simpa using h2
    simp only[h2',Bool.false_eq_true,if_false,bnd_some,h2,or_self,Bool.true_eq_false]
    by_cases h3:ofS 2048 16 bits=0
    · have h3':(ofS 2048 16 bits != 0)=false:=by simpa using h3
      have h3'':¬(ofS 2048 16 bits≠0):=by simp[h3]
      simp only[h3',Bool.false_eq_true,if_false,h3'']
      rcases askS s with _ | ⟨q,o⟩
      · rfl
      · simp only[askT,Bool.not_true,Bool.false_eq_true,if_false]
        rw[kind_eq,bnd_some]
        exact readQ_eq id bits q o
    · have h3':(ofS 2048 16 bits != 0)=true:=by simpa using h3
      simp only[h3',if_true,ne_eq,h3,not_false_eq_true]
      rfl
end Go.Abs

namespace Go.Abs
open Go
theorem live17:F_law17_live=some true:=by kernel_rfl
end Go.Abs

namespace Go.Abs
open Go
end Go.Abs

namespace Go.Abs
open Go
end Go.Abs

namespace Go.Abs
open Go
end Go.Abs

namespace Go.Abs
open Go
end Go.Abs

namespace Go.Abs
open Go
theorem head_dec {s:List UInt8} (h:(decS s).2=0):headS s=((decS s).1.1,(decS s).1.2.1,true):=by
 obtain⟨h1,_,_,_,_,_,_,e⟩:=decS_ok h
 unfold headS
 rw[if_neg (by omega),e]
def askD (D:Mt):Option (Qt×Ep):=if (findS D).2≠0 then none else match D.2.2.1 with
 | [q]=>some (q,(findS D).1)
 | _=>none
def readD (D:Mt):Ak×Int×Int :=
 if ofS 32768 2 D.2.1=1 then (ak0,0,0) else if ofS 2048 16 D.2.1≠0 then (mkA D.1 D.2.1 q0 op0,1,4)
 else match askD D with
  | none=>(mkA D.1 D.2.1 q0 op0,1,1)
  | some (q,o)=>readQ D.1 D.2.1 q o
theorem ask_dec {s:List UInt8} (h:(decS s).2=0):askS s=askD (decS s).1:=by
 unfold askS askD
 by_cases h2:(findS (decS s).1).2=0
 · rw[if_neg (by simp[h,h2]),if_neg (by simp[h2])]
   all_goals rfl
 · rw[if_pos (.inr h2),if_pos h2]
theorem readR_dec {s:List UInt8} (h:(decS s).2=0):readR s=readD (decS s).1:=by
 unfold readR readD
 rw[head_dec h,ask_dec h]
 simp only[Bool.true_eq_false,false_or]
 all_goals rfl
theorem readD_id (D:Mt) (id:Int):(readD (id,D.2)).2=(readD D).2∧(readD (id,D.2)).1.2=(readD D).1.2∧((readD D).2.1≠0→(readD D).1.1=D.1∧(readD (id,D.2)).1.1=id):=by
 have e:askD (id,D.2)=askD D:=rfl
 unfold readD
 rw[e]
 show _∧_∧_
 simp only
 by_cases h1:ofS 32768 2 D.2.1=1
 · rw[if_pos h1,if_pos h1];exact⟨rfl,rfl,fun h=>absurd rfl h⟩
 · rw[if_neg h1,if_neg h1]
   by_cases h2:ofS 2048 16 D.2.1≠0
   · rw[if_pos h2,if_pos h2];exact⟨rfl,rfl,fun _=>⟨rfl,rfl⟩⟩
   · rw[if_neg h2,if_neg h2]
     cases askD D with
     | none=>exact⟨rfl,rfl,fun _=>⟨rfl,rfl⟩⟩
     | some p =>
      obtain⟨q,o⟩:=p
      simp only
      unfold readQ
      by_cases g1:o.2.2.2.1≠0
      · rw[if_pos g1,if_pos g1];exact⟨rfl,rfl,fun _=>⟨rfl,rfl⟩⟩
      · rw[if_neg g1,if_neg g1]
        by_cases g2:q.2.2≠1
        · rw[if_pos g2,if_pos g2];exact⟨rfl,rfl,fun _=>⟨rfl,rfl⟩⟩
        · rw[if_neg g2,if_neg g2]
          by_cases g3:q.2.1=0∨q.2.1=41∨(128≤q.2.1∧q.2.1≤255)
          · rw[if_pos g3,if_pos g3];exact⟨rfl,rfl,fun _=>⟨rfl,rfl⟩⟩
          · rw[if_neg g3,if_neg g3];exact⟨rfl,rfl,fun _=>⟨rfl,rfl⟩⟩
theorem enc_len17 (m:Mt):(encM m).1.length≤65535:=by
 by_cases h:(encM m).2=0
 · obtain⟨_,h2,h3⟩:=encM_ok h
   rw[h2];exact h3
 · rw[(encM_err h).1];simp
theorem law_ReplyEchoes (m:Mt) (id:Int) (hf:fewM m):F_law17_ReplyEchoes m id=some true:=by
 unfold F_law17_ReplyEchoes
 rw[live17]
 have e1:F_ref08_Small (m.fst,m.snd.fst,m.snd.snd.fst,m.snd.snd.snd.fst,m.snd.snd.snd.snd.fst,m.snd.snd.snd.snd.snd)=some (smallM m):=ref08_Small_eq hf
 have e2:F_ref08_Encode (m.fst,m.snd.fst,m.snd.snd.fst,m.snd.snd.snd.fst,m.snd.snd.snd.snd.fst,m.snd.snd.snd.snd.snd)=some (encM m):=ref08_Encode_eq hf
 have e3:F_ref08_Encode (id,m.snd.fst,m.snd.snd.fst,m.snd.snd.snd.fst,m.snd.snd.snd.snd.fst,m.snd.snd.snd.snd.snd)=some (encM (id,m.2)):=ref08_Encode_eq (m:=(id,m.2)) hf
 rw[e1,e2,e3]
 simp only[bnd_some,grdEq_self]
 cases smallM m with
 | false=>rfl
 | true =>
  by_cases h0:id<0
  · simp only[Bool.not_true,if_true,decide_eq_true h0,Bool.true_eq_false,if_false,bnd_some]
  · by_cases h1:65535<id
    · simp only[Bool.not_true,if_true,decide_eq_false h0,decide_eq_true h1,bnd_some]
    · simp only[Bool.not_true,if_true,decide_eq_false h0,decide_eq_false h1,bnd_some,Bool.false_eq_true,if_false]
      by_cases h2:(encM m).2=0
      · have h2':((encM m).2 != 0)=false:=by simpa using h2
        obtain⟨h3,_⟩:=enc_id (m:=m) (id:=id) ⟨by omega,by omega⟩ h2
        have h3':((encM (id,m.2)).2 != 0)=false:=by simpa using h3
        have l1:=enc_len17 m
        have l2:=enc_len17 (id,m.2)
        have d1:=dec_enc h2
        have d2:=dec_enc h3
        have r1:=readR_dec (s:=(encM m).1) (by rw[d1])
        have r2:=readR_dec (s:=(encM (id,m.2)).1) (by rw[d2])
        rw[d1] at r1
        rw[d2] at r2
        have hb:backM (id,m.2)=(id,(backM m).2):=rfl
        rw[hb] at r2
        obtain⟨k1,k2,k3⟩:=readD_id (backM m) id
        simp only[h2',h3',if_true,Bool.false_eq_true,if_false,bnd_some,reply_Read_eq (show (encM m).1.length≤1000000 by omega),reply_Read_eq (show (encM (id,m.2)).1.length≤1000000 by omega),r1,r2]
        have hm:(backM m).1=m.1:=rfl
        rw[hm] at k3
        generalize readD (backM m)=R at *
        generalize readD (id,(backM m).2)=R' at *
        obtain⟨a,k,c⟩:=R
        obtain⟨a',k',c'⟩:=R'
        simp only[Prod.mk.injEq] at k1
        obtain⟨rfl,rfl⟩:=k1
        obtain⟨i,ar⟩:=a
        obtain⟨i',ar'⟩:=a'
        simp only at k2 k3
        subst k2
        by_cases hk:k'=0
        · have hk':(k' != 0)=false:=by simpa using hk
          simp[hk',bnd_some]
        · have hk':(k' != 0)=true:=by simpa using hk
          obtain⟨g1,g2⟩:=k3 hk
          simp[hk',g1,g2,bnd_some]
      · have h2':((encM m).2 != 0)=true:=by simpa using h2
        simp only[h2',Bool.true_eq_false,if_false,bnd_some,if_true]
end Go.Abs
