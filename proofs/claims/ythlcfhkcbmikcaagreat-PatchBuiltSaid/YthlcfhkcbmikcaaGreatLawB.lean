/- Part of a proof. -/
import Derived.Test.YthlcfhkcbmikcaaGreatLawA
import Derived.Test.YthlcfhkcbmikcaaGreatSxB
set_option linter.unusedSimpArgs false
set_option linter.unusedVariables false
set_option linter.unusedSectionVars false
namespace Go.Abs
open Go
def encs (base:List UInt8) (l:List RRt):List UInt8:=(l.map (recE base 12)).flatten
theorem encs_app (base:List UInt8) (l m:List RRt):encs base (l++m)=encs base l++encs base m:=by simp[encs]
theorem encs_cons (base:List UInt8) (r:RRt) (m:List RRt):encs base (r::m)=recE base 12 r++encs base m:=by simp[encs]
theorem recE_len {base:List UInt8} {r:RRt}:(recE base 12 r).length≤267+r.2.2.2.2.length:=by
 unfold recE
 split
 · simp
 · have:=writeS_len base r.1 12
   simp[tailE,put2,put4];omega
def goodR (r:RRt):Prop:=r.1.length≤300∧r.2.2.2.2.length≤2000∧recC r=true
theorem encs_len {base:List UInt8}:∀{l:List RRt},(∀r∈l,goodR r)→(encs base l).length≤2267*l.length
 | [],_=>by simp[encs]
 | r::l,h=>by
  have h1:=(h r (by simp)).2.1
  have h2:=encs_len (base:=base) (l:=l) (fun x hx=>h x (by simp[hx]))
  have h3:=recE_len (base:=base) (r:=r)
  rw[encs_cons]
  simp only[List.length_append,List.length_cons]
  omega
end Go.Abs

namespace Go.Abs
open Go
abbrev Qt:=List UInt8×Int×Int
abbrev Mt:=Int×Int×List Qt×List RRt×List RRt×List RRt
def m0:Mt:=(0,0,[],[],[],[])
end Go.Abs

namespace Go.Abs
open Go
instance:DecidableEq Qt:=inferInstanceAs (DecidableEq (List UInt8×Int×Int))
instance:DecidableEq RRt:=inferInstanceAs (DecidableEq (List UInt8×Int×Int×Int×List UInt8))
abbrev Mt2:=List RRt×List RRt
instance:DecidableEq Mt2:=inferInstanceAs (DecidableEq (List RRt×List RRt))
abbrev Mt3:=List Qt×List RRt×Mt2
instance:DecidableEq Mt3:=inferInstanceAs (DecidableEq (List Qt×List RRt×Mt2))
instance:DecidableEq Mt:=inferInstanceAs (DecidableEq (Int×Int×Mt3))
def fewM (m:Mt):Prop:=(m.2.2.1.length:Int)≤maxI∧(m.2.2.2.1.length:Int)≤maxI∧(m.2.2.2.2.1.length:Int)≤maxI∧(m.2.2.2.2.2.length:Int)≤maxI
end Go.Abs

namespace Go.Abs
open Go
theorem all_loop {α ρ:Type} {ok:α→Bool} {bad:Nat→ρ} {step:Int→Option (Int ⊕ (ρ ⊕ Unit))} (l:List α)
 (hend:step (l.length:Int)=some (.inr (.inr ())))
 (hst:∀(i:Nat) (x:α),l[i]? = some x→step (i:Int)=if ok x=true then some (.inl ((i+1:Nat):Int)) else some (.inr (.inl (bad i)))) :
 ∃r,loopS step 0=some r∧(if l.all ok=true then r=.inr () else ∃i,r=.inl (bad i)):=by
 have key:∀(v u:List α),l=u++v→∃r,loopS step (u.length:Int)=some r∧(if v.all ok=true then r=.inr () else ∃i,r=.inl (bad i)):=by
  intro v
  induction v with
  | nil =>
   intro u h
   rw[List.append_nil] at h
   subst h
   exact⟨.inr (),loopS_out hend,by simp⟩
  | cons x v ih =>
   intro u h
   have hs:=hst u.length x (by rw[h];simp)
   by_cases hx:ok x=true
   · rw[if_pos hx] at hs
     obtain⟨r,r1,r2⟩:=ih (u++[x]) (by rw[h];simp)
     refine⟨r,?_,?_⟩
     · rw[loopS_next hs]
       simpa using r1
     · simpa[hx] using r2
   · rw[if_neg hx] at hs
     refine⟨.inl (bad u.length),loopS_out hs,?_⟩
     rw[if_neg (by simp[hx])]
     exact⟨_,rfl⟩
 exact key l [] rfl
def okQ (q:Qt):Bool:=nameS q.1&&inC q.2.1 65535&&inC q.2.2 65535
def checkM (m:Mt):Bool:=inC m.1 65535&&inC m.2.1 65535&&inC (m.2.2.1.length:Int) 65535&&m.2.2.1.all okQ&&inC (m.2.2.2.1.length:Int) 65535&&m.2.2.2.1.all recC&&inC (m.2.2.2.2.1.length:Int) 65535&&m.2.2.2.2.1.all recC&&inC (m.2.2.2.2.2.length:Int) 65535&&m.2.2.2.2.2.all recC
theorem msg_small_eq (n:Int):F_msg_small n=some (inC n 65535):=by
 unfold F_msg_small inC
 by_cases h:0≤n<;>simp[h]
def fineM (m:Mt):Prop:=fewM m∧(∀q∈m.2.2.1,(q.1.length:Int)≤maxI)∧(∀r∈m.2.2.2.1,(r.1.length:Int)≤maxI)∧(∀r∈m.2.2.2.2.1,(r.1.length:Int)≤maxI)∧(∀r∈m.2.2.2.2.2,(r.1.length:Int)≤maxI)
theorem msg_Check_1_eq {r:RRt} (h:(r.1.length:Int)≤maxI):F_msg_Check_1 r=some (!recC r):=by
 unfold F_msg_Check_1
 have e1:F_record_Check (r.fst,r.snd.fst,r.snd.snd.fst,r.snd.snd.snd.fst,r.snd.snd.snd.snd)=some (recC r):=record_Check_eq (r:=(r.fst,r.snd.fst,r.snd.snd.fst,r.snd.snd.snd.fst,r.snd.snd.snd.snd)) h
 rw[e1,bnd_some]
theorem msg_Check_2_eq {q:Qt} (h:(q.1.length:Int)≤maxI):F_msg_Check_2 q=some (!okQ q):=by
 unfold F_msg_Check_2 okQ
 simp only[name_Check_eq h,msg_small_eq,bnd_some]
 cases nameS q.1<;>cases inC q.2.1 65535<;>cases inC q.2.2 65535<;>simp
theorem check_an {m:Mt} (hl:(m.2.2.2.1.length:Int)≤maxI) (hn:∀r∈m.2.2.2.1,(r.1.length:Int)≤maxI):∃r,loopS (step_msg_Check_0 m) 0=some r∧(if m.2.2.2.1.all recC=true then r=.inr () else ∃i:Nat,r=.inl (i:Int)):=by
 have hm:maxI=9223372036854775807:=rfl
 exact all_loop (ok:=recC) (bad:=fun i=>(i:Int)) m.2.2.2.1 (by simp[step_msg_Check_0,grdEq_self]) (fun i x hx=>by
  have hi:=(List.getElem?_eq_some_iff.1 hx).1
  have e:F_msg_Check_1 (x.fst,x.snd.fst,x.snd.snd.fst,x.snd.snd.snd.fst,x.snd.snd.snd.snd)=some (!recC x):=msg_Check_1_eq (hn x (List.mem_of_getElem? hx))
  simp only[step_msg_Check_0,natOf_nat,hx,bnd_some,e,grdEq_self]
  rw[if_pos (by simp;omega),wrap_id (by omega) (by omega)]
  cases recC x<;>simp)
theorem check_ns {m:Mt} (hl:(m.2.2.2.2.1.length:Int)≤maxI) (hn:∀r∈m.2.2.2.2.1,(r.1.length:Int)≤maxI):∃r,loopS (step_msg_Check_8 m) 0=some r∧(if m.2.2.2.2.1.all recC=true then r=.inr () else ∃i:Nat,r=.inl (i:Int)):=by
 have hm:maxI=9223372036854775807:=rfl
 exact all_loop (ok:=recC) (bad:=fun i=>(i:Int)) m.2.2.2.2.1 (by simp[step_msg_Check_8,grdEq_self]) (fun i x hx=>by
  have hi:=(List.getElem?_eq_some_iff.1 hx).1
  have e:F_msg_Check_1 (x.fst,x.snd.fst,x.snd.snd.fst,x.snd.snd.snd.fst,x.snd.snd.snd.snd)=some (!recC x):=msg_Check_1_eq (hn x (List.mem_of_getElem? hx))
  simp only[step_msg_Check_8,natOf_nat,hx,bnd_some,e,grdEq_self]
  rw[if_pos (by simp;omega),wrap_id (by omega) (by omega)]
  cases recC x<;>simp)
theorem check_ar {m:Mt} (hl:(m.2.2.2.2.2.length:Int)≤maxI) (hn:∀r∈m.2.2.2.2.2,(r.1.length:Int)≤maxI):∃r,loopS (step_msg_Check_12 m) 0=some r∧(if m.2.2.2.2.2.all recC=true then r=.inr () else ∃i:Nat,r=.inl (i:Int)):=by
 have hm:maxI=9223372036854775807:=rfl
 exact all_loop (ok:=recC) (bad:=fun i=>(i:Int)) m.2.2.2.2.2 (by simp[step_msg_Check_12,grdEq_self]) (fun i x hx=>by
  have hi:=(List.getElem?_eq_some_iff.1 hx).1
  have e:F_msg_Check_1 (x.fst,x.snd.fst,x.snd.snd.fst,x.snd.snd.snd.fst,x.snd.snd.snd.snd)=some (!recC x):=msg_Check_1_eq (hn x (List.mem_of_getElem? hx))
  simp only[step_msg_Check_12,natOf_nat,hx,bnd_some,e,grdEq_self]
  rw[if_pos (by simp;omega),wrap_id (by omega) (by omega)]
  cases recC x<;>simp)
theorem check_qs {m:Mt} (hl:(m.2.2.1.length:Int)≤maxI) (hn:∀q∈m.2.2.1,(q.1.length:Int)≤maxI):∃r,loopS (step_msg_Check_14 m) 0=some r∧(if m.2.2.1.all okQ=true then r=.inr () else ∃i:Nat,r=.inl (i:Int)):=by
 have hm:maxI=9223372036854775807:=rfl
 exact all_loop (ok:=okQ) (bad:=fun i=>(i:Int)) m.2.2.1 (by simp[step_msg_Check_14,grdEq_self]) (fun i x hx=>by
  have hi:=(List.getElem?_eq_some_iff.1 hx).1
  have e:F_msg_Check_2 (x.fst,x.snd.fst,x.snd.snd)=some (!okQ x):=msg_Check_2_eq (hn x (List.mem_of_getElem? hx))
  simp only[step_msg_Check_14,natOf_nat,hx,bnd_some,e,grdEq_self]
  rw[if_pos (by simp;omega),wrap_id (by omega) (by omega)]
  cases okQ x<;>simp)
theorem msg_Check_eq {m:Mt} (hf:fineM m):F_msg_Check m=some (checkM m):=by
 obtain⟨⟨f1,f2,f3,f4⟩,n1,n2,n3,n4⟩:=hf
 unfold F_msg_Check checkM
 have e0:∀i:Nat,decide ((0:Int)≤(i:Int))=true:=by intro i;simp
 simp only[msg_small_eq,bnd_some,grdEq_self]
 cases inC (m.2.2.2.1.length:Int) 65535 with
 | false=>simp
 | true =>
  simp only[Bool.not_true,if_true]
  obtain⟨r,r1,r2⟩:=check_an f2 n2
  rw[r1,bnd_some]
  by_cases h:m.2.2.2.1.all recC=true
  · rw[if_pos h] at r2
    subst r2
    simp only[h,Bool.and_true]
    cases inC (m.2.2.2.2.1.length:Int) 65535 with
    | false=>simp
    | true =>
     simp only[Bool.not_true,if_true]
     obtain⟨r,r1,r2⟩:=check_ns f3 n3
     rw[r1,bnd_some]
     by_cases h:m.2.2.2.2.1.all recC=true
     · rw[if_pos h] at r2
       subst r2
       simp only[h,Bool.and_true]
       cases inC (m.2.2.2.2.2.length:Int) 65535 with
       | false=>simp
       | true =>
        simp only[Bool.not_true,if_true]
        obtain⟨r,r1,r2⟩:=check_ar f4 n4
        rw[r1,bnd_some]
        by_cases h:m.2.2.2.2.2.all recC=true
        · rw[if_pos h] at r2
          subst r2
          simp only[h,Bool.and_true]
          cases inC m.1 65535 with
          | false=>simp
          | true =>
           cases inC m.2.1 65535 with
           | false=>simp
           | true =>
            cases inC (m.2.2.1.length:Int) 65535 with
            | false=>simp
            | true =>
             simp only[if_true,Bool.true_and]
             obtain⟨r,r1,r2⟩:=check_qs f1 n1
             rw[r1,bnd_some]
             by_cases h:m.2.2.1.all okQ=true
             · rw[if_pos h] at r2
               subst r2
               simp only[h]
             · rw[if_neg h] at r2
               obtain⟨i,rfl⟩:=r2
               simp only[Bool.not_eq_true] at h
               simp only[h,e0,Bool.not_true]
        · rw[if_neg h] at r2
          obtain⟨i,rfl⟩:=r2
          simp only[Bool.not_eq_true] at h
          simp only[h,e0,if_true,Bool.and_false]
     · rw[if_neg h] at r2
       obtain⟨i,rfl⟩:=r2
       simp only[Bool.not_eq_true] at h
       simp only[h,e0,if_true,Bool.and_false,Bool.false_and]
  · rw[if_neg h] at r2
    obtain⟨i,rfl⟩:=r2
    simp only[Bool.not_eq_true] at h
    simp only[h,e0,if_true,Bool.and_false,Bool.false_and]
def baseM (m:Mt):List UInt8:=match m.2.2.1 with | []=>[0] | q::_=>q.1
def encQ (q:Qt):List UInt8:=q.1++put2 q.2.1++put2 q.2.2
def headE (m:Mt):List UInt8:=put2 m.1++put2 m.2.1++put2 (m.2.2.1.length:Int)++put2 (m.2.2.2.1.length:Int)++put2 (m.2.2.2.2.1.length:Int)++put2 (m.2.2.2.2.2.length:Int)
def encF (base:List UInt8):List RRt→List UInt8→List UInt8
 | [],s=>s
 | r::l,s=>if 65535<s.length then s else encF base l (s++recE base 12 r)
theorem encF_long {base s:List UInt8} (h:65535<s.length):∀l,encF base l s=s
 | []=>rfl
 | r::l=>by rw[encF,if_pos h]
theorem encF_app {base:List UInt8}:∀(l m:List RRt) (s:List UInt8),encF base (l++m) s=encF base m (encF base l s)
 | [],m,s=>rfl
 | r::l,m,s=>by
  by_cases h:65535<s.length
  · rw[List.cons_append,encF,if_pos h,encF,if_pos h,encF_long h]
  · rw[List.cons_append,encF,if_neg h,encF,if_neg h,encF_app l m]
def encM (m:Mt):List UInt8×Int :=
 if checkM m=false then ([],1)
 else if 65535<(encF (baseM m) (m.2.2.2.1++m.2.2.2.2.1++m.2.2.2.2.2) (headE m++(m.2.2.1.map encQ).flatten)).length then ([],6)
 else (encF (baseM m) (m.2.2.2.1++m.2.2.2.2.1++m.2.2.2.2.2) (headE m++(m.2.2.1.map encQ).flatten),0)
theorem checkM_iff {m:Mt} (h:checkM m=true):(0≤m.1∧m.1≤65535)∧(0≤m.2.1∧m.2.1≤65535)∧m.2.2.1.length≤65535∧(∀q∈m.2.2.1,okQ q=true)∧m.2.2.2.1.length≤65535∧(∀r∈m.2.2.2.1,recC r=true) ∧
 m.2.2.2.2.1.length≤65535∧(∀r∈m.2.2.2.2.1,recC r=true)∧m.2.2.2.2.2.length≤65535∧(∀r∈m.2.2.2.2.2,recC r=true):=by
 unfold checkM inC at h
 simp only[Bool.and_eq_true,decide_eq_true_eq,List.all_eq_true] at h
 obtain⟨⟨⟨⟨⟨⟨⟨⟨⟨h1,h2⟩,h3⟩,h4⟩,h5⟩,h6⟩,h7⟩,h8⟩,h9⟩,h10⟩:=h
 exact⟨h1,h2,by omega,h4,by omega,h6,by omega,h8,by omega,h10⟩
theorem okQ_iff {q:Qt} (h:okQ q=true):nameS q.1=true∧(0≤q.2.1∧q.2.1≤65535)∧(0≤q.2.2∧q.2.2≤65535):=by
 unfold okQ inC at h
 simp only[Bool.and_eq_true,decide_eq_true_eq] at h
 exact⟨h.1.1,h.1.2,h.2⟩
theorem encQ_len {q:Qt} (h:okQ q=true):(encQ q).length≤259:=by
 have:=(nameS_pos (okQ_iff h).1).2
 simp[encQ,put2];omega
theorem encQs_len:∀{l:List Qt},(∀q∈l,okQ q=true)→(l.map encQ).flatten.length≤259*l.length
 | [],_=>by simp
 | q::l,h=>by
  have h1:=encQ_len (h q (by simp))
  have h2:=encQs_len (l:=l) (fun x hx=>h x (by simp[hx]))
  simp only[List.map_cons,List.flatten_cons,List.length_append,List.length_cons]
  omega
theorem encF_len {base:List UInt8}:∀(l:List RRt) (s:List UInt8) (k:Nat),(∀r∈l,recC r=true)→s.length≤k→131337≤k→(encF base l s).length≤k
 | [],s,k,_,h,_=>h
 | r::l,s,k,hr,h,hk=>by
  unfold encF
  split
  · exact h
  · have h1:=recE_len (base:=base) (r:=r)
    have h2:=(dataC_iff (recC_iff (hr r (by simp))).2.2.2.2).1
    exact encF_len l _ k (fun x hx=>hr x (by simp[hx])) (by simp only[List.length_append];omega) hk
theorem enc_loop0 {m:Mt} (hq:∀q∈m.2.2.1,okQ q=true) (hl:m.2.2.1.length≤65535) {S:List UInt8} (hS:S.length≤1000):∀(v u:List Qt),m.2.2.1=u++v →
 loopS (step_msg_Encode_0 m) (S++(u.map encQ).flatten,((match u with | []=>[0] | q::_=>q.1),(u.length:Int)))=some (S++(m.2.2.1.map encQ).flatten,baseM m)
 | [],u,h=>by
  rw[List.append_nil] at h
  refine loopS_out ?_
  simp only[step_msg_Encode_0,grdEq_self,baseM,h]
  rw[if_neg (by simp)]
 | x::v,u,h=>by
  have hm:maxI=9223372036854775807:=rfl
  have hg:m.2.2.1[u.length]? = some x:=by rw[h];simp
  have hxm:x∈m.2.2.1:=by rw[h];simp
  obtain⟨x1,x2,x3⟩:=okQ_iff (hq x hxm)
  have hxl:=(nameS_pos x1).2
  have hul:u.length<m.2.2.1.length:=by rw[h];simp
  have hel:=encQs_len (l:=u) (fun q hq'=>hq q (by rw[h];simp[hq']))
  have c0:decide ((u.length:Int)<(m.2.2.1.length:Int))=true:=by simp;omega
  have hp2:∀x,(put2 x).length=2:=fun _=>rfl
  have hfl:(S++(u.map encQ).flatten).length≤17000000:=by simp only[List.length_append];omega
  rw[loopS_next (y:=(S++((u++[x]).map encQ).flatten,((match (u++[x]) with | []=>[0] | q::_=>q.1),((u++[x]).length:Int))))]
  · exact enc_loop0 hq hl hS v (u++[x]) (by rw[h];simp)
  · simp only[step_msg_Encode_0,c0,if_true,natOf_nat,hg,bnd_some,grdEq_self,octet_put2 x2.1 (by omega),octet_put2 x3.1 (by omega)]
    cases u with
    | nil =>
     simp only[List.length_nil,Int.natCast_zero,beq_self_eq_true,if_true,bnd_some]
     rw[grdp (by unfold maxStr;simp only[hp2];omega),grdp (by unfold maxStr;simp only[List.length_append,hp2];omega),grdp (by unfold maxStr;simp only[List.length_append,hp2,List.length_nil,List.map_nil,List.flatten_nil];omega)]
     simp[encQ]
     rfl
    | cons q u =>
     have e:(((q::u).length:Int)==0)=false:=by simp;omega
     simp only[e,Bool.false_eq_true,if_false,bnd_some]
     rw[grdp (by unfold maxStr;simp only[hp2];omega),grdp (by unfold maxStr;simp only[List.length_append,hp2];omega),grdp (by unfold maxStr;simp only[List.length_append,hp2] at hfl ⊢;omega),wrap_id (by omega) (by omega)]
     simp[encQ]
end Go.Abs

namespace Go.Abs
open Go
theorem rec_enc {base:List UInt8} {x:RRt} (hb:(base.length:Int)≤maxI) (hx:recC x=true):F_record_Encode base 12 (x.fst,x.snd.fst,x.snd.snd.fst,x.snd.snd.snd.fst,x.snd.snd.snd.snd)=some (recE base 12 x):=by
 have hm:maxI=9223372036854775807:=rfl
 have:=(nameS_pos (recC_iff hx).1).2
 exact record_Encode_eq (r:=(x.fst,x.snd.fst,x.snd.snd.fst,x.snd.snd.snd.fst,x.snd.snd.snd.snd)) hb (by simp only;omega) 12
theorem enc_loop1 {m:Mt} {base:List UInt8} (hb:(base.length:Int)≤maxI) (hl:m.2.2.2.1.length≤65535) (hr:∀r∈m.2.2.2.1,recC r=true):∀(v u:List RRt) (s:List UInt8),m.2.2.2.1=u++v→s.length≤18000000 →
 loopS (step_msg_Encode_1 m base) (s,(u.length:Int))=some (encF base v s)
 | [],u,s,h,hs=>by
  rw[List.append_nil] at h
  refine loopS_out ?_
  simp only[step_msg_Encode_1,grdEq_self,h,encF]
  rw[if_neg (by simp)]
 | x::v,u,s,h,hs=>by
  have hg:m.2.2.2.1[u.length]? = some x:=by rw[h];simp
  have hul:u.length<m.2.2.2.1.length:=by rw[h];simp
  have c0:decide ((u.length:Int)<(m.2.2.2.1.length:Int))=true:=by simp;omega
  have hx:=hr x (by rw[h];simp)
  have h1:=recE_len (base:=base) (r:=x)
  have h2:=(dataC_iff (recC_iff hx).2.2.2.2).1
  by_cases hlong:65535<s.length
  · have c1:decide ((65535:Int)<(s.length:Int))=true:=by simp;omega
    refine (loopS_out (y:=s) ?_).trans (by rw[encF,if_pos hlong])
    simp only[step_msg_Encode_1,c0,c1,if_true,natOf_nat,hg,bnd_some,grdEq_self]
  · have c1:decide ((65535:Int)<(s.length:Int))=false:=by simp;omega
    rw[loopS_next (y:=(s++recE base 12 x,((u++[x]).length:Int)))]
    · rw[enc_loop1 hb hl hr v (u++[x]) _ (by rw[h];simp) (by simp only[List.length_append];omega),encF,if_neg hlong]
    · simp only[step_msg_Encode_1,c0,c1,if_true,natOf_nat,hg,bnd_some,grdEq_self,Bool.false_eq_true,if_false,rec_enc hb hx]
      rw[grdp (by unfold maxStr;omega),wrap_id (by omega) (by omega)]
      simp
theorem enc_loop2 {m:Mt} {base:List UInt8} (hb:(base.length:Int)≤maxI) (hl:m.2.2.2.2.1.length≤65535) (hr:∀r∈m.2.2.2.2.1,recC r=true):∀(v u:List RRt) (s:List UInt8),m.2.2.2.2.1=u++v→s.length≤18000000 →
 loopS (step_msg_Encode_2 m base) (s,(u.length:Int))=some (encF base v s)
 | [],u,s,h,hs=>by
  rw[List.append_nil] at h
  refine loopS_out ?_
  simp only[step_msg_Encode_2,grdEq_self,h,encF]
  rw[if_neg (by simp)]
 | x::v,u,s,h,hs=>by
  have hg:m.2.2.2.2.1[u.length]? = some x:=by rw[h];simp
  have hul:u.length<m.2.2.2.2.1.length:=by rw[h];simp
  have c0:decide ((u.length:Int)<(m.2.2.2.2.1.length:Int))=true:=by simp;omega
  have hx:=hr x (by rw[h];simp)
  have h1:=recE_len (base:=base) (r:=x)
  have h2:=(dataC_iff (recC_iff hx).2.2.2.2).1
  by_cases hlong:65535<s.length
  · have c1:decide ((65535:Int)<(s.length:Int))=true:=by simp;omega
    refine (loopS_out (y:=s) ?_).trans (by rw[encF,if_pos hlong])
    simp only[step_msg_Encode_2,c0,c1,if_true,natOf_nat,hg,bnd_some,grdEq_self]
  · have c1:decide ((65535:Int)<(s.length:Int))=false:=by simp;omega
    rw[loopS_next (y:=(s++recE base 12 x,((u++[x]).length:Int)))]
    · rw[enc_loop2 hb hl hr v (u++[x]) _ (by rw[h];simp) (by simp only[List.length_append];omega),encF,if_neg hlong]
    · simp only[step_msg_Encode_2,c0,c1,if_true,natOf_nat,hg,bnd_some,grdEq_self,Bool.false_eq_true,if_false,rec_enc hb hx]
      rw[grdp (by unfold maxStr;omega),wrap_id (by omega) (by omega)]
      simp
theorem enc_loop3 {m:Mt} {base:List UInt8} (hb:(base.length:Int)≤maxI) (hl:m.2.2.2.2.2.length≤65535) (hr:∀r∈m.2.2.2.2.2,recC r=true):∀(v u:List RRt) (s:List UInt8),m.2.2.2.2.2=u++v→s.length≤18000000 →
 loopS (step_msg_Encode_3 m base) (s,(u.length:Int))=some (encF base v s)
 | [],u,s,h,hs=>by
  rw[List.append_nil] at h
  refine loopS_out ?_
  simp only[step_msg_Encode_3,grdEq_self,h,encF]
  rw[if_neg (by simp)]
 | x::v,u,s,h,hs=>by
  have hg:m.2.2.2.2.2[u.length]? = some x:=by rw[h];simp
  have hul:u.length<m.2.2.2.2.2.length:=by rw[h];simp
  have c0:decide ((u.length:Int)<(m.2.2.2.2.2.length:Int))=true:=by simp;omega
  have hx:=hr x (by rw[h];simp)
  have h1:=recE_len (base:=base) (r:=x)
  have h2:=(dataC_iff (recC_iff hx).2.2.2.2).1
  by_cases hlong:65535<s.length
  · have c1:decide ((65535:Int)<(s.length:Int))=true:=by simp;omega
    refine (loopS_out (y:=s) ?_).trans (by rw[encF,if_pos hlong])
    simp only[step_msg_Encode_3,c0,c1,if_true,natOf_nat,hg,bnd_some,grdEq_self]
  · have c1:decide ((65535:Int)<(s.length:Int))=false:=by simp;omega
    rw[loopS_next (y:=(s++recE base 12 x,((u++[x]).length:Int)))]
    · rw[enc_loop3 hb hl hr v (u++[x]) _ (by rw[h];simp) (by simp only[List.length_append];omega),encF,if_neg hlong]
    · simp only[step_msg_Encode_3,c0,c1,if_true,natOf_nat,hg,bnd_some,grdEq_self,Bool.false_eq_true,if_false,rec_enc hb hx]
      rw[grdp (by unfold maxStr;omega),wrap_id (by omega) (by omega)]
      simp
theorem baseM_len {m:Mt} (hq:∀q∈m.2.2.1,okQ q=true):(baseM m).length≤255:=by
 unfold baseM
 cases h:m.2.2.1 with
 | nil=>simp
 | cons q l=>exact (nameS_pos (okQ_iff (hq q (by rw[h];simp))).1).2
theorem headE_len (m:Mt):(headE m).length=12:=rfl
theorem msg_Encode_eq {m:Mt} (hf:fineM m):F_msg_Encode m=some (encM m):=by
 have hm:maxI=9223372036854775807:=rfl
 unfold F_msg_Encode encM
 have hck:F_msg_Check (m.fst,m.snd.fst,m.snd.snd.fst,m.snd.snd.snd.fst,m.snd.snd.snd.snd.fst,m.snd.snd.snd.snd.snd)=some (checkM m):=msg_Check_eq (m:=m) hf
 rw[hck,bnd_some]
 cases hc:checkM m with
 | false=>rfl
 | true =>
  obtain⟨c1,c2,c3,c4,c5,c6,c7,c8,c9,c10⟩:=checkM_iff hc
  have hp2:∀x,(put2 x).length=2:=fun _=>rfl
  have hbl:=baseM_len c4
  simp only[Bool.not_true,Bool.false_eq_true,if_false,Bool.true_eq_false]
  rw[octet_put2 c1.1 (by omega),bnd_some,octet_put2 c2.1 (by omega),bnd_some,grdp (by unfold maxStr;simp only[hp2];omega),octet_put2 (by omega) (by omega),bnd_some,grdp (by unfold maxStr;simp only[List.length_append,hp2];omega),
   octet_put2 (by omega) (by omega),bnd_some,grdp (by unfold maxStr;simp only[List.length_append,hp2];omega),octet_put2 (by omega) (by omega),bnd_some,grdp (by unfold maxStr;simp only[List.length_append,hp2];omega),
   octet_put2 (by omega) (by omega),bnd_some,grdp (by unfold maxStr;simp only[List.length_append,hp2];omega)]
  have hh:put2 m.fst++put2 m.snd.fst++put2 (m.snd.snd.fst.length:Int)++put2 (m.snd.snd.snd.fst.length:Int)++put2 (m.snd.snd.snd.snd.fst.length:Int)++put2 (m.snd.snd.snd.snd.snd.length:Int)=headE m:=rfl
  rw[hh]
  have l0:=enc_loop0 (m:=m) c4 c3 (S:=headE m) (by rw[headE_len];omega) m.2.2.1 [] rfl
  simp only[List.map_nil,List.flatten_nil,List.append_nil,List.length_nil,Int.natCast_zero] at l0
  rw[l0,bnd_some]
  have hel:=encQs_len c4
  have hs0:(headE m++(m.2.2.1.map encQ).flatten).length≤17000000:=by simp only[List.length_append,headE_len];omega
  generalize headE m++(m.2.2.1.map encQ).flatten=s0 at *
  have l1:=enc_loop1 (m:=m) (base:=baseM m) (by omega) c5 c6 m.2.2.2.1 [] s0 rfl (by omega)
  simp only[List.length_nil,Int.natCast_zero] at l1
  simp only
  rw[l1,bnd_some]
  have hs1:=encF_len (base:=baseM m) m.2.2.2.1 s0 17000000 c6 hs0 (by omega)
  rw[encF_app,encF_app]
  generalize encF (baseM m) m.2.2.2.1 s0=s1 at *
  have l2:=enc_loop2 (m:=m) (base:=baseM m) (by omega) c7 c8 m.2.2.2.2.1 [] s1 rfl (by omega)
  simp only[List.length_nil,Int.natCast_zero] at l2
  rw[l2,bnd_some]
  have hs2:=encF_len (base:=baseM m) m.2.2.2.2.1 s1 17000000 c8 hs1 (by omega)
  generalize encF (baseM m) m.2.2.2.2.1 s1=s2 at *
  have l3:=enc_loop3 (m:=m) (base:=baseM m) (by omega) c9 c10 m.2.2.2.2.2 [] s2 rfl (by omega)
  simp only[List.length_nil,Int.natCast_zero] at l3
  rw[l3,bnd_some]
  generalize encF (baseM m) m.2.2.2.2.2 s2=s3 at *
  by_cases h:65535<s3.length
  · rw[if_pos (by simp;omega),if_pos h]
  · rw[if_neg (by simp;omega),if_neg h]
end Go.Abs

namespace Go.Abs
open Go
theorem encF_short {base:List UInt8}:∀(l:List RRt) (s:List UInt8),(encF base l s).length≤65535→encF base l s=s++encs base l
 | [],s,_=>by simp[encF,encs]
 | r::l,s,h=>by
  unfold encF at h ⊢
  split at h
  · rename_i h1;omega
  · rename_i h1
    rw[if_neg h1,encF_short l _ h,encs_cons]
    simp
def wholeE (m:Mt):List UInt8:=headE m++((m.2.2.1.map encQ).flatten++(encs (baseM m) m.2.2.2.1++(encs (baseM m) m.2.2.2.2.1++encs (baseM m) m.2.2.2.2.2)))
theorem encM_ok {m:Mt} (h:(encM m).2=0):checkM m=true∧encM m=(wholeE m,0)∧(wholeE m).length≤65535:=by
 unfold encM at h ⊢
 cases hc:checkM m with
 | false=>rw[hc] at h;simp at h
 | true =>
  rw[hc] at h
  simp only[Bool.true_eq_false,if_false] at h ⊢
  split at h
  · simp at h
  · rename_i hl
    have e:encF (baseM m) (m.2.2.2.1++m.2.2.2.2.1++m.2.2.2.2.2) (headE m++(m.2.2.1.map encQ).flatten)=wholeE m:=by
     rw[encF_short _ _ (by omega),encs_app,encs_app]
     simp[wholeE]
    rw[if_neg hl,e]
    rw[e] at hl
    exact⟨trivial,rfl,by omega⟩
theorem encM_err {m:Mt} (h:(encM m).2≠0):(encM m).1=[]∧((encM m).2=6∨((encM m).2=1∧checkM m=false)):=by
 unfold encM at h ⊢
 cases hc:checkM m with
 | false=>simp
 | true =>
  rw[hc] at h
  simp only[Bool.true_eq_false,if_false] at h ⊢
  split at h
  · rename_i hl;rw[if_pos hl];simp
  · simp at h
end Go.Abs

namespace Go.Abs
open Go
end Go.Abs

namespace Go.Abs
open Go
end Go.Abs

namespace Go.Abs
open Go
theorem encF_fit {base:List UInt8}:∀(l:List RRt) (s:List UInt8),(s++encs base l).length≤65535→encF base l s=s++encs base l
 | [],s,_=>by simp[encF,encs]
 | r::l,s,h=>by
  have e:encs base (r::l)=recE base 12 r++encs base l:=by simp[encs]
  rw[e] at h ⊢
  have hs:s.length≤65535:=by simp at h;omega
  rw[encF,if_neg (by omega),encF_fit l _ (by rw[List.append_assoc];exact h),List.append_assoc]
theorem encM_mk {m:Mt} (hc:checkM m=true) (hl:(wholeE m).length≤65535):encM m=(wholeE m,0):=by
 have e:encF (baseM m) (m.2.2.2.1++m.2.2.2.2.1++m.2.2.2.2.2) (headE m++(m.2.2.1.map encQ).flatten)=wholeE m:=by
  have e2:headE m++(m.2.2.1.map encQ).flatten++encs (baseM m) (m.2.2.2.1++m.2.2.2.2.1++m.2.2.2.2.2)=wholeE m:=by
   rw[encs_app,encs_app]
   simp[wholeE]
  rw[encF_fit _ _ (by rw[e2];exact hl),e2]
 unfold encM
 rw[hc,e,if_neg (by simp),if_neg (by omega)]
end Go.Abs
