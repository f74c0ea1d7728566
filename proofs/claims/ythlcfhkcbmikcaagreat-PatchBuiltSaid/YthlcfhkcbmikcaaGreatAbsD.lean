/- Part of a proof. -/
import Derived.Test.YthlcfhkcbmikcaaGreatAbsB
import Derived.Scope
import Derived.ProofKit
import Derived.Below
import Derived.ChangeSame
set_option linter.unusedSimpArgs false
set_option linter.unusedVariables false
set_option linter.unusedSectionVars false
namespace Go.Abs
open Go
section
variable {P:Program} {C:Cfg} {call:FuncId→List V→St→Option (V×St)} {ops:Array Oper} {o q:Oper} {s s' s1 s2:List V} {st st' st1 st2:St} {v:V}
theorem alike_put (h:∀d,q.dst=some d→d ∉ o.looksAt ops) (s:List V) (v:V):Alike ops o (putS s q.dst v) s:=by
 intro t ht
 cases hd:q.dst with
 | none=>rfl
 | some d =>
  have hne:d≠t:=fun e=>h d hd (e▸ht)
  simp[putS,hne]
theorem putS_comm (h:∀d,q.dst=some d→o.dst≠some d) (s:List V) (v u:V):putS (putS s q.dst v) o.dst u=putS (putS s o.dst u) q.dst v:=by
 cases hq:q.dst with
 | none=>rfl
 | some d =>
  cases ho:o.dst with
  | none=>rfl
  | some e =>
   have hne:d≠e:=fun he=>h d hq (he▸ho)
   simp only[putS]
   exact List.set_comm _ _ hne
def swapOK (C:Cfg) (P:Program) (ops:Array Oper) (q o:Oper):Bool :=
 q.apart ops o&&(clsB C P q==0 || clsB C P o==0 || (clsB C P q==1&&clsB C P o==1))
theorem Alike.symm (h:Alike ops o s s'):Alike ops o s' s:=fun t ht=>(h t ht).symm
theorem swap (hp:PureOK P C call) (hsw:swapOK C P ops q o=true) (hq:opRun P call ops q s st=some (s1,st1)) (hk1:st1.kills.length=st.kills.length)
 (ho:opRun P call ops o s1 st1=some (s2,st2)) (hk2:st2.kills.length=st1.kills.length) :
 ∃so sto,opRun P call ops o s st=some (so,sto)∧sto.kills.length=st.kills.length∧opRun P call ops q so sto=some (s2,st2):=by
 simp only[swapOK,Bool.and_eq_true,Bool.or_eq_true,beq_iff_eq] at hsw
 obtain⟨hap,hcls⟩:=hsw
 obtain⟨a1,a2,a3⟩:=Oper.apart_spec hap
 obtain⟨vq,rfl,_⟩:=opRun_alike (s':=s) (fun t _=>rfl) hq hk1
 obtain⟨vo,rfl,ho'⟩:=opRun_alike (alike_put a1 s vq) ho hk2
 have hq':opRun P call ops q (putS s o.dst vo) st=some (putS (putS s o.dst vo) q.dst vq,st1):=by
  obtain⟨v,h1,h2⟩:=opRun_alike (s':=putS s o.dst vo) (alike_put (q:=o) (o:=q) a3 s vo).symm hq hk1
  rw[h2]
  cases hd:q.dst with
  | none=>rfl
  | some d =>
   rw[hd] at h1
   simp only[putS] at h1 ⊢
   rcases Nat.lt_or_ge d s.length with hlt | hge
   · have:(s.set d vq)[d]? = (s.set d v)[d]? := by rw[h1]
     simp[hlt] at this
     rw[this]
   · have hl:(putS s o.dst vo).length=s.length:=by cases o.dst<;>simp[putS]
     simp only[putS] at hl
     rw[List.set_eq_of_length_le (by rw[hl];exact hge),List.set_eq_of_length_le (by rw[hl];exact hge)]
 have hfin:putS (putS s o.dst vo) q.dst vq=putS (putS s q.dst vq) o.dst vo:=(putS_comm a2 s vq vo).symm
 rw[hfin] at hq'
 rcases hcls with (h0 | h0) | ⟨h0,h1⟩
 · obtain⟨rfl,_⟩:=opRun_cls0 h0 hq
   exact⟨_,_,ho',hk2,(opRun_cls0 h0 hq').2 st2⟩
 · obtain⟨rfl,hall⟩:=opRun_cls0 h0 ho'
   exact⟨_,_,hall st,rfl,hq'⟩
 · have e1:=opRun_cls1 hp h0 hq
   subst e1
   have e2:=opRun_cls1 hp h1 ho'
   subst e2
   exact⟨_,_,ho',rfl,hq'⟩
theorem addr_load {x:Nat} (h:addrB o=some (false,x)):∃t,o.op=.load t (.tmp x):=by
 unfold addrB at h
 split at h<;>simp at h
 rename_i t y hy
 exact⟨t,by rw[hy,h]⟩
theorem addr_store {x:Nat} (h:addrB o=some (true,x)):∃t v,o.op=.store t (.tmp x) v:=by
 unfold addrB at h
 split at h<;>simp at h
 rename_i t y v hy
 exact⟨t,v,by rw[hy,h]⟩
theorem load_far {x:Nat} (ha:addrB o=some (false,x)) (h:opRun P call ops o s st=some (s1,st1)) :
 st1=st∧∀st2:St,(∀i off,s.getD x .any=.ptr i off→st2.heap[i]? = st.heap[i]?)→opRun P call ops o s st2=some (s1,st2):=by
 obtain⟨t,hop⟩:=addr_load ha
 unfold opRun at h ⊢
 cases hw:wantedB ops s o with
 | none=>rw[hw] at h;simp at h
 | some b =>
  rw[hw] at h
  cases b with
  | false=>simp only[Option.some.injEq,Prod.mk.injEq] at h ⊢;exact⟨h.2.symm,fun _ _=>by simp[h.1]⟩
  | true =>
   unfold aop at h ⊢
   rw[hop] at h ⊢
   simp only[ev] at h ⊢
   cases hl:loadB P st t (s.getD x .any) with
   | none=>rw[hl] at h;simp[mk] at h
   | some v =>
    rw[hl] at h
    simp only[mk,Option.map_some,Option.some.injEq,Prod.mk.injEq] at h
    refine⟨h.2.symm,fun st2 h2=>?_⟩
    have:loadB P st2 t (s.getD x .any)=some v:=by
     rw[←hl]
     cases hx:s.getD x .any with
     | ptr i off=>unfold loadB;simp only;rw[h2 i off hx]
     | _=>rfl
    rw[this]
    simp[mk,h.1]
theorem store_far {y:Nat} (ha:addrB o=some (true,y)) (h:opRun P call ops o s st=some (s1,st1)) (hk:st1.kills.length=st.kills.length) :
 st1=st∨∃j off,s.getD y .any=.ptr j off∧∀i,i≠j→st1.heap[i]? = st.heap[i]? := by
 obtain⟨t,v,hop⟩:=addr_store ha
 unfold opRun at h
 cases hw:wantedB ops s o with
 | none=>rw[hw] at h;simp at h
 | some b =>
  rw[hw] at h
  cases b with
  | false=>simp only[Option.some.injEq,Prod.mk.injEq] at h;exact .inl h.2.symm
  | true =>
   unfold aop at h
   rw[hop] at h
   simp only[ev.eq_1] at h
   cases hst:storeB P s st t (s.getD y .any) (ev s v) with
   | none=>rw[hst] at h;simp at h
   | some r =>
    rw[hst] at h
    simp only[Option.map_some,Option.some.injEq,Prod.mk.injEq] at h
    obtain⟨_,h2⟩:=h
    unfold storeB at hst
    split at hst
    · split at hst
      · split at hst
        · rename_i i off hx
          split at hst
          · split at hst
            · split at hst
              · simp only[Option.some.injEq] at hst
                subst hst
                subst h2
                refine .inr ⟨_,_,hx,fun k hk=>?_⟩
                simp only
                rw[List.getElem?_set_ne (Ne.symm hk)]
              · simp at hst
            · simp at hst
          · simp at hst
        · exfalso
          split at hst
          · split at hst
            · split at hst
              · simp only[Option.some.injEq] at hst
                subst hst
                subst h2
                simp at hk
              · simp at hst
            · simp at hst
          · simp at hst
        · simp at hst
      · simp at hst
    · simp at hst
theorem putS_get {x:Nat} (h:q.dst≠some x) (s:List V) (v:V):(putS s q.dst v).getD x .any=s.getD x .any:=by
 cases hd:q.dst with
 | none=>rfl
 | some d =>
  have hne:d≠x:=fun e=>h (by rw[hd,e])
  simp[putS,List.getD_eq_getElem?_getD,List.getElem?_set_ne hne]
theorem swap_far (hp:PureOK P C call) (hap:q.apart ops o=true) {a b:Bool} {x y:Nat} (hqa:addrB q=some (a,x)) (hoa:addrB o=some (b,y)) (hab:a≠b)
 (hfar:farB s x y=true) (hxo:o.dst≠some x) (hyq:q.dst≠some y)
 (hq:opRun P call ops q s st=some (s1,st1)) (hk1:st1.kills.length=st.kills.length)
 (ho:opRun P call ops o s1 st1=some (s2,st2)) (hk2:st2.kills.length=st1.kills.length) :
 ∃so sto,opRun P call ops o s st=some (so,sto)∧sto.kills.length=st.kills.length∧opRun P call ops q so sto=some (s2,st2):=by
 obtain⟨a1,a2,a3⟩:=Oper.apart_spec hap
 obtain⟨vq,rfl,_⟩:=opRun_alike (s':=s) (fun t _=>rfl) hq hk1
 obtain⟨vo,rfl,ho'⟩:=opRun_alike (alike_put a1 s vq) ho hk2
 have hq':opRun P call ops q (putS s o.dst vo) st=some (putS (putS s o.dst vo) q.dst vq,st1):=by
  obtain⟨v,h1,h2⟩:=opRun_alike (s':=putS s o.dst vo) (alike_put (q:=o) (o:=q) a3 s vo).symm hq hk1
  rw[h2]
  cases hd:q.dst with
  | none=>rfl
  | some d =>
   rw[hd] at h1
   simp only[putS] at h1 ⊢
   rcases Nat.lt_or_ge d s.length with hlt | hge
   · have:(s.set d vq)[d]? = (s.set d v)[d]? := by rw[h1]
     simp[hlt] at this
     rw[this]
   · have hl:(putS s o.dst vo).length=s.length:=by cases o.dst<;>simp[putS]
     simp only[putS] at hl
     rw[List.set_eq_of_length_le (by rw[hl];exact hge),List.set_eq_of_length_le (by rw[hl];exact hge)]
 have hfin:putS (putS s o.dst vo) q.dst vq=putS (putS s q.dst vq) o.dst vo:=(putS_comm a2 s vq vo).symm
 rw[hfin] at hq'
 have hne:∀i o1 j o2,s.getD x .any=.ptr i o1→s.getD y .any=.ptr j o2→i≠j:=by
  intro i o1 j o2 h1 h2
  unfold farB at hfar
  rw[h1,h2] at hfar
  simpa using hfar
 cases a with
 | false =>
  have hb:b=true:=by cases b<;>simp_all
  subst hb
  obtain⟨e1,_⟩:=load_far hqa hq
  subst e1
  refine⟨_,_,ho',hk2,?_⟩
  refine (load_far hqa hq').2 st2 fun i off hx=>?_
  rw[putS_get hxo] at hx
  rcases store_far hoa ho' hk2 with e2 | ⟨j,off2,hj,hh⟩
  · rw[e2]
  · exact hh i (hne _ _ _ _ hx hj)
 | true =>
  have hb:b=false:=by cases b<;>simp_all
  subst hb
  obtain⟨e2,hall⟩:=load_far hoa ho'
  subst e2
  refine⟨_,st,hall st fun i off hy=>?_,rfl,hq'⟩
  rcases store_far hqa hq hk1 with e1 | ⟨j,off2,hj,hh⟩
  · rw[e1]
  · exact (hh i fun e=>hne _ _ _ _ hj hy e.symm).symm
def Sw (C:Cfg) (P:Program) (ops:Array Oper) (s':List V) (o:Oper) (post:List Oper):List Oper→Prop
 | []=>True
 | q::p=>swapOK C P ops q o=true∧Sw C P ops s' o post p
theorem bubble (hp:PureOK P C call) (post:List Oper):∀(pre:List Oper) (s:List V) (st:St),Sw C P ops s' o post pre→(lastB ops o=true→pre=[])→(∀q∈pre,lastB ops q=false) →
 opsRun P call true ops (pre++o::post) s st=some (s',st') →
 ∃s1 st1,opRun P call ops o s st=some (s1,st1)∧(lastB ops o=true∨st1.kills.length=st.kills.length)∧opsRun P call true ops (pre++post) s1 st1=some (s',st'):=by
 intro pre
 induction pre with
 | nil =>
  intro s st _ _ _ h
  simp only[List.nil_append] at h ⊢
  unfold opsRun at h
  cases ho:opRun P call ops o s st with
  | none=>rw[ho] at h;simp at h
  | some r =>
   obtain⟨s1,st1⟩:=r
   rw[ho] at h
   simp only[Bool.true_and] at h
   split at h
   · simp at h
   rename_i hk
   refine⟨s1,st1,rfl,?_,h⟩
   cases hlo:lastB ops o with
   | true=>exact .inl rfl
   | false=>rw[hlo] at hk;exact .inr (by simpa using hk)
 | cons q pre ih =>
  intro s st hsw hL hQ h
  have hlo:lastB ops o=false:=by
   cases hlo:lastB ops o with
   | true=>have:=hL hlo;simp at this
   | false=>rfl
  have hlq:=hQ q (by simp)
  have hall:=h
  simp only[List.cons_append] at h hall ⊢
  unfold opsRun at h
  cases hq:opRun P call ops q s st with
  | none=>rw[hq] at h;simp at h
  | some r =>
   obtain⟨sq,stq⟩:=r
   rw[hq] at h
   simp only[Bool.true_and] at h
   split at h
   · simp at h
   rename_i hk
   have hk':stq.kills.length=st.kills.length:=by rw[hlq] at hk;simpa using hk
   obtain⟨s1,st1,h1,h2,h3⟩:=ih sq stq hsw.2 (fun h=>by rw[hlo] at h;simp at h) (fun q' hq'=>hQ q' (by simp[hq'])) h
   have h2:st1.kills.length=stq.kills.length:=by
    rcases h2 with h2 | h2
    · rw[hlo] at h2;simp at h2
    · exact h2
   have hsx:=swap hp hsw.1 hq hk' h1 h2
   obtain⟨so,sto,g1,g2,g3⟩:=hsx
   refine⟨so,sto,g1,.inr g2,?_⟩
   unfold opsRun
   rw[g3]
   have hk3:st1.kills.length=sto.kills.length:=by omega
   simp[hk3,h3]
structure DrawOK (C:Cfg) (P:Program) (ops:Array Oper) (anc:Nat→List Nat) (far:Nat→Nat→Bool):Prop where
 back:∀i o,ops[i]? = some o→∀e∈o.after,Region.binds .any e=true→e.on<i
 up:∀i o,ops[i]? = some o→∀j∈anc i,∃e∈o.after,Region.binds .any e=true∧(e.on=j∨j∈anc e.on)
 swap:∀i o j q,ops[i]? = some o→ops[j]? = some q→j<i→j∈anc i∨swapOK C P ops q o=true ∨
  (q.apart ops o=true∧∃a b x y,addrB q=some (a,x)∧addrB o=some (b,y)∧a≠b∧far x y=true ∧
   ∀k r,ops[k]? = some r→(r.dst=some x→k∈anc j)∧(r.dst=some y→k∈anc i))
theorem owns_spec {as:List Nat} {x k:Nat} {r:Oper} (h:ownsB ops as x=true) (hr:ops[k]? = some r) (hd:r.dst=some x):k∈as:=by
 unfold ownsB at h
 rw[List.all_eq_true] at h
 have hk:=(Array.getElem?_eq_some_iff.1 hr).1
 have:=h k (by simp[hk])
 have hg:ops.getD k default=r:=by simp[Array.getD_eq_getD_getElem?,hr]
 rw[hg,hd] at this
 simpa using this
def masksF:List Oper→List Nat→List Nat
 | [],A=>A
 | o::l,A=>masksF l (A++[maskOf o A])
theorem masksR_F:∀(l:List Oper) (acc:List Nat),masksR l acc=masksF l acc.reverse
 | [],acc=>rfl
 | o::l,acc=>by unfold masksR masksF;rw[masksR_F l];simp
theorem masksF_pre:∀(l:List Oper) (A:List Nat),∃B,masksF l A=A++B∧B.length=l.length∧∀i o,l[i]? = some o→B[i]? = some (maskOf o (A++B.take i))
 | [],A=>⟨[],by simp[masksF],rfl,fun i o h=>by simp at h⟩
 | o::l,A=>by
  obtain⟨B,h1,h2,h3⟩:=masksF_pre l (A++[maskOf o A])
  refine⟨maskOf o A::B,by unfold masksF;rw[h1];simp,by simp[h2],fun i q hq=>?_⟩
  cases i with
  | zero=>simp at hq;subst hq;simp
  | succ i =>
   have:=h3 i q (by simpa using hq)
   simpa using this
theorem mask_bit {A:List Nat} {j:Nat}:∀(l:List Edge) (m:Nat),(l.foldl (fun m e=>if Region.binds .any e=true then m ||| (1 <<< e.on ||| A.getD e.on 0) else m) m).testBit j=true →
 m.testBit j=true∨∃e∈l,Region.binds .any e=true∧(e.on=j∨(A.getD e.on 0).testBit j=true)
 | [],m,h=>.inl h
 | e::l,m,h=>by
  simp only[List.foldl_cons] at h
  rcases mask_bit l _ h with h | ⟨e',h1,h2⟩
  · split at h
    · rename_i hb
      rw[Nat.testBit_or,Nat.testBit_or,Nat.one_shiftLeft,Nat.testBit_two_pow] at h
      simp only[Bool.or_eq_true,decide_eq_true_eq] at h
      rcases h with h | h
      · exact .inl h
      · exact .inr ⟨e,by simp,hb,h⟩
    · exact .inl h
  · exact .inr ⟨e',by simp[h1],h2⟩
theorem pairs_spec {o:Oper} {c m:Nat}:∀(t:List (Oper×Nat)) (j k:Nat),pairsQ ops o c m t j k=true→∀d q,d<k→t[d]? = some q→m.testBit (j+d)=true∨(q.1.apart ops o&&(q.2==0 || c==0 || (q.2==1&&c==1)))=true
 | t,j,0,_,d,q,hd,_=>by omega
 | [],j,k+1,_,d,q,_,hq=>by simp at hq
 | x::t,j,k+1,h,d,q,hd,hq=>by
  simp only[pairsQ,Bool.and_eq_true] at h
  cases d with
  | zero =>
   simp at hq
   subst hq
   have:=h.1
   rw[Bool.or_eq_true] at this
   simpa using this
  | succ d =>
   have:=pairs_spec t (j+1) k h.2 d q (by omega) (by simpa using hq)
   rw[show j+1+d=j+(d+1) by omega] at this
   exact this
theorem rows_spec {tab:List (Oper×Nat)}:∀(t:List (Oper×Nat)) (ms:List Nat) (i:Nat),rowsQ ops tab t ms i=true→∀d o,t[d]? = some o→∃m,ms[d]? = some m∧(o.1.after.toList.all fun e=>!Region.binds .any e || e.on<i+d)=true∧pairsQ ops o.1 o.2 m tab 0 (i+d)=true
 | [],_,i,_,d,o,h=>by simp at h
 | _::_,[],i,h,d,o,_=>by simp[rowsQ] at h
 | x::t,m::ms,i,h,d,o,ho=>by
  simp only[rowsQ,Bool.and_eq_true] at h
  cases d with
  | zero=>simp at ho;subst ho;exact⟨m,by simp,h.1.1,h.1.2⟩
  | succ d =>
   obtain⟨m',h1,h2,h3⟩:=rows_spec t ms (i+1) h.2 d o (by simpa using ho)
   rw[show i+1+d=i+(d+1) by omega] at h2 h3
   exact⟨m',by simpa using h1,h2,h3⟩
theorem drawB_ok {far:Nat→Nat→Bool} (h:drawB C P ops=true):∃anc,DrawOK C P ops anc far:=by
 unfold drawB at h
 rw[masksR_F] at h
 obtain⟨B,h1,h2,h3⟩:=masksF_pre ops.toList ([]:List Nat).reverse
 rw[h1] at h
 simp only[List.reverse_nil,List.nil_append] at h h3
 have hrow:∀i o,ops[i]? = some o→∃m,B[i]? = some m∧(o.after.toList.all fun e=>!Region.binds .any e || e.on<i)=true∧pairsQ ops o (clsB C P o) m (ops.toList.map fun o=>(o,clsB C P o)) 0 i=true:=by
  intro i o ho
  have:=rows_spec _ _ 0 h i (o,clsB C P o) (by simp[ho])
  simpa using this
 have hback:∀i o,ops[i]? = some o→∀e∈o.after,Region.binds .any e=true→e.on<i:=by
  intro i o ho e he hb
  obtain⟨m,_,h4,_⟩:=hrow i o ho
  rw[List.all_eq_true] at h4
  have:=h4 e (by simpa using he)
  simpa[hb] using this
 refine⟨fun i=>(List.range ops.size).filter fun j=>(B.getD i 0).testBit j,hback,fun i o ho j hj=>?_,fun i o j q ho hq hji=>?_⟩
 · simp only[List.mem_filter,List.mem_range] at hj
   obtain⟨hjn,hj⟩:=hj
   have hm:=h3 i o (by simpa using ho)
   have hg:B.getD i 0=maskOf o (B.take i):=by simp[List.getD_eq_getElem?_getD,hm]
   rw[hg] at hj
   unfold maskOf at hj
   rcases mask_bit _ _ hj with h4 | ⟨e,he,hb,h5⟩
   · simp at h4
   · refine⟨e,by simpa using he,hb,?_⟩
     rcases h5 with h5 | h5
     · exact .inl h5
     · right
       simp only[List.mem_filter,List.mem_range]
       refine⟨hjn,?_⟩
       have hlt:=hback i o ho e (by simpa using he) hb
       have:(B.take i).getD e.on 0=B.getD e.on 0:=by simp[List.getD_eq_getElem?_getD,List.getElem?_take,hlt]
       rw[this] at h5
       exact h5
 · obtain⟨m,h4,_,h5⟩:=hrow i o ho
   rcases pairs_spec _ 0 i h5 j (q,clsB C P q) hji (by simp[hq]) with h6 | h6
   · refine .inl ?_
     simp only[List.mem_filter,List.mem_range]
     refine⟨(Array.getElem?_eq_some_iff.1 hq).1,?_⟩
     have hg:B.getD i 0=m:=by simp[List.getD_eq_getElem?_getD,h4]
     rw[hg]
     simpa using h6
   · exact .inr (.inl h6)
theorem Sw_of {s':List V} {post:List Oper}:∀(pre:List Oper),(∀p1 q p2,pre=p1++q::p2→swapOK C P ops q o=true)→Sw C P ops s' o post pre:=by
 intro pre
 induction pre with
 | nil=>intro _;trivial
 | cons q p ih=>exact fun h=>⟨h [] q p rfl,ih fun p1 q' p2 e=>h (q::p1) q' p2 (by rw[e];rfl)⟩
theorem last_ix {anc:Nat→List Nat} {far:Nat→Nat→Bool} (hd:DrawOK C P ops anc far) {i:Nat} {o:Oper} (ho:ops[i]? = some o) (h:lastB ops o=true) :
 i=ops.size-1∧∀j,j<ops.size-1→∃e∈o.after,Region.binds .any e=true∧e.on=j:=by
 unfold lastB at h
 simp only[Bool.and_eq_true] at h
 have hcov:=h.1.1.2
 simp only[List.all_eq_true,List.mem_range,List.any_eq_true,Bool.and_eq_true,beq_iff_eq] at hcov
 have h2:∀j,j<ops.size-1→∃e∈o.after,Region.binds .any e=true∧e.on=j:=fun j hj=>by
  obtain⟨e,he,hb,hj⟩:=hcov j hj
  exact⟨e,by simpa using he,hb,hj⟩
 refine⟨?_,h2⟩
 have hi:=(Array.getElem?_eq_some_iff.1 ho).1
 rcases Nat.lt_or_ge i (ops.size-1) with hlt | hge
 · obtain⟨e,he,hb,hj⟩:=h2 i hlt
   have:=hd.back i o ho e he hb
   omega
 · omega
theorem draw_sim {Q:Exit→Act→World→Prop} {r:Option Nat} {n:Nat} {anc:Nat→List Nat} (hC:CallOK P call) (hp:PureOK P C call) (hd:DrawOK C P ops anc (fun _ _=>false)) :
 ∀(fuel:Nat) (listed:Array Bool) (R:List Nat) (E:Env) (w:World) (a:Act) (s:List V) (st st':St),
 listed.size=ops.size→R.Pairwise (·<·)→(∀j,j∈R↔j<ops.size∧listed.getD j true=false)→R.length≤fuel →
 (∀i,i<ops.size→listed.getD i false=true→∀j∈anc i,listed.getD j false=true) →
 WR E st w→YS E st w→SR E st w a.tmps s→st.flo≤st.fams.length →
 opsRun P call true ops (R.map fun i=>ops.getD i default) s st=some (s',st') →
 (∀a' w' E',a'.defers=a.defers→WR E' st' w'→SR E' st' w' a'.tmps s'→Seg E st w E' st' w'→Q .normal a' w') →
 wpAnyIn (FW r) n P .any ops Q fuel listed a w:=by
 intro fuel
 have noready:∀(listed:Array Bool) (R:List Nat),listed.size=ops.size→R.Pairwise (·<·)→(∀j,j∈R↔j<ops.size∧listed.getD j true=false)→Region.ready .any ops listed=[]→R=[]:=by
  intro listed R hls hR hm hr
  cases R with
  | nil=>rfl
  | cons r rest =>
   exfalso
   have hrm:=(hm r).1 (by simp)
   have:r∈Region.ready .any ops listed:=by
    rw[mem_ready]
    refine⟨hrm.2,ops[r],Array.getElem?_eq_getElem hrm.1,fun e he hb=>?_⟩
    have hlt:=hd.back r _ (Array.getElem?_eq_getElem hrm.1) e he hb
    have hnot:e.on ∉ r::rest:=by
     intro hmem
     rcases List.mem_cons.1 hmem with h1 | h1
     · omega
     · have:=(List.pairwise_cons.1 hR).1 _ h1;omega
    have h2:¬(e.on<ops.size∧listed.getD e.on true=false):=fun h=>hnot ((hm _).2 h)
    have h3:e.on<listed.size:=by omega
    have h4:listed.getD e.on true≠false:=fun h=>h2 ⟨by omega,h⟩
    simp only[Array.getD_eq_getD_getElem?,Array.getElem?_eq_getElem h3,Option.getD_some] at h4 ⊢
    simpa using h4
   rw[hr] at this
   simp at this
 induction fuel with
 | zero =>
  intro listed R E w a s st st' hls hR hm hlen hanc hw hY hs hfl h hQ
  have hnil:R=[]:=List.length_eq_zero_iff.1 (by omega)
  subst hnil
  simp only[List.map_nil,opsRun,Option.some.injEq,Prod.mk.injEq] at h
  obtain⟨rfl,rfl⟩:=h
  refine⟨?_,hQ a w E rfl hw hs (.refl _ _ _)⟩
  rw[List.eq_nil_iff_forall_not_mem]
  intro i hi
  rw[mem_ready] at hi
  obtain⟨h0,o,ho,_⟩:=hi
  have:=(hm i).2 ⟨(Array.getElem?_eq_some_iff.1 ho).1,h0⟩
  simp at this
 | succ fuel ih =>
  intro listed R E w a s st st' hls hR hm hlen hanc hw hY hs hfl h hQ
  refine⟨fun hr=>?_,fun i hi=>?_⟩
  · have hnil:=noready listed R hls hR hm hr
    subst hnil
    simp only[List.map_nil,opsRun,Option.some.injEq,Prod.mk.injEq] at h
    obtain⟨rfl,rfl⟩:=h
    exact hQ a w E rfl hw hs (.refl _ _ _)
  · rw[mem_ready] at hi
    obtain⟨h0,o,ho,hall⟩:=hi
    have hin:i<ops.size:=(Array.getElem?_eq_some_iff.1 ho).1
    have hiR:i∈R:=(hm i).2 ⟨hin,h0⟩
    obtain⟨pre,post,rfl⟩:=List.append_of_mem hiR
    have hgo:ops.getD i default=o:=by simp[Array.getD_eq_getD_getElem?,ho]
    have hpw:=List.pairwise_append.1 hR
    have hpre:∀j∈pre,j<i:=fun j hj=>hpw.2.2 j hj i (by simp)
    have hpost:∀j∈post,i<j:=fun j hj=>(List.pairwise_cons.1 hpw.2.1).1 j hj
    have hanci:∀j∈anc i,listed.getD j false=true:=by
     intro j hj
     obtain⟨e,he,hb,hor⟩:=hd.up i o ho j hj
     have hl:=hall e he hb
     rcases hor with rfl | hj'
     · exact hl
     · have:=hd.back i o ho e he hb
       exact hanc e.on (by omega) hl j hj'
    have hget2:∀j,listed.getD j true=false→listed.getD j false=true→False:=by
     intro j h1 h2
     simp only[Array.getD_eq_getD_getElem?] at h1 h2
     cases hx:listed[j]? with
     | none=>rw[hx] at h1;simp at h1
     | some b=>rw[hx] at h1 h2;simp at h1 h2;rw[h1] at h2;cases h2
    have hgjs:∀j,j<ops.size→ops[j]? = some (ops.getD j default):=fun j hj=>by simp[Array.getD_eq_getD_getElem?,Array.getElem?_eq_getElem hj]
    have hsw:Sw C P ops s' o (post.map fun i=>ops.getD i default) (pre.map fun i=>ops.getD i default):=by
     refine Sw_of _ fun p1 q p2 e=>?_
     obtain⟨l1,l2',e1,e2,e3⟩:=List.map_eq_append_iff.1 e
     obtain⟨j,l2,rfl,rfl,rfl⟩:=List.map_eq_cons_iff.1 e3
     subst e1 e2
     obtain⟨hjn,hjl⟩:=(hm j).1 (by simp)
     have hgj:=hgjs j hjn
     rcases hd.swap i o j _ ho hgj (hpre j (by simp)) with h1 | h1 | ⟨hap,a,b,x,y,g1,g2,g3,g4,g5⟩
     · exact (hget2 j hjl (hanci j h1)).elim
     · exact h1
     · simp at g4
    simp only[List.map_append,List.map_cons,hgo] at h
    obtain⟨s1,st1,g1,g2,g3⟩:=bubble hp _ _ s st hsw (fun hl=>by
     obtain⟨l1,l2⟩:=last_ix hd ho hl
     cases pre with
     | nil=>rfl
     | cons j pre =>
      exfalso
      have hj:=hpre j (by simp)
      obtain⟨hjn,hjl⟩:=(hm j).1 (by simp)
      obtain⟨e,he,hb,rfl⟩:=l2 j (by omega)
      exact hget2 _ hjl (hall e he hb)) (fun q hq=>by
     obtain⟨j,hj,rfl⟩:=List.mem_map.1 hq
     have hji:=hpre j hj
     have hgj:ops[j]? = some (ops.getD j default):=by
      have:j<ops.size:=by omega
      simp[Array.getD_eq_getD_getElem?,Array.getElem?_eq_getElem this]
     cases hlq:lastB ops (ops.getD j default) with
     | false=>rfl
     | true =>
      have:=(last_ix hd hgj hlq).1
      omega) h
    have hop:=op_sim (Q:=Q) (r:=r) (n:=n) (K:=wpAnyIn (FW r) n P .any ops Q fuel (listed.setIfInBounds i true)) hC hw hY hs hfl g1 (by
     intro a' w' E' hd' hw' hs' hseg
     refine ih _ (pre++post) E' w' a' s1 st1 st' (by simp[hls]) ?_ ?_ ?_ ?_ hw' (hY.seg hseg) hs' (hseg.flo_le hfl) (by rw[List.map_append];exact g3) fun a2 w2 E2 hd2 hw2 hs2 hseg2=>?_
     · exact hR.sublist (by simp)
     · intro j
       by_cases hij:i=j
       · subst hij
         constructor
         · intro hmem
           rcases List.mem_append.1 hmem with h1 | h1
           · have:=hpre _ h1;omega
           · have:=hpost _ h1;omega
         · rintro⟨_,h1⟩
           simp[Array.getElem?_setIfInBounds_self_of_lt (by omega:i<listed.size)] at h1
       · rw[getD_set_ne true hij,←hm j]
         simp[Ne.symm hij]
     · simp only[List.length_append,List.length_cons] at hlen ⊢;omega
     · intro k hk hlk j hj
       by_cases hik:i=k
       · subst hik
         exact getD_set_true (hanci j hj)
       · rw[getD_set_ne false hik] at hlk
         exact getD_set_true (hanc k hk hlk j hj)
     · exact hQ a2 w2 E2 (hd2.trans hd') hw2 hs2 (hseg.trans hseg2))
    unfold wpOpIn
    simp only[ho]
    exact hop
end
end Go.Abs

namespace Go.Abs
open Go
section
variable {P:Program} {C:Cfg} {call:FuncId→List V→St→Option (V×St)} {ops:Array Oper} {o q:Oper} {s s' s1 s2:List V} {st st' st1 st2:St} {v:V} {n:Nat}
def dOp (P:Program) (call:FuncId→List V→St→Option (V×St)) (n:Nat) (ops:Array Oper) (o:Oper) (s:List V) (st:St):Option (List V×St) :=
 if isAlloc o=true then some (putS s o.dst (.ptr (n+allocIx ops o) 0),st) else opRun P call ops o s st
def dOps (P:Program) (call:FuncId→List V→St→Option (V×St)) (n:Nat) (ops:Array Oper):List Oper→List V→St→Option (List V×St)
 | [],s,st=>some (s,st)
 | o::l,s,st =>
  match dOp P call n ops o s st with
  | some (s',st')=>if st'.kills.length != st.kills.length then none else dOps P call n ops l s' st'
  | none=>none
theorem dOp_al (h:isAlloc o=true):dOp P call n ops o s st=some (putS s o.dst (.ptr (n+allocIx ops o) 0),st):=by unfold dOp;rw[if_pos h]
theorem dOp_no (h:isAlloc o=false):dOp P call n ops o s st=opRun P call ops o s st:=by unfold dOp;rw[if_neg (by simp[h])]
theorem addr_no {a:Bool} {x:Nat} (h:addrB o=some (a,x)):isAlloc o=false:=by
 cases a with
 | false=>obtain⟨t,h⟩:=addr_load h;simp[isAlloc,h]
 | true=>obtain⟨t,v,h⟩:=addr_store h;simp[isAlloc,h]
def swapG (C:Cfg) (P:Program) (ops:Array Oper) (q o:Oper):Bool :=
 q.apart ops o&&(isAlloc q || isAlloc o || clsB C P q==0 || clsB C P o==0 || (clsB C P q==1&&clsB C P o==1))
theorem putS_len (s:List V) (d:Option Nat) (v:V):(putS s d v).length=s.length:=by cases d<;>simp[putS]
theorem opRun_put {vq vo:V} (a3:∀d,o.dst=some d→d ∉ q.looksAt ops) (hq:opRun P call ops q s st=some (putS s q.dst vq,st1)) (hk1:st1.kills.length=st.kills.length) :
 opRun P call ops q (putS s o.dst vo) st=some (putS (putS s o.dst vo) q.dst vq,st1):=by
 obtain⟨v,h1,h2⟩:=opRun_alike (s':=putS s o.dst vo) (alike_put (q:=o) (o:=q) a3 s vo).symm hq hk1
 rw[h2]
 cases hd:q.dst with
 | none=>rfl
 | some d =>
  rw[hd] at h1
  simp only[putS] at h1 ⊢
  rcases Nat.lt_or_ge d s.length with hlt | hge
  · have:(s.set d vq)[d]? = (s.set d v)[d]? := by rw[h1]
    simp[hlt] at this
    rw[this]
  · have hl:(putS s o.dst vo).length=s.length:=putS_len _ _ _
    simp only[putS] at hl
    rw[List.set_eq_of_length_le (by rw[hl];exact hge),List.set_eq_of_length_le (by rw[hl];exact hge)]
theorem swapD (hp:PureOK P C call) (hsw:swapG C P ops q o=true) (hq:dOp P call n ops q s st=some (s1,st1)) (hk1:st1.kills.length=st.kills.length)
 (ho:dOp P call n ops o s1 st1=some (s2,st2)) (hk2:st2.kills.length=st1.kills.length) :
 ∃so sto,dOp P call n ops o s st=some (so,sto)∧sto.kills.length=st.kills.length∧dOp P call n ops q so sto=some (s2,st2):=by
 have hsw':=hsw
 simp only[swapG,Bool.and_eq_true] at hsw
 obtain⟨hap,hcls⟩:=hsw
 obtain⟨a1,a2,a3⟩:=Oper.apart_spec hap
 cases hqa:isAlloc q with
 | true =>
  rw[dOp_al hqa] at hq
  simp only[Option.some.injEq,Prod.mk.injEq] at hq
  obtain⟨rfl,rfl⟩:=hq
  cases hoa:isAlloc o with
  | true =>
   rw[dOp_al hoa] at ho
   simp only[Option.some.injEq,Prod.mk.injEq] at ho
   obtain⟨rfl,rfl⟩:=ho
   refine⟨_,_,dOp_al hoa,rfl,?_⟩
   rw[dOp_al hqa,putS_comm a2]
  | false =>
   rw[dOp_no hoa] at ho
   obtain⟨vo,rfl,ho'⟩:=opRun_alike (alike_put a1 s _) ho hk2
   refine⟨_,_,by rw[dOp_no hoa];exact ho',hk2,?_⟩
   rw[dOp_al hqa,putS_comm a2]
 | false =>
  rw[dOp_no hqa] at hq
  cases hoa:isAlloc o with
  | true =>
   rw[dOp_al hoa] at ho
   simp only[Option.some.injEq,Prod.mk.injEq] at ho
   obtain⟨rfl,rfl⟩:=ho
   obtain⟨vq,rfl,_⟩:=opRun_alike (s':=s) (fun t _=>rfl) hq hk1
   refine⟨_,_,dOp_al hoa,rfl,?_⟩
   rw[dOp_no hqa,opRun_put a3 hq hk1,putS_comm a2]
  | false =>
   rw[dOp_no hoa] at ho ⊢
   rw[hqa,hoa] at hcls
   have hs:swapOK C P ops q o=true:=by
    simp only[swapOK,Bool.and_eq_true]
    exact⟨hap,by simpa using hcls⟩
   obtain⟨so,sto,g1,g2,g3⟩:=swap hp hs hq hk1 ho hk2
   exact⟨so,sto,g1,g2,by rw[dOp_no hqa];exact g3⟩
theorem dOps_keep {x:Nat}:∀(L:List Oper) (s:List V) (st:St),(∀r∈L,r.dst≠some x)→dOps P call n ops L s st=some (s',st')→s'.getD x .any=s.getD x .any:=by
 intro L
 induction L with
 | nil =>
  intro s st _ h
  simp only[dOps,Option.some.injEq,Prod.mk.injEq] at h
  rw[h.1]
 | cons r L ih =>
  intro s st hr h
  unfold dOps at h
  cases ho:dOp P call n ops r s st with
  | none=>rw[ho] at h;simp at h
  | some p =>
   obtain⟨s1,st1⟩:=p
   rw[ho] at h
   simp only at h
   split at h
   · simp at h
   rename_i hk
   have e1:=ih s1 st1 (fun r' h'=>hr r' (by simp[h'])) h
   rw[e1]
   cases ha:isAlloc r with
   | true =>
    rw[dOp_al ha] at ho
    simp only[Option.some.injEq,Prod.mk.injEq] at ho
    rw[←ho.1]
    exact putS_get (hr r (by simp)) s _
   | false =>
    rw[dOp_no ha] at ho
    obtain⟨v,rfl,_⟩:=opRun_alike (s':=s) (fun t _=>rfl) ho (by simpa using hk)
    exact putS_get (hr r (by simp)) s _
def SwG (C:Cfg) (P:Program) (ops:Array Oper) (s':List V) (o:Oper) (post:List Oper):List Oper→Prop
 | []=>True
 | q::p=>(swapG C P ops q o=true∨(q.apart ops o=true∧∃a b x y,addrB q=some (a,x)∧addrB o=some (b,y)∧a≠b∧farB s' x y=true ∧
  ∀r∈q::(p++o::post),r.dst≠some x∧r.dst≠some y))∧SwG C P ops s' o post p
theorem bubbleD (hp:PureOK P C call) (post:List Oper):∀(pre:List Oper) (s:List V) (st:St),SwG C P ops s' o post pre →
 dOps P call n ops (pre++o::post) s st=some (s',st') →
 ∃s1 st1,dOp P call n ops o s st=some (s1,st1)∧st1.kills.length=st.kills.length∧dOps P call n ops (pre++post) s1 st1=some (s',st'):=by
 intro pre
 induction pre with
 | nil =>
  intro s st _ h
  simp only[List.nil_append] at h ⊢
  unfold dOps at h
  cases ho:dOp P call n ops o s st with
  | none=>rw[ho] at h;simp at h
  | some r =>
   obtain⟨s1,st1⟩:=r
   rw[ho] at h
   simp only at h
   split at h
   · simp at h
   rename_i hk
   exact⟨s1,st1,rfl,by simpa using hk,h⟩
 | cons q pre ih =>
  intro s st hsw h
  have hall:=h
  simp only[List.cons_append] at h hall ⊢
  unfold dOps at h
  cases hq:dOp P call n ops q s st with
  | none=>rw[hq] at h;simp at h
  | some r =>
   obtain⟨sq,stq⟩:=r
   rw[hq] at h
   simp only at h
   split at h
   · simp at h
   rename_i hk
   have hk':stq.kills.length=st.kills.length:=by simpa using hk
   obtain⟨s1,st1,h1,h2,h3⟩:=ih sq stq hsw.2 h
   have hsx:∃so sto,dOp P call n ops o s st=some (so,sto)∧sto.kills.length=st.kills.length∧dOp P call n ops q so sto=some (s1,st1):=by
    rcases hsw.1 with h0 | ⟨hap,a,b,x,y,g1,g2,g3,g4,g5⟩
    · exact swapD hp h0 hq hk' h1 h2
    · have nq:=addr_no g1
      have no:=addr_no g2
      rw[dOp_no nq] at hq
      rw[dOp_no no] at h1
      have hsf:=swap_far hp hap g1 g2 g3 ?_ (g5 o (by simp)).1 (g5 q (by simp)).2 hq hk' h1 h2
      · obtain⟨so,sto,k1,k2,k3⟩:=hsf
        exact⟨so,sto,by rw[dOp_no no];exact k1,k2,by rw[dOp_no nq];exact k3⟩
      · have e1:=dOps_keep _ s st (fun r hr=>(g5 r hr).1) hall
        have e2:=dOps_keep _ s st (fun r hr=>(g5 r hr).2) hall
        unfold farB at g4 ⊢
        rw[e1,e2] at g4
        exact g4
   obtain⟨so,sto,g1,g2,g3⟩:=hsx
   refine⟨so,sto,g1,g2,?_⟩
   unfold dOps
   rw[g3]
   have hk3:st1.kills.length=sto.kills.length:=by omega
   simp[hk3,h3]
theorem unhoist (hp:PureOK P C call):∀(l:List Oper) (s:List V) (st:St),(∀p1 q p2,l=p1++q::p2→isAlloc q=false→∀a∈p2,isAlloc a=true→a.apart ops q=true) →
 dOps P call n ops (l.filter isAlloc++l.filter fun o=>!isAlloc o) s st=some (s',st')→dOps P call n ops l s st=some (s',st')
 | [],s,st,_,h=>h
 | q::l,s,st,ha,h=>by
  have ha':∀p1 q' p2,l=p1++q'::p2→isAlloc q'=false→∀a∈p2,isAlloc a=true→a.apart ops q'=true:=fun p1 q' p2 e=>ha (q::p1) q' p2 (by rw[e];rfl)
  cases hq:isAlloc q with
  | true =>
   simp only[List.filter_cons,hq,if_true,Bool.not_true,Bool.false_eq_true,if_false,List.cons_append] at h
   unfold dOps at h ⊢
   cases hd:dOp P call n ops q s st with
   | none=>rw[hd] at h;simp at h
   | some r =>
    obtain⟨s1,st1⟩:=r
    rw[hd] at h
    simp only at h ⊢
    split at h
    · simp at h
    · rename_i hk
      rw[if_neg hk]
      exact unhoist hp l s1 st1 ha' h
  | false =>
   simp only[List.filter_cons,hq,Bool.false_eq_true,if_false,Bool.not_false,if_true] at h
   have hsw:SwG C P ops s' q (l.filter fun o=>!isAlloc o) (l.filter isAlloc):=by
    have key:∀L:List Oper,(∀a∈L,isAlloc a=true∧a.apart ops q=true)→SwG C P ops s' q (l.filter fun o=>!isAlloc o) L:=by
     intro L
     induction L with
     | nil=>intro _;trivial
     | cons a L ih =>
      intro hL
      refine⟨.inl ?_,ih fun b hb=>hL b (by simp[hb])⟩
      obtain⟨h1,h2⟩:=hL a (by simp)
      simp[swapG,h1,h2]
    refine key _ fun a hm=>?_
    obtain⟨h1,h2⟩:=List.mem_filter.1 hm
    exact⟨h2,ha [] q l rfl hq a h1 h2⟩
   obtain⟨s1,st1,g1,g2,g3⟩:=bubbleD hp _ _ s st hsw h
   unfold dOps
   rw[g1]
   simp only[g2,bne_self_eq_false,Bool.false_eq_true,if_false]
   exact unhoist hp l s1 st1 ha' g3
def readyB (P:Program):List Oper→Option (List Box)
 | []=>some []
 | o::l=>match o.op with
  | .alloc t=>match (zeroB P t).bind V.flat,readyB P l with
   | some cs,some r=>some (.cells t cs::r)
   | _,_=>none
  | _=>none
theorem opsRun_dOps:∀(l:List Oper) (s:List V) (st:St),(∀o∈l,isAlloc o=false∧lastB ops o=false)→opsRun P call true ops l s st=some (s',st')→dOps P call n ops l s st=some (s',st')
 | [],s,st,_,h=>h
 | o::l,s,st,ha,h=>by
  unfold opsRun at h
  unfold dOps
  rw[dOp_no (ha o (by simp)).1]
  cases hd:opRun P call ops o s st with
  | none=>rw[hd] at h;simp at h
  | some r =>
   obtain⟨s1,st1⟩:=r
   rw[hd] at h
   simp only[Bool.true_and,(ha o (by simp)).2,Bool.not_false,Bool.and_true] at h ⊢
   split at h
   · simp at h
   · rename_i hk
     rw[if_neg hk]
     exact opsRun_dOps l s1 st1 (fun o ho=>ha o (by simp[ho])) h
theorem hoist_al {B:List Oper} (hB:∀o∈B,isAlloc o=false∧lastB ops o=false) (hg:∀o∈allocsOf ops,o.guard=none∧o.dst.isSome=true) (hnd:((allocsOf ops).map (·.dst)).Nodup):∀(A2 A1:List Oper) (s:List V) (st:St),A1++A2=allocsOf ops→st.heap.length=n+A1.length →
 opsRun P call true ops (A2++B) s st=some (s',st')→∃bs,readyB P A2=some bs∧bs.length=A2.length∧dOps P call n ops (A2++B) s { st with heap:=st.heap++bs }=some (s',st')
 | [],A1,s,st,_,_,h=>by
  refine⟨[],rfl,rfl,?_⟩
  simp only[List.append_nil]
  exact opsRun_dOps _ s st hB h
 | o::A2,A1,s,st,hA,hl,h=>by
  have hom:o∈allocsOf ops:=by rw[←hA];simp
  have hoa:isAlloc o=true:=(List.mem_filter.1 hom).2
  obtain⟨g1,g2⟩:=hg o hom
  obtain⟨t,ht⟩:∃t,o.op=.alloc t:=by
   unfold isAlloc at hoa
   split at hoa
   · rename_i t ht;exact⟨t,ht⟩
   · simp at hoa
  rw[List.cons_append] at h ⊢
  unfold opsRun at h
  unfold opRun at h
  have hw:wantedB ops s o=some true:=by unfold wantedB;rw[g1]
  rw[hw] at h
  have hao:aop P s o st=((zeroB P t).bind V.flat).map fun cs=>.val (.ptr st.heap.length 0) s { st with heap:=st.heap++[.cells t cs] }:=by
   unfold aop
   rw[ht]
  simp only[hao] at h
  cases hz:(zeroB P t).bind V.flat with
  | none=>rw[hz] at h;simp at h
  | some cs =>
   rw[hz] at h
   simp only[Option.map_some,bne_self_eq_false,Bool.and_false,Bool.false_and,Bool.false_eq_true,if_false] at h
   obtain⟨bs,e1,e2,e3⟩:=hoist_al hB hg hnd A2 (A1++[o]) _ _ (by rw[←hA];simp) (by simp[hl];omega) h
   refine⟨.cells t cs::bs,?_,by simp[e2],?_⟩
   · unfold readyB
     rw[ht]
     simp only[hz,e1]
   · unfold dOps
     have hix:allocIx ops o=A1.length:=by
      unfold allocIx
      rw[←hA] at hnd ⊢
      rw[List.findIdx_append]
      have hno:∀q∈A1,(q.dst==o.dst)=false:=by
       intro q hq
       rw[List.map_append,List.nodup_append] at hnd
       have:=hnd.2.2 q.dst (List.mem_map.2 ⟨q,hq,rfl⟩) o.dst (by simp)
       simpa using this
      have h1:List.findIdx (fun q=>q.dst==o.dst) A1=A1.length:=List.findIdx_eq_length.2 hno
      rw[h1,if_neg (Nat.lt_irrefl _)]
      simp[List.findIdx_cons]
     rw[dOp_al hoa,hix]
     simp only[bne_self_eq_false,Bool.false_eq_true,if_false]
     rw[←hl]
     have e4:(st.heap++[Box.cells t cs])++bs=st.heap++(Box.cells t cs::bs):=by simp
     simp only[e4] at e3
     exact e3
def Env.ghost (E:Env) (n:Nat):Env:={ E with box:=fun i=>if i<n then E.box i else none }
theorem ghost_WR {E:Env} {w:World} (h:WR E st w) (hfl:st.flo≤st.fams.length) (bs:List Box) :
 WR (E.ghost st.heap.length) { st with heap:=st.heap++bs } w∧Seg E st w (E.ghost st.heap.length) { st with heap:=st.heap++bs } w∧Step [] E st w (E.ghost st.heap.length) { st with heap:=st.heap++bs } w:=by
 have e1:∀i,i<st.heap.length→(E.ghost st.heap.length).box i=E.box i:=fun i hi=>by simp[Env.ghost,hi]
 have e2:∀i b,(E.ghost st.heap.length).box i=some b→i<st.heap.length:=by
  intro i b hb
  simp only[Env.ghost] at hb
  split at hb
  · assumption
  · simp at hb
 have hBl:=Blw.refl w
 have S:Step [] E st w (E.ghost st.heap.length) { st with heap:=st.heap++bs } w :=
  step_grow hBl (fun i hi=>⟨by simp;omega,e1 i hi⟩) (fun i b h1 _ h3=>by have:=e2 i b h3;omega) (fun F f hf=>⟨hf,rfl,rfl⟩) (fun F h1 h2=>by simp at h2;omega)
 refine⟨⟨?_,?_,?_,?_,h.famInj⟩,seg_grow hBl (fun i hi=>⟨by simp;omega,e1 i hi⟩) (fun i b h1 _ h3=>by have:=e2 i b h3;omega) (fun F f hf=>⟨hf,rfl,rfl⟩) (fun F h1 h2=>by simp at h2;omega) rfl rfl rfl hfl (by simp) (Nat.le_refl _),S⟩
 · intro i bx b hi hb
   have hlt:=e2 i b hb
   rw[List.getElem?_append_left hlt] at hi
   rw[e1 i hlt] at hb
   exact (h.box i bx b hi hb).step0 S rfl
 · intro i j b _ _ hbi hbj
   have h1:=e2 i b hbi
   have h2:=e2 j b hbj
   rw[e1 i h1] at hbi
   rw[e1 j h2] at hbj
   exact h.inj i j b h1 h2 hbi hbj
 · intro F f hf
   exact h.fam F f hf
 · intro F i hF _ hb
   have h1:=e2 i _ hb
   rw[e1 i h1] at hb
   exact h.famBox F i hF h1 hb
theorem map_box {E:Env} {w w':World} {n:Nat} {bx:Box} (h:WR E st w) (hB:Blw w w') (hn:st.heap[n]? = some bx) (he:E.box n=none)
 (hbx:Step [] E st w (E.addBox n w.heap.size) st w'→BoxR (E.addBox n w.heap.size) st w' w.heap.size bx) :
 WR (E.addBox n w.heap.size) st w'∧Step [] E st w (E.addBox n w.heap.size) st w':=by
 have hnl:n<st.heap.length:=(List.getElem?_eq_some_iff.1 hn).1
 have e1:∀i,i≠n→(E.addBox n w.heap.size).box i=E.box i:=fun i hi=>by simp[Env.addBox,hi]
 have e0:(E.addBox n w.heap.size).box n=some w.heap.size:=by simp[Env.addBox]
 have hne:∀i b,E.box i=some b→i≠n:=by rintro i b hb rfl;rw[he] at hb;simp at hb
 have S:Step [] E st w (E.addBox n w.heap.size) st w':=by
  refine⟨fun i b hi hb=>⟨hi,by rw[e1 i (hne i b hb)];exact hb⟩,fun t b off v _ _ hc=>(cell_of_heap (hB.same b (cell_lt hc)) off).trans hc,fun t b hi _ hb hr=>?_,fun t off sz a k cap _ _ h=>h.of_rows (fun F f hf=>⟨hf,rfl,rfl⟩) (hB.rows _),fun _ _ h1 h2=>⟨h1,h2⟩⟩
  refine⟨fun i hi hbi=>?_,fun F f hf hbf=>hr.2 F f hf hbf⟩
  by_cases hin:i=n
  · subst hin
    rw[e0] at hbi
    simp only[Option.some.injEq] at hbi
    omega
  · rw[e1 i hin] at hbi
    exact hr.1 i hi hbi
 refine⟨⟨?_,?_,?_,?_,h.famInj⟩,S⟩
 · intro i bx' b hi hb
   by_cases hin:i=n
   · subst hin
     rw[hn] at hi
     simp only[Option.some.injEq] at hi
     subst hi
     rw[e0] at hb
     simp only[Option.some.injEq] at hb
     subst hb
     exact hbx S
   · rw[e1 i hin] at hb
     have:=h.box i bx' b hi hb
     exact this.step0 S (hB.same b this.lt)
 · intro i j b hi hj hbi hbj
   by_cases hin:i=n
   · by_cases hjn:j=n
     · omega
     · subst hin
       rw[e0] at hbi
       rw[e1 j hjn] at hbj
       have:=h.boxLt hj hbj
       simp only[Option.some.injEq] at hbi
       omega
   · by_cases hjn:j=n
     · subst hjn
       rw[e0] at hbj
       rw[e1 i hin] at hbi
       have:=h.boxLt hi hbi
       simp only[Option.some.injEq] at hbj
       omega
     · rw[e1 i hin] at hbi
       rw[e1 j hjn] at hbj
       exact h.inj i j b hi hj hbi hbj
 · intro F f hf
   obtain⟨c,t,z,h2,h3⟩:=h.fam F f hf
   exact⟨c,t,z,(hB.same _ (h.famLt hf)).trans h2,h3⟩
 · intro F i hF hi hb
   have hlt:=h.famLt (List.getElem?_eq_getElem hF)
   by_cases hin:i=n
   · subst hin
     rw[e0] at hb
     simp only[Option.some.injEq,Env.addBox] at hb
     omega
   · rw[e1 i hin] at hb
     exact h.famBox F i hF hi hb
theorem Seg.map {E0 E:Env} {st0:St} {w0 w w':World} {n:Nat} (h:Seg E0 st0 w0 E st w) (hB:Blw w w') (hn:st0.heap.length≤n) (S:Step [] E st w (E.addBox n w.heap.size) st w') :
 Seg E0 st0 w0 (E.addBox n w.heap.size) st w' where
 step:=h.step.trans h.size (S.more (fun F hF=>by simp at hF))
 size:=Nat.le_trans h.size hB.size
 keep b hb hm:=(hB.same b (Nat.lt_of_lt_of_le hb h.size)).trans (h.keep b hb hm)
 muts b hb hm:=by
  refine h.muts b hb ?_
  rcases hm with ⟨i,h1,h2,h3⟩ | hm
  · by_cases hin:i=n
    · subst hin
      simp only[Env.addBox,if_true,Option.some.injEq] at h3
      have:=h.size
      omega
    · simp only[Env.addBox,hin,if_false] at h3
      exact .inl ⟨i,h1,h2,h3⟩
  · exact .inr hm
 lo:=h.lo
 flo:=h.flo
 hlen:=h.hlen
 flen:=h.flen
 fams:=h.fams
 kills:=h.kills
 boxE i hi:=by
  have hin:i≠n:=by omega
  simp only[Env.addBox,hin,if_false]
  exact h.boxE i hi
 quiet:=h.quiet.trans hB.quiet
 y:=h.y
def Zr (c:Value) (d:V):Prop:=∀(E:Env) (st:St) (w:World),VR E st w c d
def NewZ (P:Program) (t:TypeId) (cs:List V):Prop:=∃z,(∀w,(zeroValue t).run P w=.ok z w)∧z.cells.size=cs.length∧(∀k,k<cs.length→(z.cells.getD k undef).oneCell'=true)∧∀k,k<cs.length→Zr (z.cells.getD k undef) (cs.getD k .dead)
def env0:Env:=⟨fun _=>none,fun _=>0,fun _=>0,fun _=>none⟩
theorem newZ_of {t:TypeId} {cs:List V} (w:World) (hz:(zeroB P t).bind V.flat=some cs):NewZ P t cs:=by
 obtain⟨zV,hz1,hz2⟩:=Option.bind_eq_some_iff.1 hz
 obtain⟨z,e1,e2⟩:=zeroB_some hz1
 have hzVR:∀E st w,VR E st w z zV:=fun E st w=>by rw[e1];exact ofVal_VR E st w 3 z
 obtain⟨g1,g0,_⟩:=(hzVR env0 default w).flat' hz2
 exact⟨z,e2,g1,g0,fun k hk E st w=>((hzVR E st w).flat' hz2).2.2 k hk⟩
theorem simple_Zr {E E':Env} {st st':St} {w w':World} {c:Value} {d0 d:V} (hs:simpleV d0=true) (h0:VR E st w c d0) (h:VR E' st' w' c d):Zr c d:=by
 intro F u x
 cases h0 with
 | int k n =>
  cases h with
  | dead _ hc=>exact .dead _ hc
  | any=>exact .any _
  | int=>exact .int k n
 | bool b =>
  cases h with
  | dead _ hc=>exact .dead _ hc
  | any=>exact .any _
  | bool=>exact .bool b
 | str b =>
  cases h with
  | dead _ hc=>exact .dead _ hc
  | any=>exact .any _
  | str=>exact .str b
 | nil =>
  cases h with
  | dead _ hc=>exact .dead _ hc
  | any=>exact .any _
  | nil o z=>exact .nil o z
 | nilp =>
  cases h with
  | dead _ hc=>exact .dead _ hc
  | any=>exact .any _
  | nilp=>exact .nilp
 | nilf =>
  cases h with
  | dead _ hc=>exact .dead _ hc
  | any=>exact .any _
  | nilf=>exact .nilf
 | nili =>
  cases h with
  | dead _ hc=>exact .dead _ hc
  | any=>exact .any _
  | nili=>exact .nili
 | nilm =>
  cases h with
  | dead _ hc=>exact .dead _ hc
  | any=>exact .any _
  | nilm=>exact .nilm
 | list t off sz xs a cap vs ht=>cases t with
  | nil=>exact absurd rfl ht
  | _=>simp[simpleV] at hs
 | _=>simp[simpleV] at hs
def LowOK (C:Cfg) (P:Program) (call:FuncId→List V→St→Option (V×St)):Prop :=
 ∀f args st v st',C.keep f=true→f<P.funcs.size→call f args st=some (v,st')→∃st'',SimCall P f args { st with lo:=st.heap.length,y:=none } v st''∧st'={ st'' with lo:=st.lo,y:=st.y }
theorem low_stays {E:Env} {w:World} {a:Act} {t:TypeId} {cs cs0:List V} {b:Nat} (hL:LowOK C P call) (hw:WR E st w) (hs:SR E st w a.tmps s) (hfl:st.flo≤st.fams.length)
 (hk:keepCall C P o=true) (hz0:(zeroB P t).bind V.flat=some cs0) (hsim:cs0.all simpleV=true)
 (hb:st.heap[b]? = some (.cells t cs)) (he:E.box b=none) (hz:NewZ P t cs) (h:opRun P call ops o s st=some (s1,st1)) :
 ∃cs',st1.heap[b]? = some (.cells t cs')∧NewZ P t cs':=by
 unfold keepCall at hk
 split at hk
 rotate_left
 · simp at hk
 rename_i c hop
 split at hk
 rotate_left
 · simp at hk
 rename_i f hcal
 simp only[Bool.and_eq_true,decide_eq_true_eq] at hk
 obtain⟨hkf,hlt⟩:=hk
 unfold opRun at h
 cases hwd:wantedB ops s o with
 | none=>rw[hwd] at h;simp at h
 | some q =>
  rw[hwd] at h
  cases q with
  | false =>
   simp only[Option.some.injEq,Prod.mk.injEq] at h
   obtain⟨_,rfl⟩:=h
   exact⟨cs,hb,hz⟩
  | true =>
   simp only at h
   cases ho:aop P s o st with
   | none=>rw[ho] at h;simp at h
   | some out =>
    rw[ho] at h
    cases out with
    | val v s1' st1' =>
     exfalso
     unfold aop at ho
     rw[hop] at ho
     simp only[hcal,ev] at ho
     split at ho<;>simp at ho
    | call g args =>
     simp only at h
     rcases aop_call ho with ⟨c',x,first,cap,hop',hc',hx,hcb,rfl⟩ | ⟨c',x,k,hop',hc',hx,rfl,rfl⟩
     rotate_left
     · rw[hop] at hop'
       simp only[Op.call.injEq] at hop'
       subst hop'
       rw[hcal] at hc'
       simp only[Callee.value.injEq] at hc'
       subst hc'
       simp[ev] at hx
     rw[hop] at hop'
     simp only[Op.call.injEq] at hop'
     subst hop'
     rw[hcal] at hc'
     simp only[Callee.value.injEq] at hc'
     subst hc'
     simp only[ev,V.func.injEq,Fn.func.injEq] at hx
     obtain⟨rfl,rfl,rfl⟩:=hx
     rw[if_neg (Nat.not_le.2 hlt)] at h
     generalize hA:([]++List.map (ev s) c.args.toList++[]:List V)=A at h
     cases hcall:call f A { st with kills:=[],y:=none } with
     | none=>rw[hcall] at h;simp at h
     | some r =>
      obtain⟨v,st2⟩:=r
      rw[hcall] at h
      simp only[Option.some.injEq,Prod.mk.injEq] at h
      obtain⟨_,rfl⟩:=h
      obtain⟨st3,hsc,rfl⟩:=hL _ _ _ _ _ hkf hlt hcall
      obtain⟨z,z1,z2,z3,z4⟩:=hz
      have hB:Blw w { w with heap:=w.heap.push (.cells z.cells t) }:=Blw.push w _
      obtain⟨k1,S⟩:=map_box hw hB hb he (fun S=>⟨z.cells,by simp,z2,z3,fun k hk=>z4 k hk _ _ _⟩)
      obtain⟨g1,g2⟩:=evs_VR hs c.args
      have hA':A=List.map (ev s) c.args.toList:=by rw[←hA];simp
      have hbl:b<st.heap.length:=(List.getElem?_eq_some_iff.1 hb).1
      obtain⟨e,w2,fr,⟨cv,E2,_,_,hw2,hseg⟩,_⟩:=hsc (E.addBox b w.heap.size) { w with heap:=w.heap.push (.cells z.cells t) } (c.args.map a.eval) (k1.same rfl rfl) (YS.none rfl) hfl (by rw[hA'];exact g1)
       (fun k hk=>by rw[hA'] at hk ⊢;exact ((g2 k hk).step0 S).same rfl rfl) []
      have hb2:E2.box b=some w.heap.size:=by
       rw[hseg.boxE b hbl];simp[Env.addBox]
      have hb3:b<st3.heap.length:=Nat.lt_of_lt_of_le hbl hseg.hlen
      have hbr:=hw2.box b _ _ (List.getElem?_eq_getElem hb3) hb2
      have hke:=hseg.keep w.heap.size (by simp) (by
       rintro (⟨i,h1,h2,_⟩ | ⟨F,h1,h2,h3⟩)
       · simp only at h1 h2;omega
       · have:=hw.famLt (List.getElem?_eq_getElem h2)
         simp only[Env.addBox] at h3
         omega)
      have hnew:w2.heap[w.heap.size]? = some (.cells z.cells t (0,0)):=by rw[hke];simp
      show ∃cs',st3.heap[b]? = some (.cells t cs')∧NewZ P t cs'
      rw[List.getElem?_eq_getElem hb3]
      generalize st3.heap[b]=bx at hbr
      cases bx with
      | mapo es =>
       obtain⟨en,cl,h1,_⟩:=hbr
       rw[hnew] at h1;simp at h1
      | cells t' cs' =>
       obtain⟨c0,h1,h2,h3,h4⟩:=hbr
       rw[hnew] at h1
       simp only[Option.some.injEq,Obj.cells.injEq] at h1
       obtain⟨rfl,rfl,_⟩:=h1
       refine⟨cs',rfl,z,z1,h2,h3,fun k hk=>?_⟩
       obtain⟨z',e1,e2,e3,e4⟩:=newZ_of (P:=P) w hz0
       have hzz:z'=z:=by
        have h5:=e1 w
        rw[z1 w] at h5
        simp only[Result.ok.injEq] at h5
        exact h5.1.symm
       subst hzz
       have hk0:k<cs0.length:=by omega
       refine simple_Zr ?_ (e4 k hk0 E st w) (h4 k hk)
       rw[List.all_eq_true] at hsim
       refine hsim _ ?_
       have:cs0.getD k .dead=cs0[k]:=by simp[List.getD_eq_getElem?_getD,hk0]
       rw[this]
       exact List.getElem_mem hk0
theorem alloc_map {E:Env} {w:World} {a:Act} {t:TypeId} {cs:List V} {n n':Nat} {r:Option Nat} {K:Act→World→Prop} {Q:Exit→Act→World→Prop} (hw:WR E st w) (hs:SR E st w a.tmps s)
 (ho:o.op=.alloc t) (hz:NewZ P t cs) (hn:st.heap[n]? = some (.cells t cs)) (he:E.box n=none)
 (hK:∀a' w',a'.defers=a.defers→Blw w w'→WR (E.addBox n w.heap.size) st w'→SR (E.addBox n w.heap.size) st w' a'.tmps (putS s o.dst (.ptr n 0))→Step [] E st w (E.addBox n w.heap.size) st w'→K a' w') :
 o.wpIn (FW r) n' P a w K Q:=by
 have hput:∀(a:Act) dst v,(a.put dst v).defers=a.defers:=by intro a dst v;cases dst<;>rfl
 obtain⟨z,e2,g1,g0,g2⟩:=hz
 have hB:Blw w { w with heap:=w.heap.push (.cells z.cells t) }:=Blw.push w _
 obtain⟨k1,S⟩:=map_box hw hB hn he (fun S=>⟨z.cells,by simp,g1,g0,fun k hk=>g2 k hk _ _ _⟩)
 have hnl:n<st.heap.length:=(List.getElem?_eq_some_iff.1 hn).1
 have hrun:(newVar t z).run P w=.ok (adr w.heap.size 0) { w with heap:=w.heap.push (.cells z.cells t) }:=by simp[newVar,newRow]
 have hv:VR (E.addBox n w.heap.size) st { w with heap:=w.heap.push (.cells z.cells t) } (.pointer (some (adr w.heap.size 0))) (.ptr n 0):=.ptr _ _ _ hnl (by simp[Env.addBox])
 have hx0:(execOp a.eval o).run P w=((do pure (.pointer (some (←newVar t z))):Sem Value).run P w).andThen fun v w'=>.ok (.value v) w':=by
  simp[execOp,ho,Instr.alloc,e2]
  cases (newVar t z).run P w<;>rfl
 have hx1:(do pure (.pointer (some (←newVar t z))):Sem Value).run P w=.ok (.pointer (some (adr w.heap.size 0))) { w with heap:=w.heap.push (.cells z.cells t) }:=by simp[newVar,newRow]
 rw[hx1] at hx0
 exact wpIn_of_run (fun c hc=>by rw[ho] at hc;cases hc) hx0 (hK _ _ (hput _ _ _) hB k1 ((hs.step0 S).put hv o.dst a.defers) S)
structure DrawG (C:Cfg) (P:Program) (ops:Array Oper) (anc:Nat→List Nat) (far:Nat→Nat→Bool):Prop where
 back:∀(i:Nat) (o:Oper),ops[i]? = some o→∀e∈o.after,Region.binds .any e=true→e.on<i
 up:∀(i:Nat) (o:Oper),ops[i]? = some o→∀j∈anc i,∃e∈o.after,Region.binds .any e=true∧(e.on=j∨j∈anc e.on)
 swap:∀(i:Nat) (o:Oper) (j:Nat) (q:Oper),ops[i]? = some o→ops[j]? = some q→j<i→j∈anc i∨swapG C P ops q o=true ∨
  (q.apart ops o=true∧∃a b x y,addrB q=some (a,x)∧addrB o=some (b,y)∧a≠b∧far x y=true ∧
   ∀(k:Nat) (r:Oper),ops[k]? = some r→(r.dst=some x→k∈anc j)∧(r.dst=some y→k∈anc i))
 guard:∀(i:Nat) (o:Oper),ops[i]? = some o→isAlloc o=true→o.guard=none
 ix:∀(i:Nat) (o:Oper) (j:Nat) (q:Oper),ops[i]? = some o→ops[j]? = some q→i≠j→isAlloc o=true→isAlloc q=true→allocIx ops o≠allocIx ops q
 easy:∀(i:Nat) (o:Oper),ops[i]? = some o→isAlloc o=false→∀(j:Nat) (q:Oper),ops[j]? = some q→isAlloc q=true→clsB C P o≤1∨(∃y,addrB o=some (true,y))∨(keepCall C P o=true∧simpleZ P q=true)
theorem SwG_of {s':List V} {post:List Oper}:∀(pre:List Oper),(∀p1 q p2,pre=p1++q::p2→swapG C P ops q o=true∨(q.apart ops o=true∧∃a b x y,addrB q=some (a,x)∧addrB o=some (b,y)∧a≠b∧farB s' x y=true ∧
 ∀r∈q::(p2++o::post),r.dst≠some x∧r.dst≠some y))→SwG C P ops s' o post pre:=by
 intro pre
 induction pre with
 | nil=>intro _;trivial
 | cons q p ih=>exact fun h=>⟨h [] q p rfl,ih fun p1 q' p2 e=>h (q::p1) q' p2 (by rw[e];rfl)⟩
theorem DrawG.anc_lt {anc:Nat→List Nat} {far:Nat→Nat→Bool} (hd:DrawG C P ops anc far):∀i,i<ops.size→∀j∈anc i,j<i:=by
 intro i
 induction i using Nat.strongRecOn with
 | ind i ih =>
  intro hi j hj
  have ho:ops[i]? = some ops[i]:=Array.getElem?_eq_getElem hi
  obtain⟨e,he,hb,hor⟩:=hd.up i _ ho j hj
  have h1:=hd.back i _ ho e he hb
  rcases hor with rfl | h2
  · exact h1
  · exact Nat.lt_trans (ih e.on h1 (by omega) j h2) h1
theorem draw_simG {Q:Exit→Act→World→Prop} {r:Option Nat} {n':Nat} {anc:Nat→List Nat} {E0:Env} {st0:St} {w0:World} (hn0:st0.heap.length≤n) (hY0:YS E0 st0 w0) (hC:CallOK P call) (hL:LowOK C P call) (hp:PureOK P C call) (hd:DrawG C P ops anc (farB s')) :
 ∀(fuel:Nat) (listed:Array Bool) (R:List Nat) (E:Env) (w:World) (a:Act) (s:List V) (st st':St),
 listed.size=ops.size→R.Pairwise (·<·)→(∀j,j∈R↔j<ops.size∧listed.getD j true=false)→R.length≤fuel →
 (∀i,i<ops.size→listed.getD i false=true→∀j∈anc i,listed.getD j false=true) →
 WR E st w→SR E st w a.tmps s→st.flo≤st.fams.length→Seg E0 st0 w0 E st w →
 (∀j∈R,∀o,ops[j]? = some o→isAlloc o=true→E.box (n+allocIx ops o)=none∧∃t cs,o.op=.alloc t∧NewZ P t cs∧st.heap[n+allocIx ops o]? = some (.cells t cs)) →
 dOps P call n ops (R.map fun i=>ops.getD i default) s st=some (s',st') →
 (∀a' w' E',a'.defers=a.defers→WR E' st' w'→SR E' st' w' a'.tmps s'→Seg E0 st0 w0 E' st' w'→Q .normal a' w') →
 wpAnyIn (FW r) n' P .any ops Q fuel listed a w:=by
 intro fuel
 have noready:∀(listed:Array Bool) (R:List Nat),listed.size=ops.size→R.Pairwise (·<·)→(∀j,j∈R↔j<ops.size∧listed.getD j true=false)→Region.ready .any ops listed=[]→R=[]:=by
  intro listed R hls hR hm hr
  cases R with
  | nil=>rfl
  | cons r rest =>
   exfalso
   have hrm:=(hm r).1 (by simp)
   have:r∈Region.ready .any ops listed:=by
    rw[mem_ready]
    refine⟨hrm.2,ops[r],Array.getElem?_eq_getElem hrm.1,fun e he hb=>?_⟩
    have hlt:=hd.back r _ (Array.getElem?_eq_getElem hrm.1) e he hb
    have hnot:e.on ∉ r::rest:=by
     intro hmem
     rcases List.mem_cons.1 hmem with h1 | h1
     · omega
     · have:=(List.pairwise_cons.1 hR).1 _ h1;omega
    have h2:¬(e.on<ops.size∧listed.getD e.on true=false):=fun h=>hnot ((hm _).2 h)
    have h3:e.on<listed.size:=by omega
    have h4:listed.getD e.on true≠false:=fun h=>h2 ⟨by omega,h⟩
    simp only[Array.getD_eq_getD_getElem?,Array.getElem?_eq_getElem h3,Option.getD_some] at h4 ⊢
    simpa using h4
   rw[hr] at this
   simp at this
 induction fuel with
 | zero =>
  intro listed R E w a s st st' hls hR hm hlen hanc hw hs hfl hsg hgh h hQ
  have hnil:R=[]:=List.length_eq_zero_iff.1 (by omega)
  subst hnil
  simp only[List.map_nil,dOps,Option.some.injEq,Prod.mk.injEq] at h
  obtain⟨rfl,rfl⟩:=h
  refine⟨?_,hQ a w E rfl hw hs hsg⟩
  rw[List.eq_nil_iff_forall_not_mem]
  intro i hi
  rw[mem_ready] at hi
  obtain⟨h0,o,ho,_⟩:=hi
  have:=(hm i).2 ⟨(Array.getElem?_eq_some_iff.1 ho).1,h0⟩
  simp at this
 | succ fuel ih =>
  intro listed R E w a s st st' hls hR hm hlen hanc hw hs hfl hsg hgh h hQ
  refine⟨fun hr=>?_,fun i hi=>?_⟩
  · have hnil:=noready listed R hls hR hm hr
    subst hnil
    simp only[List.map_nil,dOps,Option.some.injEq,Prod.mk.injEq] at h
    obtain⟨rfl,rfl⟩:=h
    exact hQ a w E rfl hw hs hsg
  · rw[mem_ready] at hi
    obtain⟨h0,o,ho,hall⟩:=hi
    have hin:i<ops.size:=(Array.getElem?_eq_some_iff.1 ho).1
    have hiR:i∈R:=(hm i).2 ⟨hin,h0⟩
    obtain⟨pre,post,rfl⟩:=List.append_of_mem hiR
    have hgo:ops.getD i default=o:=by simp[Array.getD_eq_getD_getElem?,ho]
    have hpw:=List.pairwise_append.1 hR
    have hpre:∀j∈pre,j<i:=fun j hj=>hpw.2.2 j hj i (by simp)
    have hpost:∀j∈post,i<j:=fun j hj=>(List.pairwise_cons.1 hpw.2.1).1 j hj
    have hanci:∀j∈anc i,listed.getD j false=true:=by
     intro j hj
     obtain⟨e,he,hb,hor⟩:=hd.up i o ho j hj
     have hl:=hall e he hb
     rcases hor with rfl | hj'
     · exact hl
     · have:=hd.back i o ho e he hb
       exact hanc e.on (by omega) hl j hj'
    have hget2:∀j,listed.getD j true=false→listed.getD j false=true→False:=by
     intro j h1 h2
     simp only[Array.getD_eq_getD_getElem?] at h1 h2
     cases hx:listed[j]? with
     | none=>rw[hx] at h1;simp at h1
     | some b=>rw[hx] at h1 h2;simp at h1 h2;rw[h1] at h2;cases h2
    have hgjs:∀j,j<ops.size→ops[j]? = some (ops.getD j default):=fun j hj=>by simp[Array.getD_eq_getD_getElem?,Array.getElem?_eq_getElem hj]
    have hsw:SwG C P ops s' o (post.map fun i=>ops.getD i default) (pre.map fun i=>ops.getD i default):=by
     refine SwG_of _ fun p1 q p2 e=>?_
     obtain⟨l1,l2',e1,e2,e3⟩:=List.map_eq_append_iff.1 e
     obtain⟨j,l2,rfl,rfl,rfl⟩:=List.map_eq_cons_iff.1 e3
     subst e1 e2
     obtain⟨hjn,hjl⟩:=(hm j).1 (by simp)
     have hgj:=hgjs j hjn
     rcases hd.swap i o j _ ho hgj (hpre j (by simp)) with h1 | h1 | ⟨hap,a,b,x,y,g1,g2,g3,g4,g5⟩
     · exact (hget2 j hjl (hanci j h1)).elim
     · exact .inl h1
     · refine .inr ⟨hap,a,b,x,y,g1,g2,g3,g4,fun r hr=>?_⟩
       have hex:∃k,k∈j::(l2++i::post)∧ops.getD k default=r:=by
        rcases List.mem_cons.1 hr with h1 | h1
        · exact⟨j,by simp,h1.symm⟩
        · rcases List.mem_append.1 h1 with h1 | h1
          · obtain⟨k,hk,e⟩:=List.mem_map.1 h1;exact⟨k,by simp[hk],e⟩
          · rcases List.mem_cons.1 h1 with h1 | h1
            · exact⟨i,by simp,by rw[hgo];exact h1.symm⟩
            · obtain⟨k,hk,e⟩:=List.mem_map.1 h1;exact⟨k,by simp[hk],e⟩
       obtain⟨k,hk,rfl⟩:=hex
       have hR2:(j::(l2++i::post)).Pairwise (·<·):=by
        have:l1++j::l2++i::post=l1++(j::(l2++i::post)):=by simp
        rw[this] at hR
        exact (List.pairwise_append.1 hR).2.1
       have hkm:k∈l1++j::l2++i::post:=by
        rcases List.mem_cons.1 hk with h1 | h1
        · simp[h1]
        · rcases List.mem_append.1 h1 with h1 | h1
          · simp[h1]
          · rcases List.mem_cons.1 h1 with h1 | h1<;>simp[h1]
       obtain⟨hkn,hkl⟩:=(hm k).1 hkm
       have hjk:j≤k:=by
        rcases List.mem_cons.1 hk with h1 | h1
        · omega
        · exact Nat.le_of_lt ((List.pairwise_cons.1 hR2).1 k h1)
       obtain⟨w1,w2⟩:=g5 k _ (hgjs k hkn)
       refine⟨fun e=>?_,fun e=>?_⟩
       · have:=hd.anc_lt j hjn k (w1 e);omega
       · exact hget2 k hkl (hanci k (w2 e))
    simp only[List.map_append,List.map_cons,hgo] at h
    obtain⟨s1,st1,g1,g2,g3⟩:=bubbleD hp _ _ s st hsw h
    have hlist:(∀j,j∈pre++post↔j<ops.size∧(listed.setIfInBounds i true).getD j true=false):=by
     intro j
     by_cases hij:i=j
     · subst hij
       constructor
       · intro hmem
         rcases List.mem_append.1 hmem with h1 | h1
         · have:=hpre _ h1;omega
         · have:=hpost _ h1;omega
       · rintro⟨_,h1⟩
         simp[Array.getElem?_setIfInBounds_self_of_lt (by omega:i<listed.size)] at h1
     · rw[getD_set_ne true hij,←hm j]
       simp[Ne.symm hij]
    have hlenR:(pre++post).length≤fuel:=by simp only[List.length_append,List.length_cons] at hlen ⊢;omega
    have hancR:∀k,k<ops.size→(listed.setIfInBounds i true).getD k false=true→∀j∈anc k,(listed.setIfInBounds i true).getD j false=true:=by
     intro k hk hlk j hj
     by_cases hik:i=k
     · subst hik
       exact getD_set_true (hanci j hj)
     · rw[getD_set_ne false hik] at hlk
       exact getD_set_true (hanc k hk hlk j hj)
    have hne:∀j∈pre++post,j≠i:=by
     rintro j hj rfl
     rcases List.mem_append.1 hj with h1 | h1
     · have:=hpre _ h1;omega
     · have:=hpost _ h1;omega
    unfold wpOpIn
    simp only[ho]
    cases hoa:isAlloc o with
    | true =>
     obtain⟨hbox,t,cs,k1,k2,k3⟩:=hgh i hiR o ho hoa
     rw[dOp_al hoa] at g1
     simp only[Option.some.injEq,Prod.mk.injEq] at g1
     obtain⟨rfl,rfl⟩:=g1
     have hguard:=hd.guard i o ho hoa
     have hwd:Region.wanted o (yielded ops a.tmps)=true:=by
      have hw2:wantedB ops s o=some true:=by unfold wantedB;rw[hguard]
      exact wanted_VR hs hw2
     rw[if_pos hwd]
     refine alloc_map hw hs k1 k2 k3 hbox fun a' w' hd' hB hw' hs' S=>?_
     refine ih _ (pre++post) (E.addBox (n+allocIx ops o) w.heap.size) w' a' _ st st' (by simp[hls]) (hR.sublist (by simp)) hlist hlenR hancR hw' hs' hfl (hsg.map hB (by omega) S) ?_ (by rw[List.map_append];exact g3) fun a2 w2 E2 hd2=>hQ a2 w2 E2 (hd2.trans hd')
     intro j hj q hq hqa
     obtain⟨b1,b2⟩:=hgh j (by rcases List.mem_append.1 hj with h1 | h1<;>simp[h1]) q hq hqa
     have hix:n+allocIx ops q≠n+allocIx ops o:=by
      have:=hd.ix j q i o hq ho (hne j hj) hqa hoa
      omega
     exact⟨by simp only[Env.addBox,hix,if_false];exact b1,b2⟩
    | false =>
     rw[dOp_no hoa] at g1
     have hop:=op_sim (Q:=Q) (r:=r) (n:=n') (K:=wpAnyIn (FW r) n' P .any ops Q fuel (listed.setIfInBounds i true)) hC hw (hY0.seg hsg) hs hfl g1 (by
      intro a' w' E' hd' hw' hs' hseg
      refine ih _ (pre++post) E' w' a' s1 st1 st' (by simp[hls]) (hR.sublist (by simp)) hlist hlenR hancR hw' hs' (hseg.flo_le hfl) (hsg.trans hseg) ?_ (by rw[List.map_append];exact g3) fun a2 w2 E2 hd2=>hQ a2 w2 E2 (hd2.trans hd')
      intro j hj q hq hqa
      obtain⟨b1,t,cs,b2,b3,b4⟩:=hgh j (by rcases List.mem_append.1 hj with h1 | h1<;>simp[h1]) q hq hqa
      have hjl:n+allocIx ops q<st.heap.length:=(List.getElem?_eq_some_iff.1 b4).1
      have hcs:∃cs',st1.heap[n+allocIx ops q]? = some (.cells t cs')∧NewZ P t cs':=by
       rcases hd.easy i o ho hoa j q hq hqa with h1 | ⟨y,h1⟩ | ⟨h1,h2⟩
       · have:st1=st:=by
          rcases Nat.le_one_iff_eq_zero_or_eq_one.1 h1 with h0 | h0
          · exact (opRun_cls0 h0 g1).1
          · exact opRun_cls1 hp h0 g1
         rw[this];exact⟨cs,b4,b3⟩
       · rcases store_far h1 g1 g2 with e1 | ⟨jj,off,e1,e2⟩
         · rw[e1];exact⟨cs,b4,b3⟩
         · rw[e2 _ ?_];exact⟨cs,b4,b3⟩
           intro hjj
           have hv:=hs.get y
           rw[e1] at hv
           generalize a.tmps.getD y undef=cv at hv
           cases hv with
           | ptr _ _ b hi hb=>rw[←hjj,b1] at hb;simp at hb
       · unfold simpleZ at h2
         rw[b2] at h2
         simp only at h2
         cases hz0:(zeroB P t).bind V.flat with
         | none=>rw[hz0] at h2;simp at h2
         | some cs0 =>
          rw[hz0] at h2
          exact low_stays hL hw hs hfl h1 hz0 h2 b4 b1 b3 g1
      obtain⟨cs',b5,b6⟩:=hcs
      exact⟨by rw[hseg.boxE _ hjl];exact b1,t,cs',b2,b6,b5⟩)
     exact hop
theorem drawG_ok {far:Nat→Nat→Bool} (h:drawG C P ops far=true):DrawG C P ops (fun i=>(ancB ops).getD i []) far ∧
 (allocsOf ops=[]∨((∀o∈allocsOf ops,o.guard=none∧o.dst.isSome=true)∧((allocsOf ops).map (·.dst)).Nodup)) ∧
 (∀p1 q p2,ops.toList=p1++q::p2→isAlloc q=false→∀a∈p2,isAlloc a=true→a.apart ops q=true):=by
 unfold drawG at h
 simp only[List.all_eq_true,List.mem_range,Bool.and_eq_true] at h
 obtain⟨⟨_,h0⟩,h⟩:=h
 have hget:∀(i:Nat) (o:Oper),ops[i]? = some o→ops.getD i default=o:=fun i o ho=>by simp[Array.getD_eq_getD_getElem?,ho]
 have hlt:∀(i:Nat) (o:Oper),ops[i]? = some o→i<ops.size:=fun i o ho=>(Array.getElem?_eq_some_iff.1 ho).1
 have hmem:∀(i:Nat) (o:Oper),ops[i]? = some o→isAlloc o=true→o∈allocsOf ops:=fun i o ho ha=>by
  refine List.mem_filter.2 ⟨?_,ha⟩
  have:ops.toList[i]? = some o:=by simpa using ho
  exact List.mem_of_getElem? this
 have h1:allocsOf ops=[]∨((∀o∈allocsOf ops,o.guard=none∧o.dst.isSome=true)∧((allocsOf ops).map (·.dst)).Nodup∧∀o∈ops.toList,easyB C P ops o=true):=by
  rw[Bool.or_eq_true] at h0
  rcases h0 with h0 | h0
  · exact .inl (by simpa using h0)
  · simp only[Bool.and_eq_true,List.all_eq_true,decide_eq_true_eq,Option.isNone_iff_eq_none] at h0
    exact .inr ⟨h0.1.1,h0.1.2,h0.2⟩
 refine⟨⟨fun i o ho e he hb=>?_,fun i o ho j hj=>?_,fun i o j q ho hq hji=>?_,fun i o ho ha=>?_,fun i o j q ho hq hij ha hqa=>?_,fun i o ho hoa j q hq hqa=>?_⟩,?_,?_⟩
 · have:=(h i (hlt i o ho)).1.1
   rw[hget i o ho] at this
   have:=this e (by simpa using he)
   simpa[hb] using this
 · have:=(h i (hlt i o ho)).1.2 j hj
   rw[hget i o ho,List.any_eq_true] at this
   obtain⟨e,he,hh⟩:=this
   simp only[Bool.and_eq_true,Bool.or_eq_true,beq_iff_eq,List.contains_eq_mem,decide_eq_true_eq] at hh
   exact⟨e,by simpa using he,hh.1,hh.2⟩
 · have:=((h i (hlt i o ho)).2 j hji).2
   rw[hget i o ho,hget j q hq] at this
   rw[Bool.or_eq_true] at this
   rcases this with h1 | h1
   · exact .inl (by simpa using h1)
   · rw[Bool.and_eq_true,Bool.or_eq_true] at h1
     obtain⟨h0,h1 | h1⟩:=h1
     · exact .inr (.inl (by unfold swapG;rw[h0,h1];rfl))
     · refine .inr (.inr ⟨h0,?_⟩)
       split at h1
       · rename_i a x b y hq' ho'
         simp only[Bool.and_eq_true,bne_iff_ne,ne_eq] at h1
         obtain⟨⟨⟨g1,g2⟩,g3⟩,g4⟩:=h1
         exact⟨a,b,x,y,hq',ho',g1,g2,fun k r hr=>⟨fun e=>owns_spec g3 hr e,fun e=>owns_spec g4 hr e⟩⟩
       · simp at h1
 · rcases h1 with h1 | h1
   · have:=hmem i o ho ha;rw[h1] at this;simp at this
   · exact (h1.1 o (hmem i o ho ha)).1
 · rcases Nat.lt_or_ge j i with hji | hji
   · have:=((h i (hlt i o ho)).2 j hji).1.2
     rw[hget i o ho,hget j q hq,ha,hqa] at this
     simpa using this
   · have hij':i<j:=by omega
     have:=((h j (hlt j q hq)).2 i hij').1.2
     rw[hget i o ho,hget j q hq,ha,hqa] at this
     have h2:allocIx ops q≠allocIx ops o:=by simpa using this
     exact fun e=>h2 e.symm
 · rcases h1 with h1 | h1
   · have:=hmem j q hq hqa;rw[h1] at this;simp at this
   · have he:=h1.2.2 o (List.mem_of_getElem? (by simpa using ho:ops.toList[i]? = some o))
     unfold easyB at he
     rw[hoa] at he
     simp only[Bool.false_or,Bool.or_eq_true,decide_eq_true_eq] at he
     rcases he with (he | he) | he
     · exact .inl he
     · refine .inr (.inl ?_)
       split at he
       · rename_i y hy;exact⟨y,hy⟩
       · simp at he
     · simp only[Bool.and_eq_true,List.all_eq_true] at he
       exact .inr (.inr ⟨he.1,he.2 q (hmem j q hq hqa)⟩)
 · rcases h1 with h1 | h1
   · exact .inl h1
   · exact .inr ⟨h1.1,h1.2.1⟩
 · intro p1 q p2 e hq a ha haa
   obtain⟨k,hk⟩:=List.getElem?_of_mem ha
   have hqi:ops[p1.length]? = some q:=by
    have:ops.toList[p1.length]? = some q:=by rw[e];simp
    simpa using this
   have hai:ops[p1.length+1+k]? = some a:=by
    have:ops.toList[p1.length+1+k]? = some a:=by
     rw[e,List.getElem?_append_right (by omega),show p1.length+1+k-p1.length=k+1 by omega]
     simpa using hk
    simpa using this
   have:=((h _ (hlt _ a hai)).2 p1.length (by omega)).1.1
   rw[hget _ a hai,hget _ q hqi,haa,hq] at this
   simpa using this
theorem drawG_last {far:Nat→Nat→Bool} (h:drawG C P ops far=true):∀o∈ops.toList,lastB ops o=false:=by
 unfold drawG at h
 simp only[Bool.and_eq_true] at h
 have:=h.1.1
 unfold noLast at this
 rw[List.all_eq_true] at this
 intro o ho
 have:=this o ho
 simpa using this
theorem drawG_mono {far far':Nat→Nat→Bool} (hf:∀x y,far x y=true→far' x y=true) (h:drawG C P ops far=true):drawG C P ops far'=true:=by
 unfold drawG at h ⊢
 simp only[List.all_eq_true,List.mem_range,Bool.and_eq_true] at h ⊢
 refine⟨h.1,fun i hi=>⟨(h.2 i hi).1,fun j hj=>⟨((h.2 i hi).2 j hj).1,?_⟩⟩⟩
 have:=((h.2 i hi).2 j hj).2
 rw[Bool.or_eq_true] at this ⊢
 rcases this with h1 | h1
 · exact .inl h1
 · rw[Bool.and_eq_true,Bool.or_eq_true] at h1
   refine .inr ?_
   rw[Bool.and_eq_true,Bool.or_eq_true]
   refine⟨h1.1,?_⟩
   rcases h1.2 with h2 | h2
   · exact .inl h2
   · refine .inr ?_
     split at h2
     · simp only[Bool.and_eq_true] at h2 ⊢
       exact⟨⟨⟨h2.1.1.1,hf _ _ h2.1.1.2⟩,h2.1.2⟩,h2.2⟩
     · simp at h2
theorem region_simG {Q:Exit→Act→World→Prop} {r:Option Nat} {n':Nat} {E:Env} {w:World} {a:Act} (hC:CallOK P call) (hL:LowOK C P call) (hp:PureOK P C call) (hd:drawG C P ops (farB s')=true) (hw:WR E st w) (hY:YS E st w) (hs:SR E st w a.tmps s) (hfl:st.flo≤st.fams.length)
 (h:opsRun P call true ops (hoist ops) s st=some (s',st'))
 (hQ:∀a' w' E',a'.defers=a.defers→WR E' st' w'→SR E' st' w' a'.tmps s'→Seg E st w E' st' w'→Q .normal a' w') :
 wpAnyIn (FW r) n' P .any ops Q ops.size (Array.replicate ops.size false) a w:=by
 obtain⟨hD,hal,hap⟩:=drawG_ok hd
 have hgd:(∀o∈allocsOf ops,o.guard=none∧o.dst.isSome=true)∧((allocsOf ops).map (·.dst)).Nodup:=by
  rcases hal with hal | hal
  · rw[hal];simp
  · exact hal
 obtain⟨bs,e1,e2,e3⟩:=hoist_al (n:=st.heap.length) (B:=ops.toList.filter fun o=>!isAlloc o) (fun o ho=>⟨by simpa using (List.mem_filter.1 ho).2,drawG_last hd o (List.mem_filter.1 ho).1⟩) hgd.1 hgd.2 (allocsOf ops) [] s st rfl (by simp) h
 have e4:=unhoist hp ops.toList s _ hap e3
 obtain⟨g1,g2,g3⟩:=ghost_WR hw hfl bs
 refine draw_simG (n:=st.heap.length) (E0:=E) (st0:=st) (w0:=w) (Nat.le_refl _) hY hC hL hp hD ops.size _ (List.range ops.size) (E.ghost st.heap.length) w a s { st with heap:=st.heap++bs } st' (by simp) List.pairwise_lt_range (fun j=>?_) (by simp) (fun i hi hl=>?_) g1 (hs.step0 g3) hfl g2 ?_ ?_ hQ
 · simp only[List.mem_range]
   constructor
   · intro hj;exact⟨hj,by simp[Array.getD_eq_getD_getElem?,hj]⟩
   · exact fun hh=>hh.1
 · simp[Array.getD_eq_getD_getElem?,hi] at hl
 · intro j _ o ho hoa
   have hmem:o∈allocsOf ops:=by
    refine List.mem_filter.2 ⟨?_,hoa⟩
    have:ops.toList[j]? = some o:=by simpa using ho
    exact List.mem_of_getElem? this
   have hix:allocIx ops o<(allocsOf ops).length:=List.findIdx_lt_length_of_exists ⟨o,hmem,by simp⟩
   refine⟨by show (if _<_ then _ else none)=none;rw[if_neg (by omega)],?_⟩
   have hr:∀(A:List Oper) (bs:List Box),readyB P A=some bs→∀(k:Nat) (q:Oper),A[k]? = some q→∃t cs,q.op=.alloc t∧(zeroB P t).bind V.flat=some cs∧bs[k]? = some (Box.cells t cs):=by
    intro A
    induction A with
    | nil=>intro bs _ k q hq;simp at hq
    | cons p A ih =>
     intro bs hb k q hq
     unfold readyB at hb
     split at hb
     · rename_i t ht
       cases hz:(zeroB P t).bind V.flat with
       | none=>rw[hz] at hb;simp at hb
       | some cs =>
        cases hr:readyB P A with
        | none=>rw[hz,hr] at hb;simp at hb
        | some r =>
         rw[hz,hr] at hb
         simp only[Option.some.injEq] at hb
         subst hb
         cases k with
         | zero =>
          simp at hq
          subst hq
          exact⟨t,cs,ht,hz,rfl⟩
         | succ k =>
          obtain⟨t',cs',a1,a2,a3⟩:=ih r hr k q (by simpa using hq)
          exact⟨t',cs',a1,a2,by simpa using a3⟩
     · simp at hb
   obtain⟨q,hq⟩:∃q,(allocsOf ops)[allocIx ops o]? = some q:=⟨(allocsOf ops)[allocIx ops o],by simp[hix]⟩
   obtain⟨t,cs,a1,a2,a3⟩:=hr _ _ e1 _ q hq
   have hqo:q=o:=by
    have hqd:q.dst=o.dst:=by
     have hlt:allocIx ops o<(allocsOf ops).length:=hix
     have:=List.findIdx_getElem (p:=fun q:Oper=>q.dst==o.dst) (xs:=allocsOf ops) (w:=hlt)
     have hg:(allocsOf ops)[allocIx ops o]=q:=by
      have:=List.getElem?_eq_getElem hlt
      rw[hq] at this
      simpa using this.symm
     have h2:((allocsOf ops)[allocIx ops o].dst==o.dst)=true:=this
     rw[hg] at h2
     simpa using h2
    obtain⟨k,hk⟩:=List.getElem?_of_mem hmem
    have h3:((allocsOf ops).map (·.dst))[k]? = some o.dst:=by simp[hk]
    have h4:((allocsOf ops).map (·.dst))[allocIx ops o]? = some o.dst:=by simp[hq,hqd]
    have h5:k=allocIx ops o:=by
     have hkl:k<((allocsOf ops).map (·.dst)).length:=(List.getElem?_eq_some_iff.1 h3).1
     exact (List.getElem?_inj hkl hgd.2).1 (by rw[h3,h4])
    rw[h5,hq] at hk
    simpa using hk
   subst hqo
   exact⟨t,cs,a1,newZ_of w a2,by
    rw[List.getElem?_append_right (by omega),show st.heap.length+allocIx ops q-st.heap.length=allocIx ops q by omega]
    exact a3⟩
 · have:(List.range ops.size).map (fun i=>ops.getD i default)=ops.toList:=by
    apply List.ext_getElem (by simp)
    intro i h1 h2
    have:i<ops.size:=by simpa using h1
    simp[Array.getD_eq_getD_getElem?,this]
   rw[this]
   exact e4
end
end Go.Abs

namespace Go.Abs
open Go
section
variable {P:Program} {C:Cfg}
theorem loadRes_VR {E:Env} {st:St} {w:World} {t:TypeId} {p d:V} {v:Value} (hw:WR E st w) (hp:VR E st w v p) (h:loadB P st t p=some d) :
 ∃r,(do loadVar t (←asAddr v)).run P w=.ok r w∧VR E st w r d:=by
 obtain⟨r,h1,h2⟩:=load_VR hw hp h
 refine⟨r,?_,h2⟩
 rw[←h1]
 cases hp with
 | ptr=>rfl
 | eptr=>rfl
 | _=>simp[loadB] at h
theorem resvars_VR {E:Env} {st:St} {w:World} {ts:Array Value} {s:List V} (hw:WR E st w) (hs:SR E st w ts s):∀(l:List ResultVar) (ds:List V),
 (l.mapM fun | .tmp t=>some (s.getD t .any) | .cell a t=>loadB P st t (s.getD a .any))=some ds →
 ∃vs:List Value,(l.mapM (m:=Sem) fun | .tmp t=>pure (ts.getD t undef) | .cell a t=>do loadVar t (←asAddr (ts.getD a undef))).run P w=.ok vs w∧vs.length=ds.length ∧
  ∀k,k<ds.length→VR E st w (vs.getD k undef) (ds.getD k .dead)
 | [],ds,h=>by
  simp only[List.mapM_nil,Option.pure_def,Option.some.injEq] at h
  subst h
  exact⟨[],by simp,rfl,fun k hk=>by simp at hk⟩
 | r::l,ds,h=>by
  rw[List.mapM_cons] at h
  simp only[Option.bind_eq_bind,Option.bind_eq_some_iff,Option.pure_def,Option.some.injEq] at h
  obtain⟨d,h1,ds',h2,rfl⟩:=h
  obtain⟨vs,g1,g2,g3⟩:=resvars_VR hw hs l ds' h2
  have hone:∃v,((match r with | .tmp t=>pure (ts.getD t undef) | .cell a t=>do loadVar t (←asAddr (ts.getD a undef)):Sem Value)).run P w=.ok v w∧VR E st w v d:=by
   cases r with
   | tmp t =>
    simp only[Option.some.injEq] at h1
    subst h1
    exact⟨_,by simp only[Sem.run_pure],hs.get t⟩
   | cell a t=>exact loadRes_VR hw (hs.get a) h1
  obtain⟨v,k1,k2⟩:=hone
  refine⟨v::vs,?_,by simp[g2],fun k hk=>?_⟩
  · rw[List.mapM_cons,Sem.run_bind]
    erw [k1]
    rw[Result.andThen_ok,Sem.run_bind]
    erw [g1]
    rw[Result.andThen_ok,Sem.run_pure]
  · cases k with
    | zero=>simpa using k2
    | succ k=>simpa using g3 k (by simpa using hk)
theorem results_VR {E:Env} {st:St} {w:World} {ts:Array Value} {s:List V} {fn:Func} {v:V} (hw:WR E st w) (hs:SR E st w ts s) (h:resB P st s fn.results=some v) :
 ∃cv,(results fn ts).run P w=.ok cv w∧VR E st w cv v:=by
 unfold resB at h
 split at h
 · rename_i d heq
   simp only[Option.some.injEq] at h
   subst h
   obtain⟨vs,g1,g2,g3⟩:=resvars_VR hw hs _ _ heq
   have e:(results fn ts).run P w=.ok (if h:vs.toArray.size=1 then vs.toArray[0] else .tuple vs.toArray) w:=by
    unfold results
    rw[Sem.run_bind,Array.mapM_eq_mapM_toList,Sem.run_map]
    erw [g1]
    simp only[Result.andThen_ok,Sem.run_pure]
   have hl:vs.length=1:=by simpa using g2
   obtain⟨x,rfl⟩:=List.length_eq_one_iff.1 hl
   refine⟨x,by rw[e];simp,?_⟩
   simpa using g3 0 (by simp)
 · rename_i ds hne heq
   simp only[Option.some.injEq] at h
   subst h
   obtain⟨vs,g1,g2,g3⟩:=resvars_VR hw hs _ _ heq
   have e:(results fn ts).run P w=.ok (if h:vs.toArray.size=1 then vs.toArray[0] else .tuple vs.toArray) w:=by
    unfold results
    rw[Sem.run_bind,Array.mapM_eq_mapM_toList,Sem.run_map]
    erw [g1]
    simp only[Result.andThen_ok,Sem.run_pure]
   have hl:¬vs.toArray.size=1:=by
    intro hh
    have:ds.length=1:=by rw[←g2];simpa using hh
    obtain⟨x,hx⟩:=List.length_eq_one_iff.1 this
    exact hne x hx
   refine⟨.tuple vs.toArray,by rw[e];simp only[hl,dite_false],.tup _ _ (by simp[g2]) fun k hk=>?_⟩
   have:=g3 k hk
   simpa[Array.getD_eq_getD_getElem?,List.getD_eq_getElem?_getD] using this
 · simp at h
def AExit.to:AExit→Exit
 | .normal=>.normal
 | .exit id=>.exit id
 | .ret=>.ret
def Marks (n0:Nat) (w:World):List Deferred→Prop
 | []=>True
 | d::ms=>(∃D,d={ target:=.collected D,args:=#[] }∧n0≤D∧w.heap[D]? = some (.deferred (some []))∧∀d'∈ms,d'.target≠.collected D)∧Marks n0 w ms
theorem Marks.keep {n0:Nat} {w w':World}:∀{ms:List Deferred},Marks n0 w ms→(∀D,n0≤D→w.heap[D]? = some (.deferred (some []))→w'.heap[D]? = some (.deferred (some [])))→Marks n0 w' ms
 | [],_,_=>trivial
 | _::_,⟨⟨D,h1,h2,h3,h4⟩,h5⟩,h=>⟨⟨D,h1,h2,h D h2 h3,h4⟩,h5.keep h⟩
theorem Marks.lt {n0:Nat} {w:World}:∀{ms:List Deferred},Marks n0 w ms→∀d∈ms,∃D,d.target=.collected D∧n0≤D∧D<w.heap.size
 | [],_,d,h=>by simp at h
 | x::ms,⟨⟨D,h1,h2,h3,h4⟩,h5⟩,d,h=>by
  rcases List.mem_cons.1 h with rfl | h
  · exact⟨D,by rw[h1],h2,(Array.getElem?_eq_some_iff.1 h3).1⟩
  · exact h5.lt d h
theorem Marks.app {n0 n1:Nat} {w:World}:∀{ms ms':List Deferred},Marks n1 w ms→Marks n0 w ms'→n0≤n1→(∀d∈ms',∃D,d.target=.collected D∧D<n1)→Marks n0 w (ms++ms')
 | [],_,_,h,_,_=>h
 | x::ms,ms',⟨⟨D,h1,h2,h3,h4⟩,h5⟩,h,hle,hlt=>by
  refine⟨⟨D,h1,Nat.le_trans hle h2,h3,fun d' hd'=>?_⟩,h5.app h hle hlt⟩
  rcases List.mem_append.1 hd' with hd' | hd'
  · exact h4 d' hd'
  · obtain⟨D',e1,e2⟩:=hlt d' hd'
    rw[e1]
    intro e
    injection e with e
    omega
def DefR (w:World) (a:Act) (w':World) (a':Act):Prop:=∃ms,a'.defers=ms++a.defers∧Marks w.heap.size w' ms
theorem DefR.of_eq {w w':World} {a a':Act} (h:a'.defers=a.defers):DefR w a w' a':=⟨[],by simpa using h,trivial⟩
theorem WR.notMut {E:Env} {st:St} {w:World} (h:WR E st w) {b:Nat} {o:Obj} (hb:w.heap[b]? = some o) (hc:∀c t z,o≠.cells c t z) (hm:∀es ck,o≠.map es ck):¬Mut E st b:=by
 rintro (⟨i,_,h2,h3⟩ | ⟨F,_,h2,h3⟩)
 · have:=h.box i st.heap[i] b (List.getElem?_eq_getElem h2) h3
   cases hx:st.heap[i] with
   | cells t cs =>
    rw[hx] at this
    obtain⟨c,h4,_⟩:=this
    rw[hb] at h4
    injection h4 with h4
    exact hc _ _ _ h4
   | mapo es =>
    rw[hx] at this
    obtain⟨ents,clock,h4,_⟩:=this
    rw[hb] at h4
    injection h4 with h4
    exact hm _ _ h4
 · obtain⟨c,t,z,h4,_⟩:=h.fam F st.fams[F] (List.getElem?_eq_getElem h2)
   rw[h3,hb] at h4
   injection h4 with h4
   exact hc _ _ _ h4
theorem DefR.trans {w w1 w2:World} {a a1 a2:Act} {E1 E2:Env} {st1 st2:St} (h:DefR w a w1 a1) (h2:DefR w1 a1 w2 a2) (hsz:w.heap.size≤w1.heap.size) (hw:WR E1 st1 w1) (hs:Seg E1 st1 w1 E2 st2 w2):DefR w a w2 a2:=by
 obtain⟨ms,e1,m1⟩:=h
 obtain⟨ms2,e2,m2⟩:=h2
 refine⟨ms2++ms,by rw[e2,e1,List.append_assoc],m2.app ?_ hsz fun d hd=>?_⟩
 · refine m1.keep fun D _ hD=>?_
   exact (hs.keep D (Array.getElem?_eq_some_iff.1 hD).1 (hw.notMut hD (by simp) (by simp))).trans hD
 · obtain⟨D,g1,_,g3⟩:=m1.lt d hd
   exact⟨D,g1,g3⟩
def SimCode (P:Program) (c:Code) (s:List V) (st:St) (e:AExit) (s':List V) (st':St):Prop :=
 ∀(r:Option Nat) (n:Nat) (E:Env) (w:World) (a:Act) (Q:Exit→Act→World→Prop),(r=none∨noRange c=true)→WR E st w→YS E st w→SR E st w a.tmps s→st.flo≤st.fams.length →
  (∀a' w' E',DefR w a w' a'→WR E' st' w'→SR E' st' w' a'.tmps s'→Seg E st w E' st' w'→Q e.to a' w')→c.wpIn (FW r) n P Q a w
def SimRounds (P:Program) (k:Nat) (c:Code) (s:List V) (st:St) (e:AExit) (s':List V) (st':St):Prop :=
 ∀(r:Option Nat) (n:Nat) (E:Env) (w:World) (a:Act) (Q:Exit→Act→World→Prop),(r=none∨noRange c=true)→WR E st w→YS E st w→SR E st w a.tmps s→st.flo≤st.fams.length →
  (∀a' w' E',DefR w a w' a'→WR E' st' w'→SR E' st' w' a'.tmps s'→Seg E st w E' st' w'→Q e.to a' w')→Code.roundsIn (FW r) n P c Q k a w
theorem cell_put {w:World} {l:Nat} {o o':Obj} (h:w.heap[l]? = some o) (hc:∀c t z,o≠.cells c t z) (b off:Nat) (v:Value) (hv:w.cell? (adr b off)=some v):(w.putObj l o').cell? (adr b off)=some v:=by
 have hne:b≠l:=by
  rintro rfl
  simp only[World.cell?,adr,h] at hv
  cases o<;>first | exact absurd rfl (hc _ _ _) | simp at hv
 rw[←hv]
 simp only[World.cell?,adr,World.putObj_heap_other hne]
theorem rows_put {w:World} {l:Nat} {o o':Obj} (h:w.heap[l]? = some o) (hc:∀c t z,o≠.cells c t z) (b:Nat):rowSize w b≤rowSize (w.putObj l o') b:=by
 by_cases hb:b=l
 · subst hb
   unfold rowSize
   rw[h]
   cases o<;>first | exact absurd rfl (hc _ _ _) | exact Nat.zero_le _
 · exact Nat.le_of_eq (rowSize_of_heap (World.putObj_heap_other hb)).symm
theorem step_put {E:Env} {st:St} {w:World} {l:Nat} {o o':Obj} (h:w.heap[l]? = some o) (hc:∀c t z,o≠.cells c t z):Step [] E st w E st (w.putObj l o') where
 box i b h1 h2:=⟨h1,h2⟩
 cell t b off v _ _ hv:=cell_put h hc b off v hv
 rd t b hi _ _ hr:=hr
 tok t off sz a n cap _ _ ht:=ht.of_rows (fun F f hf=>⟨hf,rfl,rfl⟩) (rows_put h hc _)
 lp k l h1 h2:=⟨h1,h2⟩
theorem WR.put' {E:Env} {st:St} {w:World} (hw:WR E st w) {l:Nat} {o o':Obj} (h:w.heap[l]? = some o) (hc:∀c t z,o≠.cells c t z) (hm:∀es ck,o≠.map es ck):WR E st (w.putObj l o'):=by
 have S:=step_put (E:=E) (st:=st) (o':=o') h hc
 refine⟨fun i bx b hi hb=>?_,hw.inj,fun F f hf=>?_,hw.famBox,hw.famInj⟩
 · have:=hw.box i bx b hi hb
   refine this.step0 S (World.putObj_heap_other ?_)
   rintro rfl
   cases bx with
   | cells t cs =>
    obtain⟨c,h4,_⟩:=this
    rw[h] at h4
    injection h4 with h4
    exact hc _ _ _ h4
   | mapo es =>
    obtain⟨ents,clock,h4,_⟩:=this
    rw[h] at h4
    injection h4 with h4
    exact hm _ _ h4
 · obtain⟨c,t,z,h4,h5⟩:=hw.fam F f hf
   refine⟨c,t,z,(World.putObj_heap_other ?_).trans h4,h5⟩
   intro e
   rw[e,h] at h4
   injection h4 with h4
   exact hc _ _ _ h4
theorem Seg.put_new {E E':Env} {st st':St} {w w':World} (hs:Seg E st w E' st' w') {D:Nat} {o o':Obj} (hD:w.heap.size≤D) (h:w'.heap[D]? = some o) (hc:∀c t z,o≠.cells c t z):Seg E st w E' st' (w'.putObj D o') where
 step:=hs.step.trans hs.size ((step_put (E:=E') (st:=st') (o':=o') h hc).more (fun F hF=>by simp at hF))
 size:=by rw[World.putObj_size];exact hs.size
 keep b hb hm:=(World.putObj_heap_other (by omega)).trans (hs.keep b hb hm)
 muts:=hs.muts
 lo:=hs.lo
 flo:=hs.flo
 hlen:=hs.hlen
 flen:=hs.flen
 fams:=hs.fams
 kills:=hs.kills
 boxE:=hs.boxE
 quiet:=⟨hs.quiet.os,hs.quiet.output⟩
 y:=hs.y
theorem Seg.round {E E1 E2:Env} {st st1 st2:St} {w w1 w3:World} {l:Nat} {o o' o3:Obj} (S1:Seg E st w E1 st1 w1) (hl:w.heap[l]? = some o) (hc:∀c t z,o≠.cells c t z) (hm:¬Mut E st l)
 (S2:Seg E1 st1 (w1.putObj l o') E2 st2 w3) (h3:w3.heap[l]? = some o3) (hc3:∀c t z,o3≠.cells c t z):Seg E st w E2 st2 (w3.putObj l o) where
 step:=by
  have hlt:l<w.heap.size:=(Array.getElem?_eq_some_iff.1 hl).1
  have h1:w1.heap[l]? = some o:=(S1.keep l hlt hm).trans hl
  have a1:=(S1.step.more S2.kills).trans S1.size ((step_put (E:=E1) (st:=st1) (o':=o') h1 hc).more (fun F hF=>by simp at hF))
  have a2:=a1.trans (by rw[World.putObj_size];exact S1.size) S2.step
  exact a2.trans (Nat.le_trans S1.size (by have:=S2.size;rwa [World.putObj_size] at this)) ((step_put (E:=E2) (st:=st2) (o':=o) h3 hc3).more (fun F hF=>by simp at hF))
 size:=by
  have:=S2.size
  rw[World.putObj_size] at this ⊢
  exact Nat.le_trans S1.size this
 keep b hb hmu:=by
  have hlt:l<w.heap.size:=(Array.getElem?_eq_some_iff.1 hl).1
  have hb1:b<w1.heap.size:=Nat.lt_of_lt_of_le hb S1.size
  by_cases hbl:b=l
  · subst hbl
    rw[World.putObj_heap_same (Array.getElem?_eq_some_iff.1 h3).1,hl]
  · rw[World.putObj_heap_other hbl,S2.keep b (by rw[World.putObj_size];exact hb1) (fun h=>hmu (S1.muts b hb h)),World.putObj_heap_other hbl]
    exact S1.keep b hb hmu
 muts b hb h:=S1.muts b hb (S2.muts b (by rw[World.putObj_size];exact Nat.lt_of_lt_of_le hb S1.size) h)
 lo:=S2.lo.trans S1.lo
 flo:=S2.flo.trans S1.flo
 hlen:=Nat.le_trans S1.hlen S2.hlen
 flen:=Nat.le_trans S1.flen S2.flen
 fams F hF:=by
  obtain⟨a,b,b'⟩:=S1.fams F hF
  obtain⟨c,d,d'⟩:=S2.fams F (by rw[S1.flo];exact hF)
  exact⟨c.trans a,d.trans b,d'.trans b'⟩
 kills F hF:=S2.kills F (S1.kills F hF)
 boxE i hi:=(S2.boxE i (Nat.lt_of_lt_of_le hi S1.hlen)).trans (S1.boxE i hi)
 quiet:=⟨S2.quiet.os.trans S1.quiet.os,S2.quiet.output.trans S1.quiet.output⟩
 y:=S2.y.trans S1.y
theorem roundS_SR {E:Env} {st:St} {w:World}:∀(ps:List Tmp) (args:List V) (vs:List Value) (ts:Array Value) (s:List V),vs.length=args.length→SR E st w ts s →
 (∀k,k<args.length→VR E st w (vs.getD k undef) (args.getD k .dead)) →
 SR E st w ((ps.zip vs).foldl (fun tmps (t,a)=>tmps.setIfInBounds t a) ts) ((ps.zip args).foldl (fun s p=>s.set p.1 p.2) s)
 | [],_,_,_,_,_,h,_=>by simpa using h
 | _::_,[],[],_,_,_,h,_=>by simpa using h
 | _::_,[],_::_,_,_,hl,_,_=>by simp at hl
 | _::_,_::_,[],_,_,hl,_,_=>by simp at hl
 | p::ps,x::args,v::vs,ts,s,hl,h,hv=>by
  simp only[List.zip_cons_cons,List.foldl_cons]
  refine roundS_SR ps args vs _ _ (by simpa using hl) ?_ fun k hk=>?_
  · have h0:=hv 0 (by simp)
    simp only[List.getD_cons_zero] at h0
    have:=SR.put (ts:=ts) (s:=s) h h0 (some p) []
    simpa[putS,Act.put] using this
  · simpa using hv (k+1) (by simpa using hk)
structure ExtOK (P:Program) (C:Cfg):Prop where
 mixed:P.follows .mixedOrders=true
 ext:∀f A args st v st',C.ext f=some A→A args st=some (v,st')→SimCall P f args st v st'
 still:∀f A args st v st',C.ext f=some A→C.keep f=false→A args st=some (v,st')→st'=st
theorem okTok_leave {st st1:St} {t:Tok} (h:okTok (st.leave st1).kills t):okTok st1.kills t∨∃F ep,t=.own F ep∧st.fams.length≤F:=by
 cases t with
 | own F ep =>
  simp only[okTok,Tok.dies,St.leave,List.contains_eq_mem,decide_eq_false_iff_not,List.mem_filter,Bool.or_eq_true,decide_eq_true_eq,not_and,not_or] at h ⊢
  by_cases hm:F∈st1.kills
  · exact .inr ⟨F,ep,rfl,Nat.not_lt.1 (h hm).1⟩
  · exact .inl hm
 | _=>exact .inl rfl
theorem Rd.far {E:Env} {st:St} {F ep b hi:Nat} (hF:st.fams.length≤F) (h:Rd E st (.own F ep) b hi):Rd E st .ro b hi:=by
 refine⟨h.1,fun G g hg hb=>?_⟩
 obtain⟨⟨ep',e⟩,_⟩:=h.2 G g hg hb
 cases e
 rw[List.getElem?_eq_none hF] at hg
 cases hg
theorem Rd.any_ro {E:Env} {st:St} {t:Tok} {b hi:Nat} (h:Rd E st .ro b hi):Rd E st t b hi:=by
 refine⟨h.1,fun G g hg hb=>?_⟩
 obtain⟨⟨_,e⟩,_⟩:=h.2 G g hg hb
 cases e
theorem Seg.leave {E E':Env} {st st1:St} {w w':World} (h:Seg E st w E' st1 w'):Seg E st w E' (st.leave st1) w' where
 step:=by
  refine⟨h.step.box,fun t b off v hk hr hc=>?_,fun t b hi hk hb hr=>?_,fun t off sz a n cap hk ha ht=>?_,h.step.lp⟩
  · rcases okTok_leave hk with h1 | ⟨F,ep,rfl,hF⟩
    · exact h.step.cell t b off v h1 hr hc
    · exact h.step.cell .ro b off v rfl (hr.far hF) hc
  · rcases okTok_leave hk with h1 | ⟨F,ep,rfl,hF⟩
    · exact h.step.rd t b hi h1 hb hr
    · exact (h.step.rd .ro b hi rfl hb (hr.far hF)).any_ro
  · rcases okTok_leave hk with h1 | ⟨F,ep,rfl,hF⟩
    · exact h.step.tok t off sz a n cap h1 ha ht
    · obtain⟨f,hf,_⟩:=ht
      rw[List.getElem?_eq_none hF] at hf
      cases hf
 size:=h.size
 keep:=h.keep
 muts:=h.muts
 lo:=h.lo
 flo:=h.flo
 hlen:=h.hlen
 flen:=h.flen
 fams:=h.fams
 kills F hF:=List.mem_filter.2 ⟨h.kills F hF,by simp[hF]⟩
 boxE:=h.boxE
 quiet:=h.quiet
 y:=h.y
theorem SimCall.low {f:FuncId} {args:List V} {st st':St} {v:V} (h:SimCall P f args { st with lo:=st.heap.length,y:=none } v st'):SimCall P f args st v { st' with lo:=st.lo,y:=st.y }:=by
 intro E w vs hw hY hfl hl hv
 refine Calls.mono (h E w vs (hw.same rfl rfl) (YS.none rfl) hfl hl (fun k hk=>(hv k hk).same rfl rfl)) ?_
 rintro e w' ⟨cv,E',rfl,hv',hw',hseg⟩
 have hm:∀b,Mut E { st with lo:=st.heap.length,y:=none } b→Mut E st b:=by
  rintro b (⟨i,h1,h2,_⟩ | h1)
  · simp only at h1 h2;omega
  · exact .inr h1
 refine⟨cv,E',rfl,hv'.same rfl rfl,hw'.same rfl rfl,?_,hseg.size,fun b hb h=>hseg.keep b hb fun h'=>h (hm b h'),?_,rfl,hseg.flo,hseg.hlen,hseg.flen,hseg.fams,hseg.kills,hseg.boxE,hseg.quiet,rfl⟩
 · exact (((step_same (E:=E) (w:=w) (st:=st) (st':={ st with lo:=st.heap.length,y:=none }) rfl rfl).more (fun F hF=>by simp at hF)).trans (Nat.le_refl _) hseg.step).trans hseg.size
    ((step_same (E:=E') (w:=w') (st:=st') (st':={ st' with lo:=st.lo,y:=st.y }) rfl rfl).more (fun F hF=>by simp at hF))
 · rintro b hb (⟨i,h1,h2,h3⟩ | h1)
   · rcases Nat.lt_or_ge i st.heap.length with hi | hi
     · rw[hseg.boxE i hi] at h3
       exact .inl ⟨i,h1,hi,h3⟩
     · exact hm b (hseg.muts b hb (.inl ⟨i,by rw[hseg.lo];exact hi,h2,h3⟩))
   · exact hm b (hseg.muts b hb (.inr h1))
def St.below (st:St):St:={ st with lo:=st.heap.length,flo:=st.fams.length,kills:=[],y:=none }
theorem pure_call {E:Env} {st st1:St} {w:World} {v:V} (hw:WR E st w) (hfl:st.flo≤st.fams.length) (hu:v.under st.heap.length=true) {E':Env} {w':World} {cv:Value}
 (hv:VR E' st1 w' cv v) (hseg:Seg E st.below w E' st1 w'):VR E st w' cv (v.freeze st.fams.length)∧WR E st w'∧Seg E st w E st w':=by
 have hB:Blw w w':=⟨hseg.size,fun b hb=>hseg.keep b hb (by
  rintro (⟨i,h1,h2,_⟩ | ⟨F,h1,h2,_⟩)
  · simp only[St.below] at h1 h2;omega
  · simp only[St.below] at h1 h2;omega),hseg.quiet⟩
 exact⟨(hv.freeze hseg.hlen (fun i hi=>hseg.boxE i hi) (fun F hF=>hseg.fams F hF) hu).same rfl rfl,hw.blw hB,seg_blw hB hfl⟩
theorem enter_SR {E:Env} {st:St} {w:World} {vs:Array Value} {args:List V} (n:Nat) (hl:vs.size=args.length) (hv:∀k,k<args.length→VR E st w (vs.getD k undef) (args.getD k .dead)) :
 SR E st w (vs++Array.replicate (n-vs.size) undef) (args++List.replicate (n-args.length) (.tup [])):=by
 refine⟨by simp[hl],fun i hi=>?_⟩
 rw[getD_append,lgetD_append,hl]
 split
 · rename_i hlt
   have e:args.getD i .any=args.getD i .dead:=by simp[List.getD_eq_getElem?_getD,hlt]
   rw[e]
   exact hv i hlt
 · have hlt:i-args.length<n-args.length:=by simp at hi;omega
   have e1:(Array.replicate (n-args.length) undef).getD (i-args.length) undef=undef:=by
    simp[Array.getD_eq_getD_getElem?,hlt]
   have e2:(List.replicate (n-args.length) (V.tup [])).getD (i-args.length) .any=.tup []:=by
    simp[List.getD_eq_getElem?_getD,hlt]
   rw[e1,e2]
   exact undef_VR E st w
theorem run_ret_pure {k:Nat} {f:FuncId} {args:List V} {st st':St} {v:V} (hX:ExtOK P C) (hlt:f<P.funcs.size) (hk:C.keep f=false) (h:run C P k (.call f args st)=some (.ret v st')):st'=st:=by
 cases k with
 | zero=>simp[run] at h
 | succ k =>
  unfold run at h
  rw[if_neg (Nat.not_le.2 hlt)] at h
  cases hx:C.ext f with
  | some A =>
   rw[hx] at h
   simp only at h
   cases hA:A args st with
   | none=>rw[hA] at h;simp at h
   | some r1 =>
    obtain⟨v1,st1⟩:=r1
    rw[hA] at h
    simp only[Option.map_some,Option.some.injEq,Res.ret.injEq] at h
    obtain⟨rfl,rfl⟩:=h
    exact hX.still f A args st _ _ hx hk hA
  | none =>
   rw[hx] at h
   simp only at h
   cases hf:P.funcs[f]? with
   | none=>rw[hf] at h;simp at h
   | some fn =>
    rw[hf] at h
    simp only at h
    cases hb:fn.body with
    | none=>rw[hb] at h;simp at h
    | some c =>
     rw[hb] at h
     simp only[hk,Bool.false_eq_true,if_false] at h
     split at h
     rotate_left
     · simp at h
     split at h
     · simp at h
     · split at h
       · split at h
         · simp only[Option.some.injEq,Res.ret.injEq] at h;exact h.2.symm
         · simp at h
       · simp at h
     · simp at h
theorem leavesM_mono {F:Fence} {n:Nat} {fn:Func} {tmps:Array Value} {R R':Ending→World→Prop} (hR:∀e w,R e w→R' e w):∀{ms:List Deferred} {w:World},(∀d∈ms,∃D,d.target=.collected D)→LeavesInM F n P fn tmps R ms .returning w→LeavesInM F n P fn tmps R' ms .returning w
 | [],w,_,⟨v,h1,h2⟩=>⟨v,h1,hR _ _ h2⟩
 | d::ms,w,hd,⟨h1,h2⟩=>by
  refine⟨h1,?_⟩
  rcases h2 with ⟨r,w',e1,e2,e3⟩ | ⟨_,fv,cap,f,args,e1,_⟩
  · exact .inl ⟨r,w',e1,e2,leavesM_mono hR (fun d' hd'=>hd d' (List.mem_cons_of_mem _ hd')) e3⟩
  · obtain⟨D,hD⟩:=hd d (by simp)
    rw[hD] at e1
    cases e1
theorem leave_marks {F:Fence} {n:Nat} {E:Env} {st:St} {w:World} {s1:List V} {st1:St} {fn:Func} {v1:V} {ts:Array Value} {E':Env} (hrs:resB P st1 s1 fn.results=some v1):∀(ms:List Deferred) (w':World),WR E' st1 w'→SR E' st1 w' ts s1→Seg E st w E' st1 w'→Marks w.heap.size w' ms →
 LeavesInM F n P fn ts (fun e w'=>∃cv E',e=.returned cv∧VR E' st1 w' cv v1∧WR E' st1 w'∧Seg E st w E' st1 w') ms .returning w'
 | [],w',hw',hs',hseg,_=>by
  obtain⟨cv,r1,r2⟩:=results_VR hw' hs' hrs
  exact⟨cv,r1,cv,E',rfl,r2,hw',hseg⟩
 | d::ms,w',hw',hs',hseg,⟨⟨D,h1,h2,h3,h4⟩,h5⟩=>by
  refine⟨by simp,.inl ⟨D,w'.putObj D (.deferred none),by rw[h1],run_takeDeferred h3,?_⟩⟩
  have S:=step_put (E:=E') (st:=st1) (o':=.deferred none) h3 (by simp)
  refine leave_marks hrs ms _ (hw'.put' h3 (by simp) (by simp)) (hs'.step0 S) (hseg.put_new h2 h3 (by simp)) ?_
  clear hs' S hseg hw'
  induction ms with
  | nil=>trivial
  | cons x ms ih =>
   obtain⟨⟨D',k1,k2,k3,k4⟩,k5⟩:=h5
   refine⟨⟨D',k1,k2,?_,k4⟩,ih (fun d' hd'=>h4 d' (List.mem_cons_of_mem _ hd')) k5⟩
   rw[World.putObj_heap_other]
   · exact k3
   · rintro rfl
     exact h4 x (by simp) (by rw[k1])
theorem sim (hX:ExtOK P C):∀k,
 (∀f args st v st',run C P k (.call f args st)=some (.ret v st')→(f<P.funcs.size→SimCall P f args st v st')∧∀j,f=P.funcs.size+j→SimYield P j args st v st') ∧
 (∀c s st e s' st',run C P k (.code c s st)=some (.out e s' st')→SimCode P c s st e s' st') ∧
 (∀c s st e s' st',run C P k (.code (.loop c) s st)=some (.out e s' st')→SimRounds P k c s st e s' st'):=by
 intro k
 induction k with
 | zero=>exact⟨fun _ _ _ _ _ h=>by simp[run] at h,fun _ _ _ _ _ _ h=>by simp[run] at h,fun _ _ _ _ _ _ h=>by simp[run] at h⟩
 | succ k ih =>
  obtain⟨ihc,ihd,ihl⟩:=ih
  have hrounds:∀c s st e s' st',run C P (k+1) (.code (.loop c) s st)=some (.out e s' st')→SimRounds P (k+1) c s st e s' st':=by
   intro c s st e s' st' h r n E w a Q hnr hw hY hs hfl hQ
   unfold run at h
   simp only at h
   rw[roundsIn_succ]
   cases hrr:run C P k (.code c s st) with
   | none=>rw[hrr] at h;simp at h
   | some rs =>
    rw[hrr] at h
    cases rs with
    | ret v st1=>simp at h
    | out e1 s1 st1 =>
     refine ihd _ _ _ _ _ _ hrr r n E w a _ hnr hw hY hs hfl fun a' w' E' hd hw' hs' hseg=>?_
     cases e1 with
     | normal =>
      simp only at h
      simp only[AExit.to,Exit.then]
      exact ihl _ _ _ _ _ _ h r n E' w' a' Q hnr hw' (hY.seg hseg) hs' (hseg.flo_le hfl) fun a2 w2 E2 hd2 hw2 hs2 hseg2=>hQ a2 w2 E2 (hd.trans hd2 hseg.size hw' hseg2) hw2 hs2 (hseg.trans hseg2)
     | exit id =>
      simp only[Option.some.injEq,Res.out.injEq] at h
      obtain⟨rfl,rfl,rfl⟩:=h
      exact hQ a' w' E' hd hw' hs' hseg
     | ret =>
      simp only[Option.some.injEq,Res.out.injEq] at h
      obtain⟨rfl,rfl,rfl⟩:=h
      exact hQ a' w' E' hd hw' hs' hseg
  refine⟨?_,?_,hrounds⟩
  ·
   intro f args st v st' h
   unfold run at h
   refine⟨fun hlt=>?_,fun j hj=>?_⟩
   rotate_left
   ·
    subst hj
    rw[if_pos (Nat.le_add_right _ _)] at h
    intro E w vs hw hY hfl hl hv
    cases hy:st.y with
    | none=>rw[hy] at h;simp at h
    | some y =>
     rw[hy] at h
     simp only at h
     split at h
     rotate_left
     · simp at h
     rename_i hcnd
     obtain⟨hk1,hk2⟩:=hcnd
     have hkj:y.k=j:=by omega
     subst hkj
     split at h
     rotate_left
     · simp at h
     rename_i s1 st1 hr1
     split at h
     rotate_left
     · simp at h
     rename_i s2 st2 hr2
     simp only[Option.some.injEq,Res.ret.injEq] at h
     obtain⟨rfl,rfl⟩:=h
     obtain⟨l,rec,E0,st0,w0,g1,g2,g3,g4,g5,g6,g7,g8,g9,g10,g11,g12,g13,g14⟩:=hY y hy
     refine⟨l,rec,g2,g3,by rw[g7,hl,hk2],fun r n=>?_⟩
     refine roundIn_of_wpIn trivial ?_
     rw[g8,g9]
     have hsr0:SR E st w rec.tmps (V.kills st.kills y.s0):=g12.step g14.step
     have hst:∀{v:Value} {d:V},VR E st w v d→VR E { st with kills:=[],y:=none } w v d:=fun h=>h.same rfl rfl
     have hsr:SR E { st with kills:=[],y:=none } w ((rec.params.zip vs).foldl (fun tmps (t,a)=>tmps.setIfInBounds t a) rec.tmps) (roundS (killAll st.kills y.s0) y.ps args):=by
      unfold roundS
      rw[kill_all,g7,←Array.foldl_toList,Array.toList_zip]
      refine roundS_SR y.ps.toList args vs.toList rec.tmps _ (by simpa using hl) (hsr0.same rfl rfl) fun k hk=>?_
      have:=hst (hv k hk)
      simpa[Array.getD_eq_getD_getElem?,List.getD_eq_getElem?_getD] using this
     have hwc:WR E { st with kills:=[],y:=none } w:=hw.same rfl rfl
     refine ihd _ _ _ _ _ _ hr1 (some l) n E w _ _ (.inr g10) hwc (YS.none rfl) hsr hfl fun a1 w1 E1 hd1 hw1 hs1 hseg1=>?_
     simp only[AExit.to,Exit.then]
     have hl1:w1.heap[l]? = some (.loop rec):=(hseg1.keep l (Array.getElem?_eq_some_iff.1 g3).1 g4).trans g3
     refine⟨_,run_beginRound hl1 g5,?_⟩
     have hwb:=hw1.put' (o':=.loop { rec with state:=.busy }) hl1 (by simp) (by simp)
     have hsb:=step_put (E:=E1) (st:=st1) (o':=.loop { rec with state:=.busy }) hl1 (by simp)
     have hlb:(w1.putObj l (.loop { rec with state:=.busy })).heap[l]? = some (.loop { rec with state:=.busy }):=World.putObj_heap_same (Array.getElem?_eq_some_iff.1 hl1).1
     have hnb:¬Mut E1 st1 l:=hwb.notMut hlb (by simp) (by simp)
     have hy1:st1.y=none:=hseg1.y
     refine ihd _ _ _ _ _ _ hr2 (some l) n E1 _ a1 _ (.inr g11) hwb (YS.none hy1) (hs1.step0 hsb) (by rw[hseg1.flo];exact Nat.le_trans hfl hseg1.flen) fun a2 w2 E2 hd2 hw2 hs2 hseg2=>?_
     have hl2:w2.heap[l]? = some (.loop { rec with state:=.busy }):=(hseg2.keep l (by rw[World.putObj_size];exact (Array.getElem?_eq_some_iff.1 hl1).1) hnb).trans hlb
     have hend:=run_endRound (P:=P) none hl2
     have hrec:({ rec with state:=.ready,pending:=none }:Loop)=rec:=by cases rec;simp_all
     refine⟨_,_,hend,.bool true,E2,rfl,?_,?_,?_⟩
     · exact .bool true
     · exact hw2.put' hl2 (by simp) (by simp)
     · simp only[Option.isNone_none,if_true,hrec]
       exact Seg.round hseg1 g3 (by simp) g4 hseg2 hl2 (by simp)
   rw[if_neg (Nat.not_le.2 hlt)] at h
   intro E w vs hw hY hfl hl hv
   cases hx:C.ext f with
   | some A =>
    rw[hx] at h
    simp only at h
    cases hA:A args st with
    | none=>rw[hA] at h;simp at h
    | some r =>
     obtain⟨v1,st1⟩:=r
     rw[hA] at h
     simp only[Option.map_some,Option.some.injEq,Res.ret.injEq] at h
     obtain⟨rfl,rfl⟩:=h
     exact hX.ext f A args st _ _ hx hA E w vs hw hY hfl hl hv
   | none =>
    rw[hx] at h
    simp only at h
    cases hf:P.funcs[f]? with
    | none=>rw[hf] at h;simp at h
    | some fn =>
     rw[hf] at h
     simp only at h
     cases hb:fn.body with
     | none=>rw[hb] at h;simp at h
     | some c =>
      rw[hb] at h
      simp only at h
      split at h
      rotate_left
      · simp at h
      have hsr:=enter_SR fn.ntmps hl hv
      refine (callsFW (r:=none) (n:=0)).1 (callsIn_of_wp_marks hf hb trivial ?_ rfl)
      cases hk:C.keep f with
      | true =>
       simp only[hk,if_true] at h
       cases hrr:run C P k (.code c (args++List.replicate (fn.ntmps-args.length) (.tup [])) st) with
       | none=>rw[hrr] at h;simp at h
       | some rs =>
        rw[hrr] at h
        cases rs with
        | ret v1 st1=>simp at h
        | out e s1 st1 =>
         have key:∃v1,resB P st1 s1 fn.results=some v1∧v1=v∧st.leave st1=st'∧(e=.normal∨e=.ret):=by
          cases e with
          | exit id=>simp at h
          | normal =>
           simp only at h
           cases hrs:resB P st1 s1 fn.results with
           | none=>rw[hrs] at h;simp at h
           | some v1 =>
            rw[hrs] at h
            simp only[Option.map_some,Option.some.injEq,Res.ret.injEq] at h
            exact⟨v1,rfl,h.1,h.2,.inl rfl⟩
          | ret =>
           simp only at h
           cases hrs:resB P st1 s1 fn.results with
           | none=>rw[hrs] at h;simp at h
           | some v1 =>
            rw[hrs] at h
            simp only[Option.map_some,Option.some.injEq,Res.ret.injEq] at h
            exact⟨v1,rfl,h.1,h.2,.inr rfl⟩
         obtain⟨v1,hrs,rfl,rfl,he⟩:=key
         refine ihd _ _ _ _ _ _ hrr none 0 E w _ _ (.inl rfl) hw hY hsr hfl fun a' w' E' hd hw' hs' hseg=>?_
         have post:LeavesInM (FW none) 0 P fn a'.tmps (fun e w'=>∃cv E',e=.returned cv∧VR E' (st.leave st1) w' cv v1∧WR E' (st.leave st1) w'∧Seg E st w E' (st.leave st1) w') a'.defers .returning w':=by
          obtain⟨ms,e1,e2⟩:=hd
          rw[show ({ tmps:=_,defers:=[] }:Act).defers=[] from rfl,List.append_nil] at e1
          rw[e1]
          refine leavesM_mono ?_ (fun d hd=>(e2.lt d hd).imp fun D h=>h.1) (leave_marks hrs ms w' hw' hs' hseg e2)
          rintro e w2 ⟨cv,E2,rfl,r2,hw2,hseg2⟩
          exact⟨cv,E2,rfl,r2.same rfl rfl,hw2.same rfl rfl,hseg2.leave⟩
         rcases he with rfl | rfl<;>exact post
      | false =>
       simp only[hk,Bool.false_eq_true,if_false] at h
       cases hrr:run C P k (.code c (args++List.replicate (fn.ntmps-args.length) (.tup [])) { st with lo:=st.heap.length,flo:=st.fams.length,kills:=[],y:=none }) with
       | none=>rw[hrr] at h;simp at h
       | some rs =>
        rw[hrr] at h
        cases rs with
        | ret v1 st1=>simp at h
        | out e s1 st1 =>
         have key:∃v1,resB P st1 s1 fn.results=some v1∧v1.under st.heap.length=true∧v1.freeze st.fams.length=v∧st=st'∧(e=.normal∨e=.ret):=by
          have go:(match resB P st1 s1 fn.results with
           | some v=>if v.under st.heap.length then some (Res.ret (v.freeze st.fams.length) st) else none
           | none=>none)=some (Res.ret v st')→∃v1,resB P st1 s1 fn.results=some v1∧v1.under st.heap.length=true∧v1.freeze st.fams.length=v∧st=st':=by
           intro h
           cases hrs:resB P st1 s1 fn.results with
           | none=>rw[hrs] at h;simp at h
           | some v1 =>
            rw[hrs] at h
            simp only at h
            split at h
            · rename_i hu
              simp only[Option.some.injEq,Res.ret.injEq] at h
              exact⟨v1,rfl,hu,h.1,h.2⟩
            · simp at h
          cases e with
          | exit id=>simp at h
          | normal=>obtain⟨v1,g1,g2,g3,g4⟩:=go h;exact⟨v1,g1,g2,g3,g4,.inl rfl⟩
          | ret=>obtain⟨v1,g1,g2,g3,g4⟩:=go h;exact⟨v1,g1,g2,g3,g4,.inr rfl⟩
         obtain⟨v1,hrs,hu,rfl,rfl,he⟩:=key
         refine ihd _ _ _ _ _ _ hrr none 0 E w _ _ (.inl rfl) (hw.same rfl rfl) (YS.none rfl) (hsr.same rfl rfl) (Nat.le_refl _) fun a' w' E' hd hw' hs' hseg=>?_
         have post:LeavesInM (FW none) 0 P fn a'.tmps (fun e w'=>∃cv E',e=.returned cv∧VR E' st w' cv (v1.freeze st.fams.length)∧WR E' st w'∧Seg E st w E' st w') a'.defers .returning w':=by
          obtain⟨ms,e1,e2⟩:=hd
          rw[show ({ tmps:=_,defers:=[] }:Act).defers=[] from rfl,List.append_nil] at e1
          rw[e1]
          refine leavesM_mono ?_ (fun d hd=>(e2.lt d hd).imp fun D h=>h.1) (leave_marks hrs ms w' hw' hs' hseg e2)
          rintro e w2 ⟨cv,E2,rfl,r2,hw2,hseg2⟩
          obtain⟨p1,p2,p3⟩:=pure_call hw hfl hu r2 hseg2
          exact⟨cv,E,rfl,p1,p2,p3⟩
         rcases he with rfl | rfl<;>exact post
  ·
   intro c s st e s' st' h r n E w a Q hnr hw hY hs hfl hQ
   cases c with
   | skip =>
    unfold run at h
    simp only[Option.some.injEq,Res.out.injEq] at h
    obtain⟨rfl,rfl,rfl⟩:=h
    exact wpIn_skip (hQ a w E (.of_eq rfl) hw hs (.refl _ _ _))
   | label l =>
    unfold run at h
    simp only[Option.some.injEq,Res.out.injEq] at h
    obtain⟨rfl,rfl,rfl⟩:=h
    exact wpIn_label (hQ a w E (.of_eq rfl) hw hs (.refl _ _ _))
   | ret =>
    unfold run at h
    simp only[Option.some.injEq,Res.out.injEq] at h
    obtain⟨rfl,rfl,rfl⟩:=h
    exact wpIn_ret (hQ a w E (.of_eq rfl) hw hs (.refl _ _ _))
   | exit id =>
    unfold run at h
    simp only[Option.some.injEq,Res.out.injEq] at h
    obtain⟨rfl,rfl,rfl⟩:=h
    exact wpIn_exit (hQ a w E (.of_eq rfl) hw hs (.refl _ _ _))
   | seq x y =>
    unfold run at h
    simp only at h
    refine wpIn_seq ?_
    cases hrr:run C P k (.code x s st) with
    | none=>rw[hrr] at h;simp at h
    | some rs =>
     rw[hrr] at h
     cases rs with
     | ret v st1=>simp at h
     | out e1 s1 st1 =>
      refine ihd _ _ _ _ _ _ hrr r n E w a _ (hnr.imp_right fun h=>by simp only[noRange,Bool.and_eq_true] at h;exact h.1) hw hY hs hfl fun a' w' E' hd hw' hs' hseg=>?_
      cases e1 with
      | normal =>
       simp only at h
       simp only[AExit.to,Exit.then]
       exact ihd _ _ _ _ _ _ h r n E' w' a' Q (hnr.imp_right fun h=>by simp only[noRange,Bool.and_eq_true] at h;exact h.2) hw' (hY.seg hseg) hs' (hseg.flo_le hfl) fun a2 w2 E2 hd2 hw2 hs2 hseg2=>hQ a2 w2 E2 (hd.trans hd2 hseg.size hw' hseg2) hw2 hs2 (hseg.trans hseg2)
      | exit id =>
       simp only[Option.some.injEq,Res.out.injEq] at h
       obtain⟨rfl,rfl,rfl⟩:=h
       exact hQ a' w' E' hd hw' hs' hseg
      | ret =>
       simp only[Option.some.injEq,Res.out.injEq] at h
       obtain⟨rfl,rfl,rfl⟩:=h
       exact hQ a' w' E' hd hw' hs' hseg
   | cond c x y =>
    unfold run at h
    simp only at h
    have hc:=ev_VR hs c
    generalize hcv:ev s c=cv at h hc
    generalize hcc:a.eval c=cc at hc
    cases hc with
    | bool b =>
     simp only at h
     exact wpIn_cond hcc (ihd _ _ _ _ _ _ h r n E w a Q (hnr.imp_right fun hh=>by
      simp only[noRange,Bool.and_eq_true] at hh
      cases b
      · exact hh.2
      · exact hh.1) hw hY hs hfl hQ)
    | _=>simp at h
   | scope c =>
    unfold run at h
    simp only at h
    have hr:r=none:=by
     rcases hnr with hr | hr
     · exact hr
     · simp[noRange] at hr
    subst hr
    refine (wpIn_wide (n:=n)).2 (wp_scope_straight ((wpIn_wide (n:=n)).1 (ihd _ _ _ _ _ _ h none n E w a _ (.inl rfl) hw hY hs hfl fun a' w' E' hd hw' hs' hseg=>?_)))
    have:=hQ a' w' E' hd hw' hs' hseg
    cases e with
    | normal=>exact this
    | exit id=>exact this
    | ret=>exact this
   | block id c =>
    unfold run at h
    simp only at h
    refine wpIn_block ?_
    cases hrr:run C P k (.code c s st) with
    | none=>rw[hrr] at h;simp at h
    | some rs =>
     rw[hrr] at h
     cases rs with
     | ret v st1=>simp at h
     | out e1 s1 st1 =>
      refine ihd _ _ _ _ _ _ hrr r n E w a _ hnr hw hY hs hfl fun a' w' E' hd hw' hs' hseg=>?_
      cases e1 with
      | exit id' =>
       simp only[Option.some.injEq,Res.out.injEq] at h
       obtain⟨he,rfl,rfl⟩:=h
       have:=hQ a' w' E' hd hw' hs' hseg
       simp only[AExit.to,Exit.inBlock]
       split
       · rename_i hid;simp only[hid,if_true] at he;subst he;exact this
       · rename_i hid;simp only[hid,if_false] at he;subst he;exact this
      | normal =>
       simp only[Option.some.injEq,Res.out.injEq] at h
       obtain⟨rfl,rfl,rfl⟩:=h
       exact hQ a' w' E' hd hw' hs' hseg
      | ret =>
       simp only[Option.some.injEq,Res.out.injEq] at h
       obtain⟨rfl,rfl,rfl⟩:=h
       exact hQ a' w' E' hd hw' hs' hseg
   | loop c=>exact wpIn_loop_rounds (k+1) (hrounds c s st e s' st' h r n E w a Q hnr hw hY hs hfl hQ)
   | region id ops d =>
    unfold run at h
    simp only at h
    have hC:CallOK P (fun f args st=>retOf (run C P k (.call f args st))):=by
     intro f args st v st' hh
     simp only[retOf] at hh
     split at hh
     · rename_i v1 st1 hrun
       simp only[Option.some.injEq,Prod.mk.injEq] at hh
       obtain⟨rfl,rfl⟩:=hh
       exact ihc _ _ _ _ _ hrun
     · simp at hh
    have hP:PureOK P C (fun f args st=>retOf (run C P k (.call f args st))):=by
     intro f args st v st' hlt hk hh
     simp only[retOf] at hh
     split at hh
     · rename_i v1 st1 hrun
       simp only[Option.some.injEq,Prod.mk.injEq] at hh
       obtain⟨rfl,rfl⟩:=hh
       exact run_ret_pure hX hlt hk hrun
     · simp at hh
    have hCL:CallOK P (callL C P fun f args st=>retOf (run C P k (.call f args st))):=by
     intro f args st v st' hh
     unfold callL at hh
     split at hh
     · rename_i hk
       simp only[Bool.and_eq_true,decide_eq_true_eq] at hk
       obtain⟨p,hp,hq⟩:=Option.map_eq_some_iff.1 hh
       simp only[Prod.mk.injEq] at hq
       obtain⟨rfl,rfl⟩:=hq
       refine⟨fun hlt=>((hC _ _ _ _ _ hp).1 hlt).low,fun k hk'=>absurd hk.2 (by rw[hk'];exact Nat.not_lt.2 (Nat.le_add_right _ _))⟩
     · exact hC _ _ _ _ _ hh
    have hLL:LowOK C P (callL C P fun f args st=>retOf (run C P k (.call f args st))):=by
     intro f args st v st' hk hlt hh
     unfold callL at hh
     rw[if_pos (by simp[hk,hlt])] at hh
     obtain⟨p,hp,hq⟩:=Option.map_eq_some_iff.1 hh
     simp only[Prod.mk.injEq] at hq
     obtain⟨rfl,rfl⟩:=hq
     exact⟨p.2,(hC _ _ _ _ _ hp).1 hlt,rfl⟩
    have hPL:PureOK P C (callL C P fun f args st=>retOf (run C P k (.call f args st))):=by
     intro f args st v st' hlt hk hh
     unfold callL at hh
     rw[if_neg (by simp[hk])] at hh
     exact hP f args st v st' hlt hk hh
    have key:∃s1 st1,((opsRun P (fun f args st=>retOf (run C P k (.call f args st))) d ops ops.toList s st=some (s1,st1)∧(d=true→drawB C P ops=true)) ∨
     (opsRun P (callL C P fun f args st=>retOf (run C P k (.call f args st))) d ops (hoist ops) s st=some (s1,st1)∧d=true∧drawG C P ops (farB s1)=true))∧Res.out .normal s1 st1=Res.out e s' st':=by
     split at h
     · rename_i hdb
       have hd1:d=true:=by
        cases d with
        | true=>rfl
        | false=>simp at hdb
       split at h
       · rename_i s1 st1 hops
         split at h
         · rename_i hdf
           exact⟨s1,st1,.inr ⟨hops,hd1,hdf⟩,by simpa using h⟩
         · simp at h
       · simp at h
     · rename_i hdb
       split at h
       · rename_i s1 st1 hops
         refine⟨s1,st1,.inl ⟨hops,fun hd=>?_⟩,by simpa using h⟩
         rw[hd] at hdb
         simpa using hdb
       · simp at h
    clear h
    obtain⟨s1,st1,hdr,h⟩:=key
    simp only[Res.out.injEq] at h
    obtain⟨rfl,rfl,rfl⟩:=h
    cases d with
    | false =>
     obtain⟨hops,-⟩:opsRun P (fun f args st=>retOf (run C P k (.call f args st))) false ops ops.toList s st=some (s1,st1)∧(false=true→drawB C P ops=true):=by
      rcases hdr with h1 | h1
      · exact h1
      · simp at h1
     exact wpIn_region_list (ops_sim hC false _ E w a s s1 st st1 hw hY hs hfl hops fun a' w' E' hd=>hQ a' w' E' (.of_eq hd))
    | true =>
     refine wpIn_region_any hX.mixed ?_
     have hB:Blw w { w with drawn:=w.drawn+1 }:=Blw.of_heap rfl ⟨rfl,rfl⟩
     have hw1:=hw.blw hB
     have hseg1:Seg E st w E st { w with drawn:=w.drawn+1 }:=seg_blw hB hfl
     have hs1:SR E st { w with drawn:=w.drawn+1 } a.tmps s:=hs.step0 (step_grow hB (fun i hi=>⟨hi,rfl⟩) (fun i b h1 h2=>by omega) (fun F f hf=>⟨hf,rfl,rfl⟩) (fun F h1 h2=>by omega))
     rcases hdr with ⟨hops,hdr⟩ | ⟨hops,-,hdg⟩
     rotate_left
     · exact region_simG hCL hLL hPL hdg hw1 (hY.seg hseg1) hs1 hfl hops fun a' w' E' hd hw' hs' hseg=>hQ a' w' E' (.of_eq hd) hw' hs' (hseg1.trans hseg)
     · obtain⟨anc,hda⟩:=drawB_ok (far:=fun _ _=>false) (hdr rfl)
       refine draw_sim hC hP hda ops.size _ (List.range ops.size) E _ a s st st1 (by simp) List.pairwise_lt_range (fun j=>?_) (by simp) (fun i hi hl=>?_) hw1 (hY.seg hseg1) hs1 hfl ?_
        fun a' w' E' hd hw' hs' hseg=>hQ a' w' E' (.of_eq hd) hw' hs' (hseg1.trans hseg)
       · simp only[List.mem_range]
         constructor
         · intro hj;exact⟨hj,by simp[Array.getD_eq_getD_getElem?,hj]⟩
         · exact fun hh=>hh.1
       · simp[Array.getD_eq_getD_getElem?,hi] at hl
       · have:(List.range ops.size).map (fun i=>ops.getD i default)=ops.toList:=by
          apply List.ext_getElem (by simp)
          intro i h1 h2
          have:i<ops.size:=by simpa using h1
          simp[Array.getD_eq_getD_getElem?,this]
         rw[this]
         exact hops
   | rangeFunc f ps assign body =>
    have hr:r=none:=by
     rcases hnr with hr | hr
     · exact hr
     · simp[noRange] at hr
    subst hr
    unfold run at h
    simp only at h
    have hxv:=ev_VR hs f
    generalize hcv:ev s f=cv at h hxv
    generalize hxx:a.eval f=xv at hxv
    split at h
    rotate_left
    · simp at h
    rename_i g first cap
    split at h
    rotate_left
    · simp at h
    rename_i hcnd
    simp only[Bool.and_eq_true] at hcnd
    obtain⟨⟨⟨hcb,hkeep⟩,hna⟩,hnb⟩:=hcnd
    split at h
    rotate_left
    · simp at h
    rename_i v st2 hrr
    simp only[Option.some.injEq,Res.out.injEq] at h
    obtain⟨rfl,rfl,rfl⟩:=h
    cases hxv with
    | func _ cf cc _ _ hy hf1 hc1 hf2 hc2 =>
     have hlt:=callable_lt hcb
     refine wpIn_rangeFunc fun fn _=>?_
     obtain⟨rec,hrec⟩:∃rec:Loop,rec={ state:=.ready,pending:=none,fn,tmps:=a.tmps,params:=ps,assign,body,defers:=w.heap.size }:=⟨_,rfl⟩
     obtain⟨w1,hw1⟩:∃w1,(w.alloc (.deferred (some []))).alloc (.loop rec)=w1:=⟨_,rfl⟩
     have hB:Blw w w1:=by rw[←hw1];exact (Blw.push w _).trans (Blw.push _ _)
     have hL1:w1.heap[w.heap.size+1]? = some (.loop rec):=by
      rw[←hw1];have:=World.alloc_heap_new (w.alloc (.deferred (some []))) (.loop rec);rwa [World.size_alloc] at this
     have hD1:w1.heap[w.heap.size]? = some (.deferred (some [])):=by
      rw[←hw1]
      show ((w.heap.push _).push _)[w.heap.size]? = _
      simp[Array.getElem?_push]
     have hsz1:w1.heap.size=w.heap.size+2:=by rw[←hw1];simp
     obtain⟨E1,hE1⟩:∃E1:Env,E1={ E with lp:=fun k=>if k=st.ny then some (w.heap.size+1) else E.lp k }:=⟨_,rfl⟩
     obtain⟨st1,hst1⟩:∃st1:St,st1={ st with kills:=[],ny:=st.ny+1,y:=some ⟨st.ny,ps,assign,body,s⟩ }:=⟨_,rfl⟩
     rw[←hst1] at hrr
     have hlp:∀k l,k<st.ny→E.lp k=some l→k<st1.ny∧E1.lp k=some l:=by
      intro k l h1 h2
      subst hst1 hE1
      exact⟨Nat.lt_succ_of_lt h1,by simp only;rw[if_neg (by omega)];exact h2⟩
     have S1:Step [] E st w E1 st1 w1:=by
      have S0:Step [] E st w E st w1:=step_grow hB (fun i hi=>⟨hi,rfl⟩) (fun i b h1 h2=>by omega) (fun F f hf=>⟨hf,rfl,rfl⟩) (fun F h1 h2=>by omega)
      subst hst1 hE1
      exact⟨S0.box,S0.cell,S0.rd,S0.tok,hlp⟩
     have hwr1:WR E1 st1 w1:=by
      have h0:=hw.blw hB
      have S2:Step [] E st w1 E1 st1 w1:=by
       have S0:=Step.refl [] E st w1
       subst hst1 hE1
       exact⟨S0.box,S0.cell,S0.rd,S0.tok,hlp⟩
      subst hst1 hE1
      exact⟨fun i bx b h1 h2=>(h0.box i bx b h1 h2).step0 S2 rfl,h0.inj,h0.fam,h0.famBox,h0.famInj⟩
     have hseg0:Seg E1 st1 w1 E1 st1 w1:=.refl _ _ _
     have hnm:¬Mut E1 st1 (w.heap.size+1):=hwr1.notMut hL1 (by simp) (by simp)
     have hy1:YS E1 st1 w1:=by
      intro y hy
      rw[hst1] at hy
      simp only[Option.some.injEq] at hy
      subst hy
      refine⟨w.heap.size+1,rec,E1,st1,w1,by rw[hst1];exact Nat.lt_succ_self _,by rw[hE1];simp,hL1,hnm,by rw[hrec],by rw[hrec],by rw[hrec],by rw[hrec],by rw[hrec],hna,hnb,?_,by rw[hst1],hseg0⟩
      rw[hrec]
      exact hs.step0 S1
     have hargs:=args3_VR (E:=E1) (st:=st1) (w:=w1) (x:=cf) (y:=#[.func (.yield (w.heap.size+1)) #[] #[]]) (z:=cc) (dx:=first) (dy:=[.func (.yield st.ny) [] []]) (dz:=cap) hf1 rfl hc1
      (fun k hk=>(hf2 k hk).step0 S1) (fun k hk=>by
       have:k=0:=by simpa using hk
       subst this
       exact .yld st.ny (w.heap.size+1) (by rw[hst1];exact Nat.lt_succ_self _) (by rw[hE1];simp)) (fun k hk=>(hc2 k hk).step0 S1)
     refine⟨w.heap.size+1,[{ target:=.collected w.heap.size,args:=#[] }],w1,{ target:=.fn (.func g) cc,args:=cf++#[.func (.yield (w.heap.size+1)) #[] #[]] },w1,g,cf++#[.func (.yield (w.heap.size+1)) #[] #[]]++cc,w1,?_,?_,fun _ _=>trivial,?_,fun hh=>FW_depth none hh,?_⟩
     · rw[←hw1,hrec];exact run_enterLoop_outer _ _ _ _ _
     · simp[resolve,hxx,Deferred.ofValue,show ∀v,a.eval (.const v)=v from fun _=>rfl]
     · unfold callableB at hcb
       cases hfn:P.funcs[g]? with
       | none=>rw[hfn] at hcb;simp at hcb
       | some fn' =>
        rw[hfn] at hcb
        simp only[Bool.and_eq_true,bne_iff_ne,ne_eq] at hcb
        have hb:fn'.body.isNone=false:=by
         have:=hcb.1
         cases hbb:fn'.body<;>simp[hbb] at this ⊢
        have hn:=hcb.2
        have hb':¬fn'.body=none:=by intro he;rw[he] at hb;simp at hb
        simp[invoke,callFunc,hfn,hn,hb']
     · refine callsFW.2 (Calls.mono ((ihc _ _ _ _ _ hrr).1 hlt E1 w1 _ hwr1 hy1 (by rw[hst1];exact hfl) hargs.1 hargs.2) ?_)
       rintro e w' ⟨cv,E',rfl,hv,hw',hseg⟩
       have hl2:w'.heap[w.heap.size+1]? = some (.loop rec):=(hseg.keep _ (by omega) hnm).trans hL1
       have hD2:w'.heap[w.heap.size]? = some (.deferred (some [])):=(hseg.keep _ (by omega) (hwr1.notMut hD1 (by simp) (by simp))).trans hD1
       refine⟨none,w'.putObj (w.heap.size+1) (.loop { rec with state:=.exhausted }),?_,?_⟩
       · have:=run_endLoop (P:=P) hl2 (by rw[hrec];simp)
         rw[this,hrec]
       · simp only
         have hwp:=hw'.put' (o':=.loop { rec with state:=.exhausted }) hl2 (by simp) (by simp)
         have hsp:=step_put (E:=E') (st:=st2) (o':=.loop { rec with state:=.exhausted }) hl2 (by simp)
         have hS:Step st2.kills E st w E' { st2 with kills:=st2.kills++st.kills,y:=st.y } (w'.putObj (w.heap.size+1) (.loop { rec with state:=.exhausted })) :=
          ((((S1.more (fun F hF=>by simp at hF)).trans hB.size hseg.step).trans (Nat.le_trans hB.size hseg.size) (hsp.more (fun F hF=>by simp at hF)))).trans (by rw[World.putObj_size];exact Nat.le_trans hB.size hseg.size)
           ((step_same (E:=E') (w:=w'.putObj (w.heap.size+1) (.loop { rec with state:=.exhausted })) (st:=st2) (st':={ st2 with kills:=st2.kills++st.kills,y:=st.y }) rfl rfl).more (fun F hF=>by simp at hF))
         refine hQ _ _ E' ?_ (hwp.same rfl rfl) ?_ ?_
         · refine⟨[{ target:=.collected w.heap.size,args:=#[] }],rfl,⟨w.heap.size,rfl,Nat.le_refl _,?_,by simp⟩,trivial⟩
           rw[World.putObj_heap_other (by omega)]
           exact hD2
         · rw[kill_all]
           exact hs.step hS
         · have hmut:∀b,Mut E1 st1 b↔Mut E st b:=by intro b;subst hst1 hE1;exact Iff.rfl
           refine⟨hS.more (fun F hF=>by simp[hF]),by rw[World.putObj_size];exact Nat.le_trans hB.size hseg.size,fun b hb hm=>?_,fun b hb hm=>?_,?_,?_,?_,?_,fun F hF=>?_,fun F hF=>by simp[hF],fun i hi=>?_,⟨?_,?_⟩,rfl⟩
           · rw[World.putObj_heap_other (by omega),hseg.keep b (by omega) (fun h=>hm ((hmut b).1 h))]
             exact hB.same b hb
           · exact (hmut b).1 (hseg.muts b (by omega) hm)
           · have:=hseg.lo;rw[hst1] at this;exact this
           · have:=hseg.flo;rw[hst1] at this;exact this
           · have:=hseg.hlen;rw[hst1] at this;exact this
           · have:=hseg.flen;rw[hst1] at this;exact this
           · have:=hseg.fams F (by rw[hst1];exact hF);rw[hst1,hE1] at this;exact this
           · have:=hseg.boxE i (by rw[hst1];exact hi);rw[hE1] at this;exact this
           · exact hseg.quiet.os.trans hB.quiet.os
           · exact hseg.quiet.output.trans hB.quiet.output
   | _=>unfold run at h;simp at h
end
end Go.Abs

namespace Go.Abs
open Go
section
variable {P:Program} {C:Cfg}
theorem opRun_mono {c c':FuncId→List V→St→Option (V×St)} (h:∀f a s r,c f a s=some r→c' f a s=some r) {all:Array Oper} {o:Oper} {s:List V} {st:St} {r:List V×St}
 (hr:opRun P c all o s st=some r):opRun P c' all o s st=some r:=by
 unfold opRun at hr ⊢
 split at hr
 · rename_i heq;exact hr
 · split at hr
   · exact hr
   · rename_i f args heq
     cases hc:c f args (if P.funcs.size≤f then st else { st with kills:=[],y:=none }) with
     | none=>rw[hc] at hr;simp at hr
     | some r'=>rw[hc] at hr;rw[h _ _ _ _ hc];exact hr
   · simp at hr
 · simp at hr
theorem opsRun_mono {c c':FuncId→List V→St→Option (V×St)} (h:∀f a s r,c f a s=some r→c' f a s=some r) {d:Bool} {all:Array Oper}:∀{l:List Oper} {s:List V} {st:St} {r:List V×St},
 opsRun P c d all l s st=some r→opsRun P c' d all l s st=some r
 | [],_,_,_,hr=>by simpa[opsRun] using hr
 | o::l,s,st,r,hr=>by
  unfold opsRun at hr ⊢
  cases ho:opRun P c all o s st with
  | none=>rw[ho] at hr;simp at hr
  | some r1 =>
   obtain⟨s1,st1⟩:=r1
   rw[ho] at hr
   rw[opRun_mono h ho]
   simp only at hr ⊢
   split at hr
   · simp at hr
   · rename_i hh
     simp only[hh,Bool.false_eq_true,if_false]
     exact opsRun_mono h hr
theorem callL_mono {c c':FuncId→List V→St→Option (V×St)} (h:∀f a s r,c f a s=some r→c' f a s=some r):∀f a s r,callL C P c f a s=some r→callL C P c' f a s=some r:=by
 intro f a s r hr
 unfold callL at hr ⊢
 split at hr
 · rename_i hc
   rw[if_pos hc]
   obtain⟨p,hp,hq⟩:=Option.map_eq_some_iff.1 hr
   rw[h _ _ _ _ hp]
   exact congrArg some hq
 · rename_i hc
   rw[if_neg hc]
   exact h _ _ _ _ hr
theorem run_succ:∀(k:Nat) (t:Task) (r:Res),run C P k t=some r→run C P (k+1) t=some r:=by
 intro k
 induction k with
 | zero=>intro t r h;simp[run] at h
 | succ k ih =>
  intro t r h
  cases t with
  | code c s st =>
   unfold run at h ⊢
   cases c with
   | seq a b =>
    simp only at h ⊢
    cases hr:run C P k (.code a s st) with
    | none=>rw[hr] at h;simp at h
    | some r1 =>
     rw[hr] at h
     rw[ih _ _ hr]
     cases r1 with
     | ret v st1=>exact h
     | out e s1 st1 =>
      cases e with
      | normal=>simp only at h ⊢;exact ih _ _ h
      | _=>exact h
   | cond c x y =>
    simp only at h ⊢
    split at h
    · exact ih _ _ h
    · simp at h
   | scope c =>
    simp only at h ⊢
    exact ih _ _ h
   | block id c =>
    simp only at h ⊢
    cases hr:run C P k (.code c s st) with
    | none=>rw[hr] at h;simp at h
    | some r1=>rw[hr] at h;rw[ih _ _ hr];exact h
   | loop c =>
    simp only at h ⊢
    cases hr:run C P k (.code c s st) with
    | none=>rw[hr] at h;simp at h
    | some r1 =>
     rw[hr] at h
     rw[ih _ _ hr]
     cases r1 with
     | ret v st1=>exact h
     | out e s1 st1 =>
      cases e with
      | normal=>simp only at h ⊢;exact ih _ _ h
      | _=>exact h
   | region id ops d =>
    simp only at h ⊢
    split at h
    · rename_i hd
      rw[if_pos hd]
      split at h
      · rename_i s1 st1 ho
        rw[opsRun_mono (c':=callL C P fun f args st=>retOf (run C P (k+1) (.call f args st))) (fun f a s r hr=>by
         have hmono:∀f a s r,retOf (run C P k (.call f a s))=some r→retOf (run C P (k+1) (.call f a s))=some r:=by
          intro f a s r hr
          cases hc:run C P k (.call f a s) with
          | none=>rw[hc] at hr;simp[retOf] at hr
          | some r1=>rw[hc] at hr;rw[ih _ _ hc];exact hr
         exact callL_mono hmono f a s r hr) ho]
        exact h
      · simp at h
    rename_i hd
    rw[if_neg hd]
    split at h
    · rename_i s1 st1 ho
      rw[opsRun_mono (c':=fun f args st=>retOf (run C P (k+1) (.call f args st))) (fun f a s r hr=>by
       cases hc:run C P k (.call f a s) with
       | none=>rw[hc] at hr;simp[retOf] at hr
       | some r1=>rw[hc] at hr;rw[ih _ _ hc];exact hr) ho]
      exact h
    · simp at h
   | rangeFunc f ps assign body =>
    simp only at h ⊢
    split at h
    · split at h
      · rename_i hc
        rw[if_pos hc]
        split at h
        · rename_i v st1 hr
          rw[ih _ _ hr]
          exact h
        · simp at h
      · simp at h
    · simp at h
   | _=>exact h
  | call f args st =>
   unfold run at h ⊢
   by_cases hlt:P.funcs.size≤f
   · rw[if_pos hlt] at h ⊢
     split at h
     · rename_i y hy
       split at h
       · rename_i hc
         rw[if_pos hc]
         split at h
         · rename_i s1 st1 hr1
           rw[ih _ _ hr1]
           simp only
           split at h
           · rename_i s2 st2 hr2
             rw[ih _ _ hr2]
             exact h
           · simp at h
         · simp at h
       · simp at h
     · simp at h
   rw[if_neg hlt] at h ⊢
   cases hx:C.ext f with
   | some A=>rw[hx] at h;exact h
   | none =>
    rw[hx] at h
    simp only at h ⊢
    cases hf:P.funcs[f]? with
    | none=>rw[hf] at h;simp at h
    | some fn =>
     rw[hf] at h
     simp only at h ⊢
     cases hb:fn.body with
     | none=>rw[hb] at h;simp at h
     | some c =>
      rw[hb] at h
      simp only at h ⊢
      split at h
      · rename_i hle
        rw[if_pos hle]
        cases hk:C.keep f with
        | true =>
         simp only[hk,if_true] at h ⊢
         cases hr:run C P k (.code c (args++List.replicate (fn.ntmps-args.length) (.tup [])) st) with
         | none=>rw[hr] at h;simp at h
         | some r1=>rw[hr] at h;rw[ih _ _ hr];exact h
        | false =>
         simp only[hk,Bool.false_eq_true,if_false] at h ⊢
         cases hr:run C P k (.code c (args++List.replicate (fn.ntmps-args.length) (.tup [])) { st with lo:=st.heap.length,flo:=st.fams.length,kills:=[],y:=none }) with
         | none=>rw[hr] at h;simp at h
         | some r1=>rw[hr] at h;rw[ih _ _ hr];exact h
      · simp at h
theorem run_mono {k k':Nat} {t:Task} {r:Res} (hk:k≤k') (h:run C P k t=some r):run C P k' t=some r:=by
 induction hk with
 | refl=>exact h
 | step _ ih=>exact run_succ _ _ _ ih
def Runs (C:Cfg) (P:Program) (t:Task) (r:Res):Prop:=∃k,run C P k t=some r
def OpsRuns (C:Cfg) (P:Program) (d:Bool) (all:Array Oper) (l:List Oper) (s:List V) (st:St) (s':List V) (st':St):Prop :=
 ∃k,opsRun P (fun f args st=>retOf (run C P k (.call f args st))) d all l s st=some (s',st')
theorem callk_mono {k k':Nat} (hk:k≤k'):∀f a s r,retOf (run C P k (.call f a s))=some r→retOf (run C P k' (.call f a s))=some r:=by
 intro f a s r hr
 cases hc:run C P k (.call f a s) with
 | none=>rw[hc] at hr;simp[retOf] at hr
 | some r1=>rw[hc] at hr;rw[run_mono hk hc];exact hr
variable {s s1 s':List V} {st st1 st':St} {r:Res} {a b c x y:Code} {e:AExit}
theorem Runs.seq (h1:Runs C P (.code a s st) (.out .normal s1 st1)) (h2:Runs C P (.code b s1 st1) r):Runs C P (.code (.seq a b) s st) r:=by
 obtain⟨k1,h1⟩:=h1
 obtain⟨k2,h2⟩:=h2
 refine⟨max k1 k2+1,?_⟩
 unfold run
 simp only
 rw[run_mono (Nat.le_max_left k1 k2) h1]
 exact run_mono (Nat.le_max_right k1 k2) h2
theorem Runs.seq_out (h1:Runs C P (.code a s st) (.out e s1 st1)) (he:e≠.normal):Runs C P (.code (.seq a b) s st) (.out e s1 st1):=by
 obtain⟨k1,h1⟩:=h1
 refine⟨k1+1,?_⟩
 unfold run
 simp only
 rw[h1]
 cases e<;>first | exact absurd rfl he | rfl
theorem Runs.skip:Runs C P (.code .skip s st) (.out .normal s st):=⟨1,rfl⟩
theorem Runs.label {l:Nat}:Runs C P (.code (.label l) s st) (.out .normal s st):=⟨1,rfl⟩
theorem Runs.rett:Runs C P (.code .ret s st) (.out .ret s st):=⟨1,rfl⟩
theorem Runs.exit {id:Nat}:Runs C P (.code (.exit id) s st) (.out (.exit id) s st):=⟨1,rfl⟩
theorem Runs.cond {t:Operand} {q:Bool} (hc:ev s t=.bool q) (h:Runs C P (.code (if q then x else y) s st) r):Runs C P (.code (.cond t x y) s st) r:=by
 obtain⟨k,h⟩:=h
 refine⟨k+1,?_⟩
 unfold run
 simp only[hc]
 exact h
theorem Runs.scope (h:Runs C P (.code c s st) r):Runs C P (.code (.scope c) s st) r:=by
 obtain⟨k,h⟩:=h
 exact⟨k+1,by unfold run;exact h⟩
theorem Runs.block {id:Nat} (h:Runs C P (.code c s st) (.out e s1 st1)):Runs C P (.code (.block id c) s st) (.out (match e with | .exit i=>if i=id then .normal else .exit i | e=>e) s1 st1):=by
 obtain⟨k,h⟩:=h
 refine⟨k+1,?_⟩
 unfold run
 simp only
 rw[h]
 cases e<;>rfl
theorem Runs.loop_next (h1:Runs C P (.code c s st) (.out .normal s1 st1)) (h2:Runs C P (.code (.loop c) s1 st1) r):Runs C P (.code (.loop c) s st) r:=by
 obtain⟨k1,h1⟩:=h1
 obtain⟨k2,h2⟩:=h2
 refine⟨max k1 k2+1,?_⟩
 unfold run
 simp only
 rw[run_mono (Nat.le_max_left k1 k2) h1]
 exact run_mono (Nat.le_max_right k1 k2) h2
theorem Runs.loop_out (h1:Runs C P (.code c s st) (.out e s1 st1)) (he:e≠.normal):Runs C P (.code (.loop c) s st) (.out e s1 st1):=by
 obtain⟨k1,h1⟩:=h1
 refine⟨k1+1,?_⟩
 unfold run
 simp only
 rw[h1]
 cases e<;>first | exact absurd rfl he | rfl
theorem Runs.region {id:Nat} {ops:Array Oper} {d:Bool} (hd:d=false∨drawB C P ops=true) (h:OpsRuns C P d ops ops.toList s st s' st') :
 Runs C P (.code (.region id ops d) s st) (.out .normal s' st'):=by
 obtain⟨k,h⟩:=h
 refine⟨k+1,?_⟩
 unfold run
 simp only
 rw[if_neg (by rcases hd with rfl | hd<;>simp[*]),h]
def callB (b:Bool) (C:Cfg) (P:Program) (call:FuncId→List V→St→Option (V×St)):FuncId→List V→St→Option (V×St):=match b with
 | true=>callL C P call
 | false=>call
def OpsW (b:Bool) (C:Cfg) (P:Program) (d:Bool) (all:Array Oper) (l:List Oper) (s:List V) (st:St) (s':List V) (st':St):Prop :=
 ∃k,opsRun P (callB b C P fun f args st=>retOf (run C P k (.call f args st))) d all l s st=some (s',st')
def RunsW (b:Bool) (C:Cfg) (P:Program) (f:FuncId) (args:List V) (st:St) (v:V) (st':St):Prop :=
 ∃k,callB b C P (fun f args st=>retOf (run C P k (.call f args st))) f args st=some (v,st')
theorem Runs.regionF {id:Nat} {ops:Array Oper} {d:Bool} (hb:(d&&!drawB C P ops)=true) (hd:drawG C P ops (farB s')=true) (h:OpsW true C P d ops (hoist ops) s st s' st') :
 Runs C P (.code (.region id ops d) s st) (.out .normal s' st'):=by
 obtain⟨k,h⟩:=h
 refine⟨k+1,?_⟩
 unfold run
 simp only
 unfold callB at h
 simp only at h
 rw[if_pos hb,h]
 simp only[hd,if_true]
theorem callB_mono {b:Bool} {k k':Nat} (hk:k≤k'):∀f args st r,callB b C P (fun f args st=>retOf (run C P k (.call f args st))) f args st=some r→callB b C P (fun f args st=>retOf (run C P k' (.call f args st))) f args st=some r:=by
 intro f args st r h
 cases b with
 | false=>exact callk_mono hk _ _ _ _ h
 | true=>exact callL_mono (callk_mono hk) _ _ _ _ h
theorem RunsW.of {f:FuncId} {args:List V} {st st':St} {v:V} (h:Runs C P (.call f args st) (.ret v st')):RunsW false C P f args st v st':=by
 obtain⟨k,h⟩:=h
 exact⟨k,by simp[callB,h,retOf]⟩
theorem RunsW.pure {f:FuncId} {args:List V} {st st':St} {v:V} (hc:(C.keep f&&decide (f<P.funcs.size))=false) (h:Runs C P (.call f args st) (.ret v st')):RunsW true C P f args st v st':=by
 obtain⟨k,h⟩:=h
 exact⟨k,by simp only[callB,callL,hc];simp[h,retOf]⟩
theorem RunsW.low {f:FuncId} {args:List V} {st st':St} {v:V} (hc:(C.keep f&&decide (f<P.funcs.size))=true) (h:Runs C P (.call f args { st with lo:=st.heap.length,y:=none }) (.ret v st')):RunsW true C P f args st v { st' with lo:=st.lo,y:=st.y }:=by
 obtain⟨k,h⟩:=h
 exact⟨k,by simp only[callB,callL,hc];simp[h,retOf]⟩
theorem Runs.call_pure {f:FuncId} {fn:Func} {args:List V} {v v':V} (hx:C.ext f=none) (hf:P.funcs[f]? = some fn) (hb:fn.body=some c) (hl:args.length≤fn.ntmps) (hk:C.keep f=false)
 (h:Runs C P (.code c (args++List.replicate (fn.ntmps-args.length) (.tup [])) { st with lo:=st.heap.length,flo:=st.fams.length,kills:=[],y:=none }) (.out e s1 st1))
 (he:e=.normal∨e=.ret) (hr:resB P st1 s1 fn.results=some v) (hu:v.under st.heap.length=true)
 (hz:v.freeze st.fams.length=v'):Runs C P (.call f args st) (.ret v' st):=by
 subst hz
 obtain⟨k,h⟩:=h
 refine⟨k+1,?_⟩
 have hlt:f<P.funcs.size:=(Array.getElem?_eq_some_iff.1 hf).1
 unfold run
 simp only[if_neg (Nat.not_le.2 hlt),hx,hf,hb,hl,hk,if_true,Bool.false_eq_true,if_false,h]
 rcases he with rfl | rfl<;>simp[hr,hu]
theorem Runs.call_keep {f:FuncId} {fn:Func} {args:List V} {v:V} (hx:C.ext f=none) (hf:P.funcs[f]? = some fn) (hb:fn.body=some c) (hl:args.length≤fn.ntmps) (hk:C.keep f=true)
 (h:Runs C P (.code c (args++List.replicate (fn.ntmps-args.length) (.tup [])) st) (.out e s1 st1))
 (he:e=.normal∨e=.ret) (hr:resB P st1 s1 fn.results=some v):Runs C P (.call f args st) (.ret v (st.leave st1)):=by
 obtain⟨k,h⟩:=h
 refine⟨k+1,?_⟩
 have hlt:f<P.funcs.size:=(Array.getElem?_eq_some_iff.1 hf).1
 unfold run
 simp only[if_neg (Nat.not_le.2 hlt),hx,hf,hb,hl,hk,if_true,h]
 rcases he with rfl | rfl<;>simp[hr]
theorem Runs.yld {y:YC} {args:List V} {s2:List V} {st2:St} (hy:st.y=some y) (hl:args.length=y.ps.size)
 (h1:Runs C P (.code y.assign (roundS (killAll st.kills y.s0) y.ps args) { st with kills:=[],y:=none }) (.out .normal s1 st1)) (h2:Runs C P (.code y.body s1 st1) (.out .normal s2 st2)) :
 Runs C P (.call (P.funcs.size+y.k) args st) (.ret (.bool true) st2):=by
 obtain⟨k1,h1⟩:=h1
 obtain⟨k2,h2⟩:=h2
 refine⟨max k1 k2+1,?_⟩
 unfold run
 rw[if_pos (Nat.le_add_right _ _)]
 simp only[hy,hl,and_self,if_true]
 rw[run_mono (Nat.le_max_left k1 k2) h1]
 simp only
 rw[run_mono (Nat.le_max_right k1 k2) h2]
theorem Runs.rangeFunc {f:Operand} {ps:Array Tmp} {assign body:Code} {g:FuncId} {first cap:List V} {v:V} (hf:ev s f=.func (.func g) first cap) (hc:callableB P g=true) (hk:C.keep g=true) (hna:noRange assign=true) (hnb:noRange body=true)
 (h:Runs C P (.call g (first++[.func (.yield st.ny) [] []]++cap) { st with kills:=[],ny:=st.ny+1,y:=some ⟨st.ny,ps,assign,body,s⟩ }) (.ret v st')) :
 Runs C P (.code (.rangeFunc f ps assign body) s st) (.out .normal (killAll st'.kills s) { st' with kills:=st'.kills++st.kills,y:=st.y }):=by
 obtain⟨k,h⟩:=h
 refine⟨k+1,?_⟩
 unfold run
 simp only[hf,hc,hk,hna,hnb,Bool.and_self,if_true,h]
theorem Runs.calls (hX:ExtOK P C) {f:FuncId} {args:List V} {st st':St} {v:V} (hlt:f<P.funcs.size) (h:Runs C P (.call f args st) (.ret v st')):SimCall P f args st v st':=by
 obtain⟨k,h⟩:=h
 exact ((sim hX k).1 _ _ _ _ _ h).1 hlt
def Sound (P:Program) (f:FuncId) (A:List V→St→Option (V×St)):Prop:=∀args st v st',A args st=some (v,st')→SimCall P f args st v st'
def Cfg.of (keep:List FuncId) (l:List (FuncId×(List V→St→Option (V×St)))):Cfg:=⟨keep.contains,fun f=>(l.find? fun p=>p.1==f).map (·.2)⟩
def ans (v:List V→Option V):List V→St→Option (V×St):=fun args st=>(v args).map fun v=>(v,st)
theorem ext_of {keep:List FuncId} {l:List (FuncId×(List V→St→Option (V×St)))} (hm:P.follows .mixedOrders=true) (h:∀p∈l,Sound P p.1 p.2)
 (hs:∀p∈l,keep.contains p.1=false→∀args st v st',p.2 args st=some (v,st')→st'=st):ExtOK P (.of keep l):=by
 have key:∀f A,(Cfg.of keep l).ext f=some A→(f,A)∈l:=by
  intro f A hA
  simp only[Cfg.of,Option.map_eq_some_iff] at hA
  obtain⟨p,hp,rfl⟩:=hA
  have h1:=List.find?_some hp
  simp only[beq_iff_eq] at h1
  subst h1
  exact List.mem_of_find?_eq_some hp
 exact⟨hm,fun f A args st v st' hx hA=>h _ (key f A hx) args st v st' hA,fun f A args st v st' hx hk hA=>hs _ (key f A hx) hk args st v st' hA⟩
theorem ans_still {v:List V→Option V} {args:List V} {st st':St} {r:V} (h:ans v args st=some (r,st')):st'=st:=by
 simp only[ans,Option.map_eq_some_iff,Prod.mk.injEq] at h
 obtain⟨_,_,_,h⟩:=h
 exact h.symm
theorem sound_ans {f:FuncId} {F:List V→Option V} (hX:ExtOK P C) (hlt:f<P.funcs.size) (h:∀args st v,F args=some v→Runs C P (.call f args st) (.ret v st)):Sound P f (ans F):=by
 intro args st v st' ha
 obtain rfl:=ans_still ha
 simp only[ans,Option.map_eq_some_iff,Prod.mk.injEq] at ha
 obtain⟨v',hv,rfl,_⟩:=ha
 exact (h args _ v' hv).calls hX hlt
theorem told {k:Nat} {f:FuncId} {args:List V} {A:List V→St→Option (V×St)} (hlt:f<P.funcs.size) (h:C.ext f=some A):retOf (run C P (k+1) (.call f args st))=A args st:=by
 unfold run
 simp only[if_neg (Nat.not_le.2 hlt),h]
 cases A args st with
 | none=>rfl
 | some r=>rfl
section
variable {k:Nat}
end
end
end Go.Abs

namespace Go.Abs
open Go Go.RowKit Go.WideShapes Go.ChangeShapes
theorem Blw.frame {w w':World} (h:Blw w w') (may:MemPlace→Prop):w.keptBut w' may:=by
 refine⟨h.quiet.os,h.quiet.output,fun i hi=>?_⟩
 rw[h.same i hi]
 cases w.heap[i]? with
 | none=>trivial
 | some o=>cases o<;>simp
theorem Blw.frozen {w w':World} (h:Blw w w') {a:Addr} (ha:a.block<w.heap.size):w'.frozen? a=w.frozen? a:=by
 unfold World.frozen?
 rw[h.same a.block ha]
section
variable {H:Type} {enc:TypeId×Value→H} {P:Program}
theorem post_of_blw {f:Func} {s:ChangeSpec} {apart fresh handsOn again:Bool} {W W':World} {args:Array Value} {v:Value} {ds gs:List (DataW H)} {before pa pv:List MemPlace}
 (hW:DataW.Whole enc P f.params.toList s.vars apart W args.toList ds gs before)
 (hres:∀(b:Nat) (sp:Nat→Bool) (hd:Bool),DataW.TrodAll enc P W' b sp hd f.resultTypes.toList (v.resultList f.resultTypes.size) (s.fn H (ds++gs)).results [])
 (hargs:∀sp:Nat→Bool,(∀p∈before,sp p.block=true)→DataW.TrodAll enc P W' 0 sp true f.params.toList args.toList (s.fn H (ds++gs)).args pa)
 (hvars:∀sp:Nat→Bool,(∀p∈before,sp p.block=true)→DataW.TrodVars enc P W' sp s.vars (s.fn H (ds++gs)).vars pv)
 (hps:before=pa++pv) (hb:Blw W W')
 (hok:∀(j:Nat) (t:TypeId) (r:Value),f.resultTypes[j]? = some t→(v.resultList f.resultTypes.size)[j]? = some r→Value.okWide P W' .any 0 t r) :
 s.post enc P f apart fresh handsOn again W args v W':=by
 have hlt:∀p∈before,p.block<W.heap.size:=fun p hp=>hW.lt p hp
 have hold:∀p∈before,(fun b=>decide (b<W.heap.size)) p.block=true:=fun p hp=>by simpa using hlt p hp
 refine⟨ds,gs,before,[],pa,pv,hW,hres _ _ _,hargs _ hold,hvars _ hold,World.keptBut_mono (fun p hp=>⟨hp,?_⟩) (hb.frame (·∈before)),fun _=>?_⟩
 · rw[hps,List.mem_append] at hp
   exact Or.inr hp
 · obtain⟨_,_,_,_,_,hz,hn⟩:=hW
   refine⟨hok,_,_,([]++pa)++pv,⟨[]++pa,pv,trodAll_append (hargs _ (fun _ _=>rfl)) (hres _ _ _),hvars _ (fun _ _=>rfl),rfl,?_,?_⟩,?_⟩
   · intro b off hp
     have hin:MemPlace.cell b off∈before:=by rw[hps];simpa using hp
     rw[hb.frozen (hlt _ hin)]
     exact hz b off hin
   · intro ha
     have:=hn ha
     rw[hps] at this
     simpa using this
   · intro p hp _
     rw[hps]
     simpa using hp
end
theorem Sound.law {P:Program} {f:FuncId} {A:List V→Option V} (h:Sound P f (ans A)) {args:List V} (ha:A args=some (.bool true)) {E:Env} {w:World} {vs:Array Value}
 (hl:vs.size=args.length) (hv:∀k,k<args.length→VR E ⟨[],[],0,0,[],0,none⟩ w (vs.getD k undef) (args.getD k .dead)) :
 Calls P f vs w fun e w'=>e=.returned (.bool true)∧Blw w w':=by
 have hw:WR E ⟨[],[],0,0,[],0,none⟩ w:=⟨fun i bx b h=>by simp at h,fun i j b hi=>by simp at hi,fun F f h=>by simp at h,fun F i hF=>by simp at hF,fun F G hF=>by simp at hF⟩
 refine (h args ⟨[],[],0,0,[],0,none⟩ (.bool true) ⟨[],[],0,0,[],0,none⟩ (by simp[ans,ha]) E w vs hw (YS.none rfl) (Nat.le_refl _) hl hv).mono ?_
 rintro e w' ⟨cv,E',he,hcv,_,hseg⟩
 cases hcv
 exact⟨he,hseg.size,fun b hb=>hseg.keep b hb (by
  rintro (⟨i,_,h2,_⟩ | ⟨F,_,h2,_⟩)
  · simp at h2
  · simp at h2),hseg.quiet⟩
end Go.Abs

namespace Go.Abs
open Go
def Reach (C:Cfg) (P:Program) (c:Code) (s:List V) (st:St) (Q:AExit→List V→St→Prop):Prop :=
 ∃e s' st',Runs C P (.code c s st) (.out e s' st')∧Q e s' st'
def ROps (C:Cfg) (P:Program) (d:Bool) (all:Array Oper) (l:List Oper) (s:List V) (st:St) (Q:List V→St→Prop):Prop :=
 ∃s' st',OpsRuns C P d all l s st s' st'∧Q s' st'
def Thn (C:Cfg) (P:Program) (b:Code) (Q:AExit→List V→St→Prop):AExit→List V→St→Prop:=fun e s st =>
 match e with
 | .normal=>Reach C P b s st Q
 | e=>Q e s st
def Blk (id:Nat) (Q:AExit→List V→St→Prop):AExit→List V→St→Prop:=fun e s st =>
 Q (match e with | .exit i=>if i=id then .normal else .exit i | e=>e) s st
section
variable {P:Program} {C:Cfg} {a b c x y:Code} {s s1:List V} {st st1:St} {Q Q':AExit→List V→St→Prop} {id i:Nat}
theorem Reach.mono (h:Reach C P c s st Q) (hq:∀e s st,Q e s st→Q' e s st):Reach C P c s st Q':=by
 obtain⟨e,s',st',h1,h2⟩:=h
 exact⟨e,s',st',h1,hq _ _ _ h2⟩
theorem Reach.seq (h:Reach C P a s st (Thn C P b Q)):Reach C P (.seq a b) s st Q:=by
 obtain⟨e,s1,st1,h1,h2⟩:=h
 cases e with
 | normal =>
  obtain⟨e2,s2,st2,h3,h4⟩:=h2
  exact⟨e2,s2,st2,h1.seq h3,h4⟩
 | exit i=>exact⟨_,s1,st1,h1.seq_out (by simp),h2⟩
 | ret=>exact⟨_,s1,st1,h1.seq_out (by simp),h2⟩
theorem Reach.block (h:Reach C P c s st (Blk id Q)):Reach C P (.block id c) s st Q:=by
 obtain⟨e,s1,st1,h1,h2⟩:=h
 cases e with
 | normal=>exact⟨_,s1,st1,h1.block,h2⟩
 | exit i=>exact⟨_,s1,st1,h1.block,h2⟩
 | ret=>exact⟨_,s1,st1,h1.block,h2⟩
theorem Reach.scope (h:Reach C P c s st Q):Reach C P (.scope c) s st Q:=by
 obtain⟨e,s1,st1,h1,h2⟩:=h
 exact⟨e,s1,st1,h1.scope,h2⟩
theorem Reach.skip (h:Q .normal s st):Reach C P .skip s st Q:=⟨_,_,_,Runs.skip,h⟩
theorem Reach.label {l:Nat} (h:Q .normal s st):Reach C P (.label l) s st Q:=⟨_,_,_,Runs.label,h⟩
theorem Reach.ret (h:Q .ret s st):Reach C P .ret s st Q:=⟨_,_,_,Runs.rett,h⟩
theorem Reach.exit (h:Q (.exit i) s st):Reach C P (.exit i) s st Q:=⟨_,_,_,Runs.exit,h⟩
theorem Reach.cond_t {t:Operand} (hc:ev s t=.bool true) (h:Reach C P x s st Q):Reach C P (.cond t x y) s st Q:=by
 obtain⟨e,s1,st1,h1,h2⟩:=h
 exact⟨e,s1,st1,Runs.cond (q:=true) hc h1,h2⟩
theorem Reach.cond_f {t:Operand} (hc:ev s t=.bool false) (h:Reach C P y s st Q):Reach C P (.cond t x y) s st Q:=by
 obtain⟨e,s1,st1,h1,h2⟩:=h
 exact⟨e,s1,st1,Runs.cond (q:=false) hc h1,h2⟩
theorem Reach.region {ops:Array Oper} (h:ROps C P false ops ops.toList s st (Q .normal)):Reach C P (.region id ops false) s st Q:=by
 obtain⟨s1,st1,h1,h2⟩:=h
 exact⟨_,s1,st1,Runs.region (.inl rfl) h1,h2⟩
theorem Reach.regionD {ops:Array Oper} (hd:drawB C P ops=true) (h:ROps C P true ops ops.toList s st (Q .normal)):Reach C P (.region id ops true) s st Q:=by
 obtain⟨s1,st1,h1,h2⟩:=h
 exact⟨_,s1,st1,Runs.region (.inr hd) h1,h2⟩
def ROpsW (b:Bool) (C:Cfg) (P:Program) (d:Bool) (all:Array Oper) (l:List Oper) (s:List V) (st:St) (Q:List V→St→Prop):Prop :=
 ∃s' st',OpsW b C P d all l s st s' st'∧Q s' st'
theorem ROpsW.rops {d:Bool} {all:Array Oper} {l:List Oper} {R:List V→St→Prop} (h:ROpsW false C P d all l s st R):ROps C P d all l s st R:=h
theorem Reach.regionF {ops:Array Oper} (hb:drawB C P ops=false) (h:ROpsW true C P true ops (hoist ops) s st fun s1 st1=>drawG C P ops (farB s1)=true∧Q .normal s1 st1):Reach C P (.region id ops true) s st Q:=by
 obtain⟨s1,st1,h1,hd,h2⟩:=h
 exact⟨_,s1,st1,Runs.regionF (by simp[hb]) hd h1,h2⟩
section
variable {d:Bool} {all:Array Oper} {l:List Oper} {o:Oper} {R:List V→St→Prop} {f:FuncId} {args:List V} {v:V}
section
variable {b:Bool}
theorem ROpsW.nil (h:R s st):ROpsW b C P d all [] s st R:=⟨s,st,⟨0,rfl⟩,h⟩
theorem ROpsW.mono {R':List V→St→Prop} (h:ROpsW b C P d all l s st R) (hR:∀s st,R s st→R' s st):ROpsW b C P d all l s st R':=by
 obtain⟨s2,st2,h1,h2⟩:=h
 exact⟨s2,st2,h1,hR _ _ h2⟩
theorem ROpsW.val1 (hw:wantedB all s o=some true) (ho:aop P s o st=some (.val v s1 st1))
 (hk:d=false∨st1.kills.length=st.kills.length∨lastB all o=true) (hR:ROpsW b C P d all l (putS s1 o.dst v) st1 R):ROpsW b C P d all (o::l) s st R:=by
 obtain⟨s2,st2,⟨k,h⟩,h2⟩:=hR
 refine⟨s2,st2,⟨k,?_⟩,h2⟩
 unfold opsRun opRun
 simp only[hw,ho]
 rw[if_neg (by rcases hk with rfl | hk | hk<;>simp[*])]
 exact h
theorem ROpsW.skip1 (hw:wantedB all s o=some false) (hR:ROpsW b C P d all l (putS s o.dst (.tup [])) st R):ROpsW b C P d all (o::l) s st R:=by
 obtain⟨s2,st2,⟨k,h⟩,h2⟩:=hR
 refine⟨s2,st2,⟨k,?_⟩,h2⟩
 unfold opsRun opRun
 simp only[hw]
 rw[if_neg (by simp)]
 exact h
theorem ROpsW.call1 {st0:St} (h0:st0=if P.funcs.size≤f then st else { st with kills:=[],y:=none }) (hw:wantedB all s o=some true) (ho:aop P s o st=some (.call f args)) (hc:RunsW b C P f args st0 v st1) (hd:d=false∨st1.kills=[])
 (hR:ROpsW b C P d all l (putS (killAll st1.kills s) o.dst v) { st1 with kills:=st1.kills++st.kills,y:=st.y } R):ROpsW b C P d all (o::l) s st R:=by
 obtain⟨s2,st2,⟨k2,h1⟩,h2⟩:=hR
 obtain⟨k1,hc⟩:=hc
 refine⟨s2,st2,⟨max k1 k2,?_⟩,h2⟩
 unfold opsRun opRun
 simp only[hw,ho]
 rw[←h0,callB_mono (Nat.le_max_left k1 k2) _ _ _ _ hc]
 simp only
 rw[if_neg (by rcases hd with rfl | hd<;>simp[*])]
 exact opsRun_mono (callB_mono (Nat.le_max_right k1 k2)) h1
end
end
def St.enter (st:St):St:={ st with lo:=st.heap.length,flo:=st.fams.length,kills:=[],y:=none }
inductive Turn (σ ρ:Type) where
 | next (x:σ)
 | out (e:AExit) (x:ρ)
section
variable {σ ρ:Type} {step:σ→Option (Turn σ ρ)}
end
section
variable {σ ρ:Type} {I:σ→List V→St→Prop} {O:AExit→ρ→List V→St→Prop}
end
end
end Go.Abs

namespace Go.Abs
open Go
def bnd {α β:Type} (o:Option α) (k:α→Option β):Option β:=match o with | some x=>k x | none=>none
def grd {β:Type} (c:Prop) [Decidable c] (b:Option β):Option β:=if c then b else none
def natOf {β:Type} (x:Int) (k:Nat→Option β):Option β:=if 0≤x then k x.toNat else none
section
variable {α β:Type} {r:β}
theorem natOf_elim {x:Int} {k:Nat→Option β} (h:natOf x k=some r):∃m:Nat,x=m∧k m=some r:=by
 unfold natOf at h
 split at h
 · exact⟨x.toNat,by omega,h⟩
 · simp at h
theorem natOf_nat {m:Nat} {k:Nat→Option β}:natOf (m:Int) k=k m:=by simp[natOf]
theorem bnd_elim {o:Option α} {k:α→Option β} (h:bnd o k=some r):∃x,o=some x∧k x=some r:=by
 cases o with
 | none=>simp[bnd] at h
 | some x=>exact⟨x,rfl,h⟩
theorem bnd_some {x:α} {k:α→Option β}:bnd (some x) k=k x:=rfl
theorem grd_elim {c:Prop} [Decidable c] {b:Option β} (h:grd c b=some r):c∧b=some r:=by
 unfold grd at h
 split at h
 · rename_i hc;exact⟨hc,h⟩
 · simp at h
theorem grd_pos {c:Prop} [Decidable c] {b:Option β} (h:c):grd c b=b:=by simp[grd,h]
end
section
variable {P:Program} {C:Cfg} {s:List V} {st:St} {d:Bool} {all:Array Oper} {l:List Oper} {o:Oper} {f:FuncId} {args:List V}
end
def LOk {α:Type} (t:Tok) (sz' sz:Nat) (xs:List α):Prop:=(t=.nil∧xs=[])∨(t≠.nil∧sz'=sz)
theorem wrap64 {x:Int} (h1:-9223372036854775808≤x) (h2:x≤9223372036854775807):IntKind.wrap .i64 x=x:=by
 simp[IntKind.wrap,IntKind.bits,IntKind.signed]
 omega
end Go.Abs

namespace Go.Abs
open Go
section
variable {α β:Type} {t:Tok} {q sz ty fl:Nat} {wr:Bool} {fs:List Fam} {xs:List α}
theorem LOk.size (h:LOk t q sz xs):t=.nil∨q=sz:=by
 rcases h with ⟨h1,_⟩ | ⟨_,h2⟩
 · exact .inl h1
 · exact .inr h2
theorem LOk.cut {ys:List α} (h:LOk t q sz xs) (hy:xs=[]→ys=[]) (b c:Nat):LOk (cutTok t b c) q sz ys:=by
 rcases h with ⟨rfl,h2⟩ | ⟨h1,h2⟩
 · exact .inl ⟨rfl,hy h2⟩
 · refine .inr ⟨?_,h2⟩
   cases t<;>simp[cutTok] at h1 ⊢
   split<;>simp
end
structure Flat {α:Type} (enc:α→V):Prop where
 upd:∀F ep i e x,V.upd F ep i e (enc x)=enc x
 freeze:∀f x,V.freeze f (enc x)=enc x
 free:∀F x,V.free F (enc x)=true
 kill:∀ks x,V.kill ks (enc x)=enc x
 under:∀h x,V.under h (enc x)=true
section
variable {α:Type} {enc:α→V}
end
end Go.Abs
namespace Go.Abs
open Go
section
variable {α:Type} {t:Tok} {q sz ty fl:Nat} {wr:Bool} {fs:List Fam} {xs:List α} {enc:α→V}
end
end Go.Abs
