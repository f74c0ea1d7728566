/- Part of a proof. -/
import Derived.Test.YthlcfhkcbmikcaaGreatLawB
import Derived.Test.YthlcfhkcbmikcaaGreatSxB
import Derived.Test.YthlcfhkcbmikcaaGreatSnD
set_option linter.unusedSimpArgs false
set_option linter.unusedVariables false
set_option linter.unusedSectionVars false
namespace Go.Abs
open Go
theorem loop_run {σ τ:Type} {step:σ→Option (σ ⊕ τ)} {t:τ} {s:Nat→σ}:∀(m:Nat),(∀i,i<m→step (s i)=some (.inl (s (i+1))))→step (s m)=some (.inr t)→loopS step (s 0)=some t:=by
 intro m
 suffices h:∀k,k≤m→(∀i,i<m→step (s i)=some (.inl (s (i+1))))→step (s m)=some (.inr t)→loopS step (s (m-k))=some t by
  intro h1 h2
  have:=h m (Nat.le_refl _) h1 h2
  rwa [Nat.sub_self] at this
 intro k
 induction k with
 | zero=>intro _ _ h2;exact loopS_out h2
 | succ k ih =>
  intro hk h1 h2
  rw[loopS_next (h1 (m-(k+1)) (by omega)),show m-(k+1)+1=m-k by omega]
  exact ih (by omega) h1 h2
theorem take_next {β:Type} {l:List β} {i:Nat} {x:β} (h:l[i]? = some x):l.take (i+1)=l.take i++[x]:=by
 rw[List.take_add_one,h];rfl
theorem group_in_eq (n m:Int):F_group_in n m=some (inC n m):=by
 unfold F_group_in inC
 by_cases h:0≤n<;>simp[h]
theorem ref10_small_eq (n:Int):F_ref10_small n=some (inC n 65535):=by
 unfold F_ref10_small inC
 by_cases h:0≤n<;>simp[h]
abbrev Sp:=Int×Int×Int
abbrev Pc:=List Sp×Int×Bool
def spanC (n:Nat) (s:Sp):Bool:=decide (0≤s.1)&&decide (s.1≤s.2.2)&&decide (s.2.1≤n)&&decide (s.2.2≤s.2.1)&&decide (4≤s.2.1-s.2.2)
def pieceC (n:Nat) (p:Pc):Bool:=decide (p.1≠[])&&p.1.all (spanC n)
end Go.Abs

namespace Go.Abs
open Go
def rot {β:Type} (l:List β) (a:Nat):List β:=l.drop a++l.take a
theorem rot_len {β:Type} (l:List β) (a:Nat):(rot l a).length=l.length:=by simp[rot];omega
theorem rot_get {β:Type} {l:List β} {a k:Nat} (ha:a<l.length) (hk:k<l.length):(rot l a)[k]? = l[(a+k) % l.length]? := by
 unfold rot
 by_cases h:a+k<l.length
 · rw[Nat.mod_eq_of_lt h,List.getElem?_append_left (by simp;omega),List.getElem?_drop]
 · have e:(a+k) % l.length=a+k-l.length:=by
    rw[Nat.mod_eq_sub_mod (by omega),Nat.mod_eq_of_lt (by omega)]
   rw[e,List.getElem?_append_right (by simp;omega),List.getElem?_take]
   simp only[List.length_drop]
   rw[if_pos (by omega)]
   congr 1
   omega
theorem rot_mem {β:Type} {l:List β} {a:Nat} {x:β} (h:x∈rot l a):x∈l:=by
 unfold rot at h
 rcases List.mem_append.1 h with h | h
 · exact List.mem_of_mem_drop h
 · exact List.mem_of_mem_take h
theorem at_eq {turn:Int} {n:Nat} (h:0≤turn) (hn:0<n):turn.tmod (n:Int)=((turn.toNat % n:Nat):Int):=by
 obtain⟨m,rfl⟩:=Int.eq_ofNat_of_zero_le h
 rw[Int.tmod_eq_emod_of_nonneg (by omega)]
 rfl
def seg (s:List UInt8) (a b:Nat):List UInt8:=List.drop a (List.take b s)
end Go.Abs

namespace Go.Abs
open Go
def scanF {β τ:Type} (f:Nat→β→Option τ) (e:τ):Nat→List β→τ
 | _,[]=>e
 | i,x::l=>match f i x with
  | some t=>t
  | none=>scanF f e (i+1) l
theorem loop_scan {β τ:Type} {l:List β} {step:Int→Option (Int ⊕ τ)} (f:Nat→β→Option τ) (e:τ)
 (hs:∀(i:Nat) x,l[i]? = some x→step (i:Int)=some (match f i x with | some t=>.inr t | none=>.inl ((i+1:Nat):Int))) (he:step (l.length:Int)=some (.inr e)):loopS step 0=some (scanF f e 0 l):=by
 suffices h:∀(v u:List β),l=u++v→loopS step (u.length:Int)=some (scanF f e u.length v) from h l [] rfl
 intro v
 induction v with
 | nil =>
  intro u hu
  rw[List.append_nil] at hu
  subst hu
  exact loopS_out he
 | cons x v ih =>
  intro u hu
  have hx:=hs u.length x (by rw[hu];simp)
  unfold scanF
  cases hf:f u.length x with
  | some t=>rw[hf] at hx;exact loopS_out hx
  | none =>
   rw[hf] at hx
   rw[loopS_next hx]
   have:=ih (u++[x]) (by rw[hu];simp)
   simpa using this
def lowN (n:List UInt8):List UInt8:=if nameS n then lowS n else []
theorem name_Low_eq {n:List UInt8} (h:(n.length:Int)≤maxI):F_name_Low n=some (lowN n):=by
 unfold F_name_Low lowN
 rw[name_Check_eq h,bnd_some,name_low_eq h]
 cases nameS n<;>rfl
theorem ref02_Low_eq {n:List UInt8} (h:(n.length:Int)≤maxI):F_ref02_Low n=some (lowN n):=by
 unfold F_ref02_Low lowN
 rw[ref02_Check_eq,bnd_some,ref02_Small_eq h]
 cases nameS n<;>rfl
abbrev Qq:=List UInt8×Int×Int
def okA (q:Qq):Bool:=nameS q.1&&(lowN q.1==q.1)&&inC q.2.1 65535&&inC q.2.2 65535
theorem ref10_Asked_eq {q:Qq} (h:(q.1.length:Int)≤maxI):F_ref10_Asked q=some (okA q):=by
 unfold F_ref10_Asked okA
 simp only[ref02_Check_eq,ref02_Low_eq h,ref10_small_eq,bnd_some,grdEq_self]
 cases nameS q.1<;>cases (lowN q.1==q.1)<;>cases inC q.2.1 65535<;>rfl
def lowD (kind:Int) (d:List UInt8):List UInt8 :=
 if shapeS kind=(0,0,0) then d else
 match namesW d (shapeS kind).2.1.toNat (shapeS kind).1 with
 | some (l,j)=>d.take (shapeS kind).1.toNat++(l.map lowN).flatten++d.drop j.toNat
 | none=>[]
theorem map_set {α:Type} {l:List α} {f:α→α} {i:Nat} {x:α} (h:l[i]? = some x):((l.take i).map f++l.drop i).set i (f x)=(l.take (i+1)).map f++l.drop (i+1):=by
 have hi:=(List.getElem?_eq_some_iff.1 h).1
 have e:l.drop i=x::l.drop (i+1):=by
  rw[List.drop_eq_getElem_cons hi]
  congr 1
  have:=List.getElem?_eq_getElem hi
  rw[h] at this
  exact (Option.some.inj this).symm
 rw[e,take_next h,List.set_append_right _ _ (by rw[List.length_map,List.length_take];omega),List.map_append]
 simp[Nat.min_eq_left (Nat.le_of_lt hi)]
theorem low_loop1 {u w:List UInt8} {l:List (List UInt8)} (hl:l.length≤1000) (hn:∀x∈l,(x.length:Int)≤maxI):loopS (step_data_Low_1 u w l) (l,(0,l))=some (l.map lowN):=by
 have hm:maxI=9223372036854775807:=rfl
 have:=loop_run (step:=step_data_Low_1 u w l) (t:=l.map lowN) (s:=fun i=>((l.take i).map lowN++l.drop i,((i:Int),(l.take i).map lowN++l.drop i))) l.length (fun i hi=>by
  obtain⟨x,hx⟩:∃x,l[i]? = some x:=⟨l[i],by simp[hi]⟩
  have hg:((l.take i).map lowN++l.drop i)[i]? = some x:=by
   rw[List.getElem?_append_right (by rw[List.length_map,List.length_take];omega),List.getElem?_drop]
   simp only[List.length_map,List.length_take]
   rw[Nat.min_eq_left (by omega),Nat.sub_self,Nat.add_zero,hx]
  simp only[step_data_Low_1,grdEq_self]
  rw[if_pos (by simp;omega),natOf_nat,hg,bnd_some,name_Low_eq (hn x (List.mem_of_getElem? hx)),bnd_some,natOf_nat,hg,bnd_some,map_set hx,wrap_id (by omega) (by omega)]
  rfl) (by
  simp only[step_data_Low_1,grdEq_self]
  rw[if_neg (by simp)]
  simp)
 simpa using this
theorem lowN_len (x:List UInt8):(lowN x).length≤x.length:=by
 unfold lowN
 split
 · rw[lowS_len];exact Nat.le_refl _
 · simp
theorem lowN_flat:∀l:List (List UInt8),((l.map lowN).flatten).length≤l.flatten.length
 | []=>by simp
 | x::l=>by
  have h1:=lowN_len x
  have h2:=lowN_flat l
  rw[List.map_cons,List.flatten_cons,List.flatten_cons,List.length_append,List.length_append]
  omega
theorem data_Low_eq {kind:Int} {d:List UInt8} (h:dataC kind d=true):F_data_Low kind d=some (lowD kind d):=by
 have hm:maxI=9223372036854775807:=rfl
 obtain⟨hl,he⟩:=dataC_iff h
 have hf:=(expS_form he).2
 obtain⟨v0,v1,v2,v3,v4,v5⟩:=shapeS_ok kind
 unfold F_data_Low lowD
 rw[data_Check_eq,bnd_some,h]
 simp only[Bool.not_true,Bool.false_eq_true,if_false,grdEq_self]
 rcases hf with ⟨hz,_⟩ | ⟨hz,A,l,C,rfl,hA,hll,hC,hnm⟩
 · have hq:shpF kind=none:=by rw[shpF_eq,if_pos hz]
   simp only[hq,Option.isSome_none,Bool.not_false,if_true,bnd_some,hz]
   rw[low_loop1 (by simp) (by simp),bnd_some]
   have:=whole_eq (p:=(d,([],[]))) (by simp) (by simp;omega)
   simp only[List.map_nil]
   rw[this,bnd_some]
   simp
 · have hq:=shpF_some hz
   simp only[hq,Option.isSome_some,Bool.not_true,Bool.false_eq_true,if_false,Option.getD_some,hz]
   have hdl:(A++(l.flatten++C)).length=A.length+l.flatten.length+C.length:=by simp only[List.length_append];omega
   have hnn:=namesW_plain l ((0:Int)+(A.length:Int)) (l.flatten++C).length C hnm ((takeS_app (takeS_self (A++(l.flatten++C)))).2)
   rw[hll,show (0:Int)+(A.length:Int)=(shapeS kind).1 by omega] at hnn
   rw[if_neg (by rw[wrap_id (by omega) (by omega)];simp only[Bool.not_eq_true',decide_eq_false_iff_not];omega),show (0:Int)+(shapeS kind).1=(shapeS kind).1 by omega,wrap_id (x:=(shapeS kind).1) (by omega) (by omega),natOf_pos (by omega),grdp (by omega),grdp (by omega)]
   generalize (sputM tI tK 33 (6,1,0) (sputM tI tK 15 (2,1,0) (sputM tI tK 6 (0,2,20) (sputM tI tK 12 (0,1,0) (sputM tI tK 5 (0,1,0) (sputM tI tK 2 (0,1,0) (sputM tI tK 28 (16,0,0) (sputM tI tK 1 (4,0,0) []))))))))=M
   obtain⟨l',hlp⟩:=low_names (msg:=A++(l.flatten++C)) (by omega) kind ((A++(l.flatten++C)).length:Int) rfl (shapeS kind).1.toNat M (shapeS kind) (by rw[hq];rfl) (shapeS kind).2.1.toNat (shapeS kind).1 0 [] (by omega) (by omega) (by omega) (by omega) (by simp)
   rw[hlp,bnd_some,hnn]
   simp only
   rw[if_pos (by omega)]
   simp only[List.nil_append,bnd_some]
   rw[grdp (Nat.le_refl _),natOf_pos (by omega),grdp (by omega)]
   simp only[bnd_some]
   have hll2:l.length≤2:=by omega
   rw[low_loop1 (by omega) (fun x hx=>by have:=(nameS_pos (hnm x hx)).2;omega),bnd_some]
   have hfl:=lowN_flat l
   rw[List.take_length]
   have:=whole_eq (p:=(List.drop 0 (List.take (shapeS kind).1.toNat (A++(l.flatten++C))),(List.drop ((shapeS kind).1+(l.flatten.length:Int)).toNat (A++(l.flatten++C)),l.map lowN))) (by simp only[List.length_map];omega) (by simp only[List.drop_zero,List.length_take,List.length_drop];omega)
   rw[this,bnd_some]
   simp
end Go.Abs

namespace Go.Abs
open Go
theorem names_loop {d:List UInt8} (hs:(d.length:Int)≤maxI) (v:Int×Int×Int):∀(n:Nat) (out:List (List UInt8)) (i k:Int) (l:List (List UInt8)) (j:Int),k+n=v.2.1→0≤k→v.2.1≤100→out.length≤100+k→namesW d n i=some (l,j) →
 loopS (step_ref05_Names_0 d v) (out,(i,k))=some (out++l):=by
 intro n
 induction n with
 | zero =>
  intro out i k l j hk h0 hv ho hn
  simp only[namesW,Option.some.injEq,Prod.mk.injEq] at hn
  obtain⟨rfl,rfl⟩:=hn
  apply loopS_out
  simp only[step_ref05_Names_0,grdEq_self]
  rw[if_neg (by simp;omega)]
  simp
 | succ n ih =>
  intro out i k l j hk h0 hv ho hn
  rw[namesW] at hn
  split at hn
  · rename_i he
    cases hr:namesW d n (readS d i).2.1 with
    | none=>rw[hr] at hn;simp at hn
    | some p =>
     obtain⟨l2,j2⟩:=p
     rw[hr] at hn
     simp only[Option.map_some,Option.some.injEq,Prod.mk.injEq] at hn
     obtain⟨rfl,rfl⟩:=hn
     rw[loopS_next (y:=(out++[(readS d i).1],((readS d i).2.1,k+1)))]
     · rw[ih _ _ (k+1) l2 j2 (by omega) (by omega) hv (by simp;omega) hr]
       simp
     · simp only[step_ref05_Names_0,ref04_Read_eq hs,bnd_some,grdEq_self]
       rw[if_pos (by simp;omega),grdp (by unfold roomLim;simp;omega),wrap_id (by omega) (by omega)]
  · simp at hn
theorem refLow_loop {d A:List UInt8} {v:Int×Int×Int} {l:List (List UInt8)} (hA:A.length≤100) (hl:l.length≤2) (hf:l.flatten.length≤100000) (hn:∀x∈l,x.length≤255) :
 loopS (step_ref05_Low_0 d l v) (A,((A.length:Int),0))=some (A++(l.map lowN).flatten,((A.length+l.flatten.length:Nat):Int)):=by
 have hm:maxI=9223372036854775807:=rfl
 have:=loop_run (step:=step_ref05_Low_0 d l v) (t:=(A++(l.map lowN).flatten,((A.length+l.flatten.length:Nat):Int))) (s:=fun i=>(A++((l.take i).map lowN).flatten,(((A.length+(l.take i).flatten.length:Nat):Int),(i:Int)))) l.length (fun i hi=>by
  obtain⟨x,hx⟩:∃x,l[i]? = some x:=⟨l[i],by simp[hi]⟩
  have hxl:=hn x (List.mem_of_getElem? hx)
  have hlx:=lowN_len x
  have hle:((l.take i).flatten).length≤l.flatten.length:=by
   conv=>rhs;rw[←List.take_append_drop i l,List.flatten_append,List.length_append]
   omega
  have hle2:=lowN_flat (l.take i)
  simp only[step_ref05_Low_0,grdEq_self]
  rw[if_pos (by simp;omega),natOf_nat,hx,bnd_some,ref02_Low_eq (by omega),bnd_some,grdp (by unfold maxStr;rw[List.length_append];omega),natOf_nat,hx,bnd_some,wrap_id (by omega) (by omega),wrap_id (by omega) (by omega),take_next hx]
  simp only[List.map_append,List.map_cons,List.map_nil,List.flatten_append,List.flatten_cons,List.flatten_nil,List.append_nil,List.append_assoc,List.length_append]
  congr 3
  simp only[Prod.mk.injEq,and_true]
  constructor<;>omega) (by
  simp only[step_ref05_Low_0,grdEq_self]
  rw[if_neg (by simp)]
  simp)
 simpa using this
theorem ref05_Low_eq {kind:Int} {d:List UInt8} (h:dataC kind d=true):F_ref05_Low kind d=some (lowD kind d):=by
 have hm:maxI=9223372036854775807:=rfl
 obtain⟨hl,he⟩:=dataC_iff h
 have hf:=(expS_form he).2
 obtain⟨v0,v1,v2,v3,v4,v5⟩:=shapeS_ok kind
 unfold F_ref05_Low F_ref05_Names lowD
 rw[ref05_Check_eq,bnd_some,h]
 simp only[Bool.not_true,Bool.false_eq_true,if_false,grdEq_self,bnd_some,shape_eq]
 rcases hf with ⟨hz,_⟩ | ⟨hz,A,l,C,rfl,hA,hll,hC,hnm⟩
 · have h1:=names_loop (d:=d) (by omega) (0,0,0) 0 [] 0 0 [] 0 (by simp) (by omega) (by simp) (by simp) rfl
   have h2:=refLow_loop (d:=d) (A:=[]) (v:=(0,0,0)) (l:=[]) (by simp) (by simp) (by simp) (by simp)
   simp only[hz,if_true]
   simp only[List.length_nil,Int.natCast_zero] at h1 h2
   rw[h1]
   simp only[bnd_some,List.append_nil]
   rw[natOf_pos (by omega),grdp (by simp),show (0:Int).toNat=0 from rfl,List.take_zero,h2,bnd_some]
   simp only[List.map_nil,List.flatten_nil,List.append_nil,List.length_nil,Nat.add_zero]
   rw[natOf_nat,grdp (by omega),grdp (by unfold maxStr;simp;omega)]
   simp
 · have hdl:(A++(l.flatten++C)).length=A.length+l.flatten.length+C.length:=by simp only[List.length_append];omega
   have hnn:=namesW_plain l ((0:Int)+(A.length:Int)) (l.flatten++C).length C hnm ((takeS_app (takeS_self (A++(l.flatten++C)))).2)
   rw[hll,show (0:Int)+(A.length:Int)=(shapeS kind).1 by omega] at hnn
   have h1:=names_loop (d:=A++(l.flatten++C)) (by omega) (shapeS kind) (shapeS kind).2.1.toNat [] (shapeS kind).1 0 l _ (by omega) (by omega) (by omega) (by simp) hnn
   rw[List.nil_append] at h1
   have hta:List.take (shapeS kind).1.toNat (A++(l.flatten++C))=A:=by rw[←hA,List.take_left]
   have h2:=refLow_loop (d:=A++(l.flatten++C)) (A:=A) (v:=shapeS kind) (l:=l) (by omega) (by omega) (by omega) (fun x hx=>(nameS_pos (hnm x hx)).2)
   have hfl:=lowN_flat l
   rw[h1]
   simp only[bnd_some,hz,if_false,hnn]
   rw[natOf_pos (by omega),grdp (by omega),hta,show (shapeS kind).1=(A.length:Int) by omega,h2,bnd_some]
   simp only
   rw[natOf_nat,grdp (by omega),grdp (by unfold maxStr;simp only[List.length_append,List.length_drop];omega)]
   rfl
theorem scan_has {α τ:Type} [BEq α] [LawfulBEq α] [DecidableEq α] {f:Nat→α→Option τ} {v:α} {r:Nat→τ} {e:τ} (hf:∀i x,f i x=if x=v then some (r i) else none):∀(l:List α) (i:Nat),(l.contains v=false∧scanF f e i l=e)∨(l.contains v=true∧∃j,scanF f e i l=r j)
 | [],i=>.inl ⟨by simp,rfl⟩
 | x::l,i=>by
  unfold scanF
  rw[hf]
  by_cases h:x=v
  · rw[if_pos h]
    exact .inr ⟨by simp[h],i,rfl⟩
  · rw[if_neg h]
    have hc:(x::l).contains v=l.contains v:=by
     rw[List.contains_cons]
     have:(v==x)=false:=by simpa using fun e=>h e.symm
     rw[this,Bool.false_or]
    rw[hc]
    exact scan_has hf l (i+1)
theorem ref10_In_eq {l:List (List UInt8)} (hl:(l.length:Int)≤maxI) (s:List UInt8):F_ref10_In l s=some (l.contains s):=by
 have hm:maxI=9223372036854775807:=rfl
 unfold F_ref10_In
 have hloop:=loop_scan (l:=l) (step:=step_ref10_In_0 l s) (fun i x=>if x=s then some (Sum.inl (β:=Unit) true) else none) (.inr ()) (fun i x hx=>by
  have hi:=(List.getElem?_eq_some_iff.1 hx).1
  simp only[step_ref10_In_0,grdEq_self]
  rw[if_pos (by simp;omega),natOf_nat,hx,bnd_some,wrap_id (by omega) (by omega)]
  by_cases h:x=s<;>simp[h]) (by
  simp only[step_ref10_In_0,grdEq_self]
  rw[if_neg (by simp)])
 rw[hloop,bnd_some]
 rcases scan_has (f:=fun i x=>if x=s then some (Sum.inl (β:=Unit) true) else none) (v:=s) (r:=fun _=>Sum.inl true) (e:=.inr ()) (fun i x=>rfl) l 0 with ⟨h1,h2⟩ | ⟨h1,j,h2⟩
 · rw[h1,h2]
 · rw[h1,h2]
theorem contains_eq {l:List (List UInt8)} (hl:(l.length:Int)≤maxI) (s:List UInt8):F_slices_Contains_string l s=some (l.contains s):=by
 have hm:maxI=9223372036854775807:=rfl
 unfold F_slices_Contains_string F_slices_Index_string
 have hloop:=loop_scan (l:=l) (step:=step_slices_Index_string_0 l s) (fun i x=>if x=s then some (Sum.inl (β:=Unit) (i:Int)) else none) (.inr ()) (fun i x hx=>by
  have hi:=(List.getElem?_eq_some_iff.1 hx).1
  simp only[step_slices_Index_string_0,grdEq_self]
  rw[if_pos (by simp;omega),natOf_nat,hx,bnd_some,wrap_id (by omega) (by omega)]
  by_cases h:x=s
  · simp[h]
  · have:(s==x)=false:=by simpa using fun e=>h e.symm
    simp[h,this]) (by
  simp only[step_slices_Index_string_0,grdEq_self]
  rw[if_neg (by simp)])
 rw[hloop,bnd_some]
 rcases scan_has (f:=fun i x=>if x=s then some (Sum.inl (β:=Unit) (i:Int)) else none) (v:=s) (r:=fun i=>Sum.inl (i:Int)) (e:=.inr ()) (fun i x=>rfl) l 0 with ⟨h1,h2⟩ | ⟨h1,j,h2⟩
 · rw[h1,h2];rfl
 · rw[h1,h2]
   simp only[bnd_some]
   simp
end Go.Abs

namespace Go.Abs
open Go
abbrev Se:=List UInt8×Int×Int×List (List UInt8)×Int
def dataI (kind:Int) (l:List (List UInt8)) (i:Nat) (x:List UInt8):Bool:=dataC kind x&&(lowD kind x==x)&&!((l.take i).contains x)
def datasR (kind:Int) (l:List (List UInt8)):Bool ⊕ Unit:=scanF (fun i x=>if dataI kind l i x then none else some (.inl false)) (.inr ()) 0 l
def datasC (kind:Int) (l:List (List UInt8)):Bool:=match datasR kind l with | .inr _=>true | .inl _=>false
theorem scan_val {β:Type} {ok:Nat→β→Bool}:∀(l:List β) (i:Nat),scanF (fun i x=>if ok i x then none else some (Sum.inl (β:=Unit) false)) (.inr ()) i l=.inr ()∨scanF (fun i x=>if ok i x then none else some (Sum.inl (β:=Unit) false)) (.inr ()) i l=.inl false
 | [],i=>.inl rfl
 | x::l,i=>by
  unfold scanF
  by_cases h:ok i x=true
  · rw[if_pos h];exact scan_val l (i+1)
  · rw[if_neg h];exact .inr rfl
theorem datasR_eq (kind:Int) (l:List (List UInt8)):datasR kind l=if datasC kind l then .inr () else .inl false:=by
 unfold datasC
 rcases scan_val (ok:=dataI kind l) l 0 with h | h
 · have:datasR kind l=.inr ():=h
   rw[this];rfl
 · have:datasR kind l=.inl false:=h
   rw[this];rfl
theorem scan_all {β:Type} {ok:Nat→β→Bool}:∀(l:List β) (i:Nat),scanF (fun i x=>if ok i x then none else some (Sum.inl (β:=Unit) false)) (.inr ()) i l=.inr ()→∀j x,l[j]? = some x→ok (i+j) x=true
 | [],i,_,j,x,h=>by simp at h
 | y::l,i,h,j,x,hx=>by
  unfold scanF at h
  by_cases hy:ok i y=true
  · rw[if_pos hy] at h
    cases j with
    | zero=>simp at hx;subst hx;exact hy
    | succ j =>
     have:=scan_all l (i+1) h j x (by simpa using hx)
     rwa [show i+1+j=i+(j+1) by omega] at this
  · rw[if_neg hy] at h;simp at h
theorem datasC_mem {kind:Int} {l:List (List UInt8)} (h:datasC kind l=true):∀x∈l,dataC kind x=true:=by
 intro x hx
 have hr:datasR kind l=.inr ():=by rw[datasR_eq,h];rfl
 obtain⟨j,hj,rfl⟩:=List.getElem_of_mem hx
 have:=scan_all (ok:=dataI kind l) l 0 hr j _ (List.getElem?_eq_getElem hj)
 unfold dataI at this
 simp only[Bool.and_eq_true] at this
 exact this.1.1
def setC (s:Se):Bool:=okA (s.1,s.2.1,s.2.2.1)&&inC s.2.2.2.2 2147483647&&datasC s.2.1 s.2.2.2.1&&decide (0<s.2.2.2.1.length)
def fewS (s:Se):Prop:=(s.1.length:Int)≤maxI∧s.2.2.2.1.length≤1000
theorem group_datas {s:Se} (hl:s.2.2.2.1.length≤1000):loopS (step_group_Check_0 s) 0=some (datasR s.2.1 s.2.2.2.1):=by
 have hm:maxI=9223372036854775807:=rfl
 refine loop_scan (l:=s.2.2.2.1) _ _ (fun i x hx=>?_) ?_
 · have hi:=(List.getElem?_eq_some_iff.1 hx).1
   simp only[step_group_Check_0,grdEq_self]
   rw[if_pos (by simp;omega),natOf_nat,hx,bnd_some,data_Check_eq,bnd_some,wrap_id (by omega) (by omega)]
   unfold dataI
   cases hc:dataC s.2.1 x with
   | false=>simp
   | true =>
    simp only[Bool.not_true,if_true]
    rw[data_Low_eq hc,bnd_some]
    cases hlo:(lowD s.2.1 x==x) with
    | false=>simp
    | true =>
     simp only[Bool.not_true,if_true]
     rw[natOf_nat,grdp (by omega),contains_eq (by simp;omega),bnd_some]
     cases (s.2.2.2.1.take i).contains x<;>simp
 · simp only[step_group_Check_0,grdEq_self]
   rw[if_neg (by simp)]
theorem ref10_datas {s:Se} (hl:s.2.2.2.1.length≤1000):loopS (step_ref10_Check_0 s) 0=some (datasR s.2.1 s.2.2.2.1):=by
 have hm:maxI=9223372036854775807:=rfl
 refine loop_scan (l:=s.2.2.2.1) _ _ (fun i x hx=>?_) ?_
 · have hi:=(List.getElem?_eq_some_iff.1 hx).1
   simp only[step_ref10_Check_0,grdEq_self]
   rw[if_pos (by simp;omega),natOf_nat,hx,bnd_some,ref05_Check_eq,bnd_some,wrap_id (by omega) (by omega)]
   unfold dataI
   cases hc:dataC s.2.1 x with
   | false=>simp
   | true =>
    simp only[Bool.not_true,if_true]
    rw[ref05_Low_eq hc,bnd_some]
    cases hlo:(lowD s.2.1 x==x) with
    | false=>simp
    | true =>
     simp only[Bool.not_true,if_true]
     rw[natOf_nat,grdp (by omega),ref10_In_eq (by simp;omega),bnd_some]
     cases (s.2.2.2.1.take i).contains x<;>simp
 · simp only[step_ref10_Check_0,grdEq_self]
   rw[if_neg (by simp)]
theorem group_Check_eq {s:Se} (h:fewS s):F_group_Check s=some (setC s):=by
 obtain⟨h1,h2⟩:=h
 unfold F_group_Check setC okA
 simp only[name_Check_eq h1,name_Low_eq h1,group_in_eq,bnd_some,grdEq_self,group_datas h2,datasR_eq]
 have e:decide ((0:Int)<(s.2.2.2.1.length:Int))=decide (0<s.2.2.2.1.length):=by rw[Bool.eq_iff_iff];simp
 rw[e]
 cases nameS s.1<;>cases (lowN s.1==s.1)<;>cases inC s.2.1 65535<;>cases inC s.2.2.1 65535<;>cases inC s.2.2.2.2 2147483647<;>cases datasC s.2.1 s.2.2.2.1<;>rfl
theorem ref10_Check_eq {s:Se} (h:fewS s):F_ref10_Check s=some (setC s):=by
 obtain⟨h1,h2⟩:=h
 unfold F_ref10_Check setC
 have ea:F_ref10_Asked (s.1,s.2.1,s.2.2.1)=some (okA (s.1,s.2.1,s.2.2.1)):=ref10_Asked_eq h1
 simp only[ea,bnd_some,grdEq_self,ref10_datas h2,datasR_eq]
 have e:decide ((0:Int)<(s.2.2.2.1.length:Int))=decide (0<s.2.2.2.1.length):=by rw[Bool.eq_iff_iff];simp
 rw[e]
 have e2:inC s.2.2.2.2 2147483647=(decide (0≤s.2.2.2.2)&&decide (s.2.2.2.2<2147483648)):=by
  unfold inC
  congr 1
  rw[Bool.eq_iff_iff];simp;omega
 rw[e2]
 cases okA (s.1,s.2.1,s.2.2.1)<;>cases decide (0≤s.2.2.2.2)<;>cases decide (s.2.2.2.2<2147483648)<;>cases datasC s.2.1 s.2.2.2.1<;>rfl
def recI (s:Se) (ttl:Int) (d:List UInt8):RRt:=(s.1,s.2.1,s.2.2.1,ttl,d)
def flatS (s:Se) (ttl turn:Int):List RRt :=
 if setC s=false∨inC ttl 2147483647=false∨turn<0 then [] else (rot s.2.2.2.1 (turn.toNat % s.2.2.2.1.length)).map (recI s ttl)
theorem flat_loop {s:Se} {ttl:Int} {R:List (List UInt8)} (hl:R.length≤1000):loopS (step_group_Flat_0 s ttl R) ([],(R,0))=some (R.map (recI s ttl)):=by
 have:=loop_run (step:=step_group_Flat_0 s ttl R) (t:=R.map (recI s ttl)) (s:=fun i=>((R.take i).map (recI s ttl),(R,(i:Int)))) R.length (fun i hi=>by
  obtain⟨x,hx⟩:∃x,R[i]? = some x:=⟨R[i],by simp[hi]⟩
  simp only[step_group_Flat_0,grdEq_self]
  rw[if_pos (by simp;omega),natOf_nat,hx,bnd_some,grdp (by unfold roomLim;simp;omega),wrap_id (by omega) (by omega),take_next hx]
  simp[recI]) (by
  simp only[step_group_Flat_0,grdEq_self]
  rw[if_neg (by simp)]
  simp)
 simpa using this
theorem group_Flat_eq {s:Se} (h:fewS s) (ttl turn:Int):F_group_Flat s ttl turn=some (flatS s ttl turn):=by
 obtain⟨h1,h2⟩:=h
 unfold F_group_Flat flatS
 have e:F_group_Check (s.fst,s.snd.fst,s.snd.snd.fst,s.snd.snd.snd.fst,s.snd.snd.snd.snd)=some (setC s):=group_Check_eq ⟨h1,h2⟩
 simp only[e,group_in_eq,bnd_some,grdEq_self]
 cases hc:setC s with
 | false=>simp[bnd_some]
 | true =>
  cases hi:inC ttl 2147483647 with
  | false=>simp[bnd_some]
  | true =>
   by_cases ht:turn<0
   · simp[ht,bnd_some]
   · have hpos:0<s.2.2.2.1.length:=by
      unfold setC at hc
      simp only[Bool.and_eq_true,decide_eq_true_eq] at hc
      exact hc.2
     have hat:=at_eq (turn:=turn) (n:=s.2.2.2.1.length) (by omega) hpos
     have hlt:turn.toNat % s.2.2.2.1.length<s.2.2.2.1.length:=Nat.mod_lt _ hpos
     simp only[Bool.not_true,if_true,ht,decide_false,Bool.false_eq_true,if_false,bnd_some]
     rw[if_neg (show ¬((s.2.2.2.1.length:Nat):Int)=0 by omega),hat,natOf_nat,grdp (by omega),natOf_nat,grdp (by omega)]
     generalize turn.toNat % s.2.2.2.1.length=a at *
     have d1:((List.drop a s.2.2.2.1).length:Int)=(s.2.2.2.1.length:Int)-a:=by rw[List.length_drop];omega
     have d2:((List.take a s.2.2.2.1).length:Int)=a:=by rw[List.length_take];omega
     have w1:IntKind.i64.wrap (0+((List.drop a s.2.2.2.1).length:Int))=(s.2.2.2.1.length:Int)-a:=by rw[d1,wrap_id (by omega) (by omega)];omega
     have w2:IntKind.i64.wrap ((s.2.2.2.1.length:Int)-a+((List.take a s.2.2.2.1).length:Int))=(s.2.2.2.1.length:Int):=by rw[d2,wrap_id (by omega) (by omega)];omega
     have w3:IntKind.i64.wrap ((s.2.2.2.1.length:Int)-0)=(s.2.2.2.1.length:Int):=by rw[wrap_id (by omega) (by omega)];omega
     simp only[w1,w2,w3]
     rw[if_neg (by simp;omega),if_neg (by simp),if_neg (by simp),bnd_some,if_pos (by simp;omega)]
     have l1:(List.drop a s.2.2.2.1).length≤1000:=by rw[List.length_drop];omega
     have l2:(List.take a s.2.2.2.1).length≤1000:=by rw[List.length_take];omega
     rw[grdp ⟨by omega,by omega,by omega⟩,grdp (by rw[List.length_replicate];unfold roomLim;omega),grdp (by omega),grdp (by simp only[List.take_zero,List.length_nil];unfold roomLim;omega),grdp (by simp only[List.take_zero,List.nil_append,List.length_append,List.length_nil];unfold roomLim;omega)]
     simp only[List.take_zero,List.nil_append,bnd_some]
     have:=flat_loop (s:=s) (ttl:=ttl) (R:=rot s.2.2.2.1 a) (by rw[rot_len];exact h2)
     unfold rot at this
     rw[this,bnd_some]
     simp[rot]
theorem ref10_Flat_eq {s:Se} (h:fewS s) (ttl turn:Int):F_ref10_Flat s ttl turn=some (flatS s ttl turn):=by
 obtain⟨h1,h2⟩:=h
 unfold F_ref10_Flat flatS
 have e:F_ref10_Check (s.fst,s.snd.fst,s.snd.snd.fst,s.snd.snd.snd.fst,s.snd.snd.snd.snd)=some (setC s):=ref10_Check_eq ⟨h1,h2⟩
 simp only[e,bnd_some,grdEq_self]
 cases hc:setC s with
 | false=>simp[bnd_some]
 | true =>
  by_cases i1:ttl<0
  · have:inC ttl 2147483647=false:=by unfold inC;simp;omega
    simp[i1,this,bnd_some]
  · by_cases i2:2147483648≤ttl
    · have:inC ttl 2147483647=false:=by unfold inC;simp;omega
      simp[i1,i2,this,bnd_some]
    · have hi:inC ttl 2147483647=true:=by unfold inC;simp;omega
      by_cases ht:turn<0
      · simp[i1,i2,hi,ht,bnd_some]
      · have hpos:0<s.2.2.2.1.length:=by
         unfold setC at hc
         simp only[Bool.and_eq_true,decide_eq_true_eq] at hc
         exact hc.2
        have hat:=at_eq (turn:=turn) (n:=s.2.2.2.1.length) (by omega) hpos
        have hlt:turn.toNat % s.2.2.2.1.length<s.2.2.2.1.length:=Nat.mod_lt _ hpos
        simp only[Bool.not_true,if_true,i1,i2,hi,ht,decide_false,Bool.false_eq_true,Bool.true_eq_false,or_self,if_false,bnd_some]
        have:=loop_run (step:=step_ref10_Flat_0 s ttl turn) (t:=(rot s.2.2.2.1 (turn.toNat % s.2.2.2.1.length)).map (recI s ttl)) (s:=fun i=>(((rot s.2.2.2.1 (turn.toNat % s.2.2.2.1.length)).take i).map (recI s ttl),(i:Int))) s.2.2.2.1.length (fun i hi=>by
         obtain⟨x,hx⟩:∃x,(rot s.2.2.2.1 (turn.toNat % s.2.2.2.1.length))[i]? = some x:=⟨(rot s.2.2.2.1 (turn.toNat % s.2.2.2.1.length))[i]'(by rw[rot_len];exact hi),by simp⟩
         have hx2:=hx
         rw[rot_get hlt hi] at hx2
         have hmod:((turn.toNat % s.2.2.2.1.length:Nat)+(i:Int)).tmod (s.2.2.2.1.length:Int)=(((turn.toNat % s.2.2.2.1.length+i) % s.2.2.2.1.length:Nat):Int):=by
          rw[Int.tmod_eq_emod_of_nonneg (by omega)];rfl
         simp only[step_ref10_Flat_0,grdEq_self]
         rw[if_pos (by simp;omega),if_neg (by omega),if_neg (by omega),hat,wrap_id (x:=((turn.toNat % s.2.2.2.1.length:Nat):Int)+(i:Int)) (by omega) (by omega),hmod,natOf_nat,hx2,bnd_some,grdp (by unfold roomLim;simp;omega),wrap_id (by omega) (by omega),take_next hx]
         simp[recI]) (by
         simp only[step_ref10_Flat_0,grdEq_self]
         rw[if_neg (by simp),List.take_of_length_le (by rw[rot_len];exact Nat.le_refl _)])
        simp only[List.take_zero,List.map_nil,Int.natCast_zero] at this
        rw[this,bnd_some]
end Go.Abs

namespace Go.Abs
open Go
abbrev Hi:=List UInt8×Int×Int×List (List UInt8)×Int×Int
abbrev Ch:=List Hi×Int×List UInt8×Hi
def hitS (h:Hi):Se:=(h.1,h.2.1,h.2.2.1,h.2.2.2.1,h.2.2.2.2.1)
def smallS (s:Se):Bool:=s.2.2.2.1.all (fun x=>decide (x.length≤2000)&&decide (s.2.2.2.1.length≤60))&&decide (s.1.length≤300)
def smallC (c:Ch):Bool:=c.1.all (fun h=>smallS (hitS h))&&decide (c.1.length≤12)&&smallS (hitS c.2.2.2)
def okC (c:Ch):Prop:=(c.1.length:Int)≤maxI∧(∀h∈c.1,(h.2.2.2.1.length:Int)≤maxI)∧(c.2.2.2.2.2.2.1.length:Int)≤maxI
theorem smallS_iff {s:Se} (h:smallS s=true):s.2.2.2.1.length≤60∧(∀x∈s.2.2.2.1,x.length≤2000)∧s.1.length≤300:=by
 unfold smallS at h
 simp only[Bool.and_eq_true,List.all_eq_true,decide_eq_true_eq] at h
 refine⟨?_,fun x hx=>(h.1 x hx).1,h.2⟩
 cases hd:s.2.2.2.1 with
 | nil=>simp
 | cons x l=>rw[←hd];exact (h.1 x (by rw[hd];simp)).2
theorem ref10_Small_eq {s:Se} (hl:(s.2.2.2.1.length:Int)≤maxI):F_ref10_Small s=some (smallS s):=by
 have hm:maxI=9223372036854775807:=rfl
 unfold F_ref10_Small smallS
 obtain⟨r,r1,r2⟩:=all_loop (ok:=fun x:List UInt8=>decide (x.length≤2000)&&decide (s.2.2.2.1.length≤60)) (bad:=fun _=>false) (step:=step_ref10_Small_0 s) s.2.2.2.1 (by
  simp only[step_ref10_Small_0,grdEq_self]
  rw[if_neg (by simp)]) (fun i x hx=>by
  have hi:=(List.getElem?_eq_some_iff.1 hx).1
  simp only[step_ref10_Small_0,natOf_nat,hx,bnd_some,grdEq_self]
  rw[if_pos (by simp;omega),wrap_id (by omega) (by omega)]
  by_cases h1:x.length≤2000
  · have e1:¬(2000:Int)<(x.length:Int):=by omega
    by_cases h2:s.2.2.2.1.length≤60
    · have e2:¬(60:Int)<(s.2.2.2.1.length:Int):=by omega
      simp[h1,h2,e1,e2]
    · have e2:(60:Int)<(s.2.2.2.1.length:Int):=by omega
      simp[h1,h2,e1,e2]
  · have e1:(2000:Int)<(x.length:Int):=by omega
    simp[h1,e1])
 rw[r1,bnd_some]
 have e:decide ((s.1.length:Int)≤300)=decide (s.1.length≤300):=by rw[Bool.eq_iff_iff];simp;omega
 by_cases h:s.2.2.2.1.all (fun x:List UInt8=>decide (x.length≤2000)&&decide (s.2.2.2.1.length≤60))=true
 · rw[if_pos h] at r2;subst r2;simp only[h,e,Bool.true_and]
 · rw[if_neg h] at r2;obtain⟨_,rfl⟩:=r2
   simp only[Bool.not_eq_true] at h
   simp only[h,Bool.false_and]
theorem ref17_Small_eq {c:Ch} (hc:okC c):F_ref17_Small c=some (smallC c):=by
 have hm:maxI=9223372036854775807:=rfl
 obtain⟨c1,c2,c3⟩:=hc
 unfold F_ref17_Small smallC
 obtain⟨r,r1,r2⟩:=all_loop (ok:=fun h:Hi=>smallS (hitS h)) (bad:=fun _=>false) (step:=step_ref17_Small_0 c) c.1 (by
  simp only[step_ref17_Small_0,grdEq_self]
  rw[if_neg (by simp)]) (fun i x hx=>by
  have hi:=(List.getElem?_eq_some_iff.1 hx).1
  have e:F_ref10_Small (x.fst,x.snd.fst,x.snd.snd.fst,x.snd.snd.snd.fst,x.snd.snd.snd.snd.fst)=some (smallS (hitS x)):=ref10_Small_eq (c2 x (List.mem_of_getElem? hx))
  simp only[step_ref17_Small_0,natOf_nat,hx,bnd_some,grdEq_self,e]
  rw[if_pos (by simp;omega),wrap_id (by omega) (by omega)]
  cases smallS (hitS x)<;>simp)
 rw[r1,bnd_some]
 have e2:F_ref10_Small (c.snd.snd.snd.fst,c.snd.snd.snd.snd.fst,c.snd.snd.snd.snd.snd.fst,c.snd.snd.snd.snd.snd.snd.fst,c.snd.snd.snd.snd.snd.snd.snd.fst)=some (smallS (hitS c.2.2.2)):=ref10_Small_eq c3
 have e:decide ((c.1.length:Int)≤12)=decide (c.1.length≤12):=by rw[Bool.eq_iff_iff];simp;omega
 by_cases h:c.1.all (fun h:Hi=>smallS (hitS h))=true
 · rw[if_pos h] at r2;subst r2
   simp only[h,e,e2,grdEq_self,bnd_some,Bool.true_and]
   cases decide (c.1.length≤12)<;>simp
 · rw[if_neg h] at r2;obtain⟨_,rfl⟩:=r2
   simp only[Bool.not_eq_true] at h
   simp only[h,Bool.false_and]
theorem chain_eq {c:Ch} (hl:c.1.length≤12):F_law17_Chain c=some c:=by
 unfold F_law17_Chain
 have:=loop_run (step:=step_law17_Chain_0 c) (t:=c.1) (s:=fun i=>((i:Int),c.1.take i)) c.1.length (fun i hi=>by
  obtain⟨x,hx⟩:∃x,c.1[i]? = some x:=⟨c.1[i],by simp[hi]⟩
  simp only[step_law17_Chain_0,grdEq_self]
  rw[if_pos (by simp;omega),natOf_nat,hx,bnd_some,grdp (by unfold roomLim;simp;omega),wrap_id (by omega) (by omega),take_next hx]
  rfl) (by
  simp only[step_law17_Chain_0,grdEq_self]
  rw[if_neg (by simp)]
  simp)
 simp only[List.take_zero,Int.natCast_zero] at this
 rw[this,bnd_some]
abbrev TP:=List UInt8×List Pc
theorem flatS_mem {s:Se} {ttl turn:Int} {r:RRt} (hs:smallS s=true) (h:r∈flatS s ttl turn):goodR r∧r.1.length≤255∧∃d∈s.2.2.2.1,r=recI s ttl d:=by
 unfold flatS at h
 split at h
 · simp at h
 · rename_i hc
   simp only[not_or,Bool.not_eq_false] at hc
   obtain⟨d,hd,rfl⟩:=List.mem_map.1 h
   have hd:=rot_mem hd
   obtain⟨s1,s2,s3⟩:=smallS_iff hs
   have hset:=hc.1
   unfold setC okA at hset
   simp only[Bool.and_eq_true] at hset
   have hnm:=hset.1.1.1.1.1.1
   have hdc:=datasC_mem hset.1.2 d hd
   refine⟨⟨s3,s2 d hd,?_⟩,(nameS_pos hnm).2,d,hd,rfl⟩
   unfold recC recI
   simp only[Bool.and_eq_true]
   exact⟨⟨⟨⟨hnm,hset.1.1.1.1.2⟩,hset.1.1.1.2⟩,hc.2.1⟩,hdc⟩
theorem flatS_len {s:Se} {ttl turn:Int} (hs:smallS s=true):(flatS s ttl turn).length≤60:=by
 obtain⟨s1,s2,s3⟩:=smallS_iff hs
 unfold flatS
 split
 · simp
 · rw[List.length_map,rot_len];exact s1
end Go.Abs

namespace Go.Abs
open Go
end Go.Abs

namespace Go.Abs
open Go
def covW:Int→List Sp→Int→Prop
 | a,[],b=>a=b
 | a,s::l,b=>s.1=a∧0≤s.1∧s.1≤4000000∧s.1≤s.2.1∧s.1+5≤s.2.2∧covW s.2.1 l b
def covP:Int→List Pc→Int→Prop
 | a,[],b=>a=b
 | a,p::l,b=>∃m,covW a p.1 m∧covP m l b
structure Made (t:TP) (n:Nat):Prop where
 cov:covP 0 t.2 (t.1.length:Int)
 len:t.1.length≤136020*n
 num:t.2.length=n
 few:∀p∈t.2,p.1.length≤60
end Go.Abs

namespace Go.Abs
open Go
@[reducible] def tHi:Ty:=(.agg (.cons .str (.cons (.int .i64) (.cons (.int .i64) (.cons (.list .str) (.cons (.int .i64) (.int .i64)))))))
@[reducible] def tCh:Ty:=(.agg (.cons (.list tHi) (.cons (.int .i64) (.cons .str (.cons .str (.cons (.int .i64) (.cons (.int .i64) (.cons (.list .str) (.cons (.int .i64) (.int .i64))))))))))
theorem okC_of {c:Ch} (w:wfd tCh c):okC c:=by
 have hl:maxLen=9223372036854775807:=rfl
 have hm:maxI=9223372036854775807:=rfl
 obtain⟨⟨w1,w2⟩,_,_,_,_,_,⟨w3,_⟩,_⟩:=w
 rw[hl] at w1 w3
 refine⟨by omega,fun h hh=>?_,by omega⟩
 obtain⟨_,_,_,⟨w4,_⟩,_⟩:=w2 h hh
 rw[hl] at w4
 omega
end Go.Abs

namespace Go.Abs
open Go
structure Fit (t:TP):Prop where
 ok:∀p∈t.2,pieceC t.1.length p=true
 till:∀p∈t.2,p.2.1≤4000000000000
end Go.Abs

namespace Go.Abs
open Go
theorem flatS_yes {s:Se} {ttl turn:Int} (h:flatS s ttl turn≠[]):setC s=true∧inC ttl 2147483647=true:=by
 unfold flatS at h
 split at h
 · exact absurd rfl h
 · rename_i hc
   simp only[not_or,Bool.not_eq_false] at hc
   exact⟨hc.1,hc.2.1⟩
theorem flatS_val {s:Se} {ttl turn:Int} (h1:setC s=true) (h2:inC ttl 2147483647=true) (h3:0≤turn):flatS s ttl turn=(rot s.2.2.2.1 (turn.toNat % s.2.2.2.1.length)).map (recI s ttl):=by
 unfold flatS
 rw[if_neg (by rw[h1,h2];simp;omega)]
end Go.Abs

namespace Go.Abs
open Go
theorem and_mask (n k:Nat) (hn:n<9223372036854775808) (hk:k<60):Go.bits .and .i64 (n:Int) ((2 ^ k-1:Nat):Int)=((n % 2 ^ k:Nat):Int):=by
 have hp:2 ^ k<2 ^ 63:=Nat.pow_lt_pow_right (by omega) (by omega)
 rw[i64_and_nat n (2 ^ k-1) hn (by omega),Nat.and_two_pow_sub_one_eq_mod]
def goodB (b:Int):Bool:=decide (0≤b)&&decide (b≤65535)
theorem goodB_iff {b:Int}:goodB b=true↔0≤b∧b≤65535:=by simp[goodB]
def ofS (d m:Int) (b:Int):Int:=if goodB b then b / d % m else 0
theorem ofS_yes {d m b:Int} (h0:0≤b) (h1:b≤65535):ofS d m b=b / d % m:=by unfold ofS;rw[if_pos (goodB_iff.2 ⟨h0,h1⟩)]
theorem ofS_lt {d m b:Int} (hm:0<m):0≤ofS d m b∧ofS d m b<m:=by
 unfold ofS
 split
 · exact⟨Int.emod_nonneg _ (by omega),Int.emod_lt_of_pos _ hm⟩
 · exact⟨by omega,hm⟩
theorem may_eq {f b:Int} (h0:0≤f) (h1:f<9):F_flag_Field_may f b=some (goodB b):=by
 unfold F_flag_Field_may goodB
 by_cases h2:0≤b
 · by_cases h3:b≤65535
   · simp[h0,h1,h2,h3]
   · simp[h2,h3]
 · simp[h2]
theorem fof_core {b:Int} (hg:goodB b=true) (s k:Nat) (hs:s<20) (hk:k<10):Go.bits .and .i64 (b.fdiv ((2 ^ s:Nat):Int)) ((2 ^ k-1:Nat):Int)=b / ((2 ^ s:Nat):Int) % ((2 ^ k:Nat):Int):=by
 obtain⟨h0,h1⟩:=goodB_iff.1 hg
 obtain⟨n,rfl⟩:=Int.eq_ofNat_of_zero_le h0
 have e:((n:Int)).fdiv ((2 ^ s:Nat):Int)=((n / 2 ^ s:Nat):Int):=by
  rw[Int.fdiv_eq_ediv_of_nonneg _ (Int.natCast_nonneg _)];rfl
 have hle:n / 2 ^ s≤n:=Nat.div_le_self _ _
 rw[e,and_mask (n / 2 ^ s) k (by omega) (by omega)]
 rfl
theorem mask_4_1:F_flag_place_mask (4,1)=some 1:=by kernel_rfl
theorem mask_8_1:F_flag_place_mask (8,1)=some 1:=by kernel_rfl
theorem mask_11_4:F_flag_place_mask (11,4)=some 15:=by kernel_rfl
theorem mask_15_1:F_flag_place_mask (15,1)=some 1:=by kernel_rfl
theorem pow_0:F_ref07_power 0=some 1:=by kernel_rfl
theorem pow_1:F_ref07_power 1=some 2:=by kernel_rfl
theorem pow_4:F_ref07_power 4=some 16:=by kernel_rfl
theorem pow_9:F_ref07_power 9=some 512:=by kernel_rfl
theorem pow_15:F_ref07_power 15=some 32768:=by kernel_rfl
theorem pl_0:F_ref07_place 0=some (15,1):=by kernel_rfl
theorem pl_3:F_ref07_place 3=some (9,1):=by kernel_rfl
theorem pl_8:F_ref07_place 8=some (0,4):=by kernel_rfl
theorem of0_eq (b:Int):F_flag_Field_Of 0 b=some (ofS 32768 2 b):=by
 unfold F_flag_Field_Of ofS
 rw[may_eq (by omega) (by omega),bnd_some]
 cases hg:goodB b with
 | false=>rfl
 | true =>
  simp only[Bool.not_true,Bool.false_eq_true,if_false,beq_self_eq_true,if_true,mask_15_1,bnd_some]
  exact congrArg some (fof_core hg 15 1 (by omega) (by omega))
theorem of1_eq (b:Int):F_flag_Field_Of 1 b=some (ofS 2048 16 b):=by
 unfold F_flag_Field_Of ofS
 rw[may_eq (by omega) (by omega),bnd_some]
 cases hg:goodB b with
 | false=>rfl
 | true =>
  simp only[Bool.not_true,Bool.false_eq_true,if_false,beq_self_eq_true,if_true,mask_11_4,bnd_some,show ((1:Int)==0)=false from rfl]
  exact congrArg some (fof_core hg 11 4 (by omega) (by omega))
theorem of4_eq (b:Int):F_flag_Field_Of 4 b=some (ofS 256 2 b):=by
 unfold F_flag_Field_Of ofS
 rw[may_eq (by omega) (by omega),bnd_some]
 cases hg:goodB b with
 | false=>rfl
 | true =>
  simp only[Bool.not_true,Bool.false_eq_true,if_false,beq_self_eq_true,if_true,mask_8_1,bnd_some,show ((4:Int)==0)=false from rfl,show ((4:Int)==1)=false from rfl,show ((4:Int)==2)=false from rfl,show ((4:Int)==3)=false from rfl]
  exact congrArg some (fof_core hg 8 1 (by omega) (by omega))
theorem of7_eq (b:Int):F_flag_Field_Of 7 b=some (ofS 16 2 b):=by
 unfold F_flag_Field_Of ofS
 rw[may_eq (by omega) (by omega),bnd_some]
 cases hg:goodB b with
 | false=>rfl
 | true =>
  simp only[Bool.not_true,Bool.false_eq_true,if_false,beq_self_eq_true,if_true,mask_4_1,bnd_some,show ((7:Int)==0)=false from rfl,show ((7:Int)==1)=false from rfl,show ((7:Int)==2)=false from rfl,show ((7:Int)==3)=false from rfl,show ((7:Int)==4)=false from rfl,show ((7:Int)==5)=false from rfl,show ((7:Int)==6)=false from rfl]
  exact congrArg some (fof_core hg 4 1 (by omega) (by omega))
theorem rof0_eq (b:Int):F_ref07_Of 0 b=some (ofS 32768 2 b):=by
 unfold F_ref07_Of
 simp only[pl_0,bnd_some,grdEq_self,pow_15,pow_1]
 by_cases h0:0≤b
 · have g0:decide (b<0)=false:=decide_eq_false (by omega)
   by_cases h1:b≤65535
   · have g1:decide (65535<b)=false:=decide_eq_false (by omega)
     have e:b.tdiv 32768=b / 32768:=Int.tdiv_eq_ediv_of_nonneg h0
     have e2:(b / 32768).tmod 2=b / 32768 % 2:=Int.tmod_eq_emod_of_nonneg (by omega)
     have e3:IntKind.i64.wrap (b / 32768)=b / 32768:=wrap_id (by omega) (by omega)
     rw[ofS_yes h0 h1]
     simp only[g0,g1,if_true,show ((1:Int)==0)=false from rfl,Bool.false_eq_true,if_false,bnd_some,e,e3,e2]
     rw[if_neg (by omega),if_neg (by omega)]
   · have g1:decide (65535<b)=true:=decide_eq_true (by omega)
     have g2:goodB b=false:=by simp[goodB,h1]
     unfold ofS
     simp only[g0,g1,g2,if_true,Bool.true_eq_false,Bool.false_eq_true,if_false,bnd_some]
 · have g0:decide (b<0)=true:=decide_eq_true (by omega)
   have g2:goodB b=false:=by simp[goodB,h0]
   unfold ofS
   simp only[g0,g2,Bool.true_eq_false,Bool.false_eq_true,if_false,bnd_some]
theorem rof3_eq (b:Int):F_ref07_Of 3 b=some (ofS 512 2 b):=by
 unfold F_ref07_Of
 simp only[pl_3,bnd_some,grdEq_self,pow_9,pow_1]
 by_cases h0:0≤b
 · have g0:decide (b<0)=false:=decide_eq_false (by omega)
   by_cases h1:b≤65535
   · have g1:decide (65535<b)=false:=decide_eq_false (by omega)
     have e:b.tdiv 512=b / 512:=Int.tdiv_eq_ediv_of_nonneg h0
     have e2:(b / 512).tmod 2=b / 512 % 2:=Int.tmod_eq_emod_of_nonneg (by omega)
     have e3:IntKind.i64.wrap (b / 512)=b / 512:=wrap_id (by omega) (by omega)
     rw[ofS_yes h0 h1]
     simp only[g0,g1,if_true,show ((1:Int)==0)=false from rfl,Bool.false_eq_true,if_false,bnd_some,e,e3,e2]
     rw[if_neg (by omega),if_neg (by omega)]
   · have g1:decide (65535<b)=true:=decide_eq_true (by omega)
     have g2:goodB b=false:=by simp[goodB,h1]
     unfold ofS
     simp only[g0,g1,g2,if_true,Bool.true_eq_false,Bool.false_eq_true,if_false,bnd_some]
 · have g0:decide (b<0)=true:=decide_eq_true (by omega)
   have g2:goodB b=false:=by simp[goodB,h0]
   unfold ofS
   simp only[g0,g2,Bool.true_eq_false,Bool.false_eq_true,if_false,bnd_some]
theorem rof8_eq (b:Int):F_ref07_Of 8 b=some (ofS 1 16 b):=by
 unfold F_ref07_Of
 simp only[pl_8,bnd_some,grdEq_self,pow_0,pow_4]
 by_cases h0:0≤b
 · have g0:decide (b<0)=false:=decide_eq_false (by omega)
   by_cases h1:b≤65535
   · have g1:decide (65535<b)=false:=decide_eq_false (by omega)
     have e:b.tdiv 1=b / 1:=Int.tdiv_eq_ediv_of_nonneg h0
     have e2:(b / 1).tmod 16=b / 1 % 16:=Int.tmod_eq_emod_of_nonneg (by omega)
     have e3:IntKind.i64.wrap (b / 1)=b / 1:=wrap_id (by omega) (by omega)
     rw[ofS_yes h0 h1]
     simp only[g0,g1,if_true,show ((4:Int)==0)=false from rfl,Bool.false_eq_true,if_false,bnd_some,e,e3,e2]
     rw[if_neg (by omega),if_neg (by omega)]
   · have g1:decide (65535<b)=true:=decide_eq_true (by omega)
     have g2:goodB b=false:=by simp[goodB,h1]
     unfold ofS
     simp only[g0,g1,g2,if_true,Bool.true_eq_false,Bool.false_eq_true,if_false,bnd_some]
 · have g0:decide (b<0)=true:=decide_eq_true (by omega)
   have g2:goodB b=false:=by simp[goodB,h0]
   unfold ofS
   simp only[g0,g2,Bool.true_eq_false,Bool.false_eq_true,if_false,bnd_some]
def ansB (o r c k:Int):Int:=32768+2048*o+256*r+128+16*c+k
theorem lay_5:F_flag_Field_lay 5 0 1=some 128:=by kernel_rfl
theorem lay_0:F_flag_Field_lay 0 128 1=some 32896:=by kernel_rfl
def tab8:Bool:=(List.range 16).all fun (k:Nat)=>decide (F_flag_Field_lay 8 32896 (k:Int)=some (32896+(k:Int)))
theorem tab8_ok:tab8=true:=by kernel_rfl
def tab1:Bool:=(List.range 16).all fun (k:Nat)=>(List.range 16).all fun (o:Nat)=>decide (F_flag_Field_lay 1 (32896+(k:Int)) (o:Int)=some (32896+(k:Int)+2048*(o:Int)))
theorem tab1_ok:tab1=true:=by kernel_rfl
def tab4:Bool:=(List.range 16).all fun (k:Nat)=>(List.range 16).all fun (o:Nat)=>(List.range 2).all fun (r:Nat)=>decide (F_flag_Field_lay 4 (32896+(k:Int)+2048*(o:Int)) (r:Int)=some (32896+(k:Int)+2048*(o:Int)+256*(r:Int)))
theorem tab4_ok:tab4=true:=by kernel_rfl
def tab7:Bool:=(List.range 16).all fun (k:Nat)=>(List.range 16).all fun (o:Nat)=>(List.range 2).all fun (r:Nat)=>(List.range 2).all fun (c:Nat)=>decide (F_flag_Field_lay 7 (32896+(k:Int)+2048*(o:Int)+256*(r:Int)) (c:Int)=some (ansB o r c k))
theorem tab7_ok:tab7=true:=by kernel_rfl
def tabW:Bool:=(List.range 16).all fun (k:Nat)=>(List.range 16).all fun (o:Nat)=>(List.range 2).all fun (r:Nat)=>(List.range 2).all fun (c:Nat)=>decide (F_flag_Field_With 3 (ansB o r c k) 1=some (ansB o r c k+512,true))
theorem tabW_ok:tabW=true:=by kernel_rfl
theorem all_range {n:Nat} {p:Nat→Bool} (h:(List.range n).all p=true) {x:Int} (h0:0≤x) (h1:x<n):∃k:Nat,x=(k:Int)∧p k=true:=by
 obtain⟨k,rfl⟩:=Int.eq_ofNat_of_zero_le h0
 rw[List.all_eq_true] at h
 exact⟨k,rfl,h k (by simp;omega)⟩
theorem lay8_eq {k:Int} (h0:0≤k) (h1:k<16):F_flag_Field_lay 8 32896 k=some (32896+k):=by
 obtain⟨n,rfl,h⟩:=all_range (n:=16) tab8_ok h0 (by omega)
 exact of_decide_eq_true h
theorem lay1_eq {k o:Int} (h0:0≤k) (h1:k<16) (h2:0≤o) (h3:o<16):F_flag_Field_lay 1 (32896+k) o=some (32896+k+2048*o):=by
 obtain⟨n,rfl,h⟩:=all_range (n:=16) tab1_ok h0 (by omega)
 obtain⟨m,rfl,h⟩:=all_range (n:=16) h h2 (by omega)
 exact of_decide_eq_true h
theorem lay4_eq {k o r:Int} (h0:0≤k) (h1:k<16) (h2:0≤o) (h3:o<16) (h4:0≤r) (h5:r<2):F_flag_Field_lay 4 (32896+k+2048*o) r=some (32896+k+2048*o+256*r):=by
 obtain⟨n,rfl,h⟩:=all_range (n:=16) tab4_ok h0 (by omega)
 obtain⟨m,rfl,h⟩:=all_range (n:=16) h h2 (by omega)
 obtain⟨x,rfl,h⟩:=all_range (n:=2) h h4 (by omega)
 exact of_decide_eq_true h
theorem lay7_eq {k o r c:Int} (h0:0≤k) (h1:k<16) (h2:0≤o) (h3:o<16) (h4:0≤r) (h5:r<2) (h6:0≤c) (h7:c<2):F_flag_Field_lay 7 (32896+k+2048*o+256*r) c=some (ansB o r c k):=by
 obtain⟨n,rfl,h⟩:=all_range (n:=16) tab7_ok h0 (by omega)
 obtain⟨m,rfl,h⟩:=all_range (n:=16) h h2 (by omega)
 obtain⟨x,rfl,h⟩:=all_range (n:=2) h h4 (by omega)
 obtain⟨y,rfl,h⟩:=all_range (n:=2) h h6 (by omega)
 exact of_decide_eq_true h
theorem withTC_eq {k o r c:Int} (h0:0≤k) (h1:k<16) (h2:0≤o) (h3:o<16) (h4:0≤r) (h5:r<2) (h6:0≤c) (h7:c<2):F_flag_Field_With 3 (ansB o r c k) 1=some (ansB o r c k+512,true):=by
 obtain⟨n,rfl,h⟩:=all_range (n:=16) tabW_ok h0 (by omega)
 obtain⟨m,rfl,h⟩:=all_range (n:=16) h h2 (by omega)
 obtain⟨x,rfl,h⟩:=all_range (n:=2) h h4 (by omega)
 obtain⟨y,rfl,h⟩:=all_range (n:=2) h h6 (by omega)
 exact of_decide_eq_true h
def answerS (asked code:Int):Int:=ansB (ofS 2048 16 asked) (ofS 256 2 asked) (ofS 16 2 asked) (code % 16)
theorem flag_Answer_eq {asked code:Int} (h0:0≤code) (h1:code≤255):F_flag_Answer asked code=some (answerS asked code):=by
 have ho:=ofS_lt (d:=2048) (m:=16) (b:=asked) (by omega)
 have hr:=ofS_lt (d:=256) (m:=2) (b:=asked) (by omega)
 have hc:=ofS_lt (d:=16) (m:=2) (b:=asked) (by omega)
 have hk:Go.bits Go.BinOp.and Go.IntKind.i64 (if 0 > code then 0 else code) 15=code % 16:=by
  rw[if_neg (by omega)]
  obtain⟨n,rfl⟩:=Int.eq_ofNat_of_zero_le h0
  exact and_mask n 4 (by omega) (by omega)
 have hk0:0≤code % 16∧code % 16<16:=by omega
 unfold F_flag_Answer
 simp only[lay_5,bnd_some,lay_0,hk,lay8_eq hk0.1 hk0.2]
 have e1:step_flag_Answer_0 asked (32896+code % 16,0)=some (.inl (32896+code % 16+2048*ofS 2048 16 asked,1)):=by
  unfold step_flag_Answer_0
  simp only[show decide ((0:Int)<3)=true from rfl,if_true,natOf,show ((0:Int)≤0) from by omega,Int.toNat_zero,List.getElem?_cons_zero,bnd_some,of1_eq,lay1_eq hk0.1 hk0.2 ho.1 ho.2,grdEq_self]
  rfl
 have e2:step_flag_Answer_0 asked (32896+code % 16+2048*ofS 2048 16 asked,1)=some (.inl (32896+code % 16+2048*ofS 2048 16 asked+256*ofS 256 2 asked,2)):=by
  unfold step_flag_Answer_0
  simp only[show decide ((1:Int)<3)=true from rfl,if_true,natOf,show ((0:Int)≤1) from by omega,show Int.toNat 1=1 from rfl,List.getElem?_cons_succ,List.getElem?_cons_zero,bnd_some,of4_eq,lay4_eq hk0.1 hk0.2 ho.1 ho.2 hr.1 hr.2,grdEq_self]
  rfl
 have e3:step_flag_Answer_0 asked (32896+code % 16+2048*ofS 2048 16 asked+256*ofS 256 2 asked,2)=some (.inl (answerS asked code,3)):=by
  unfold step_flag_Answer_0 answerS
  simp only[show decide ((2:Int)<3)=true from rfl,if_true,natOf,show ((0:Int)≤2) from by omega,show Int.toNat 2=2 from rfl,List.getElem?_cons_succ,List.getElem?_cons_zero,bnd_some,of7_eq,lay7_eq hk0.1 hk0.2 ho.1 ho.2 hr.1 hr.2 hc.1 hc.2,grdEq_self]
  rfl
 have e4:step_flag_Answer_0 asked (answerS asked code,3)=some (.inr (answerS asked code)):=by
  unfold step_flag_Answer_0
  rfl
 rw[loopS_next e1,loopS_next e2,loopS_next e3,loopS_out e4]
 rfl
theorem answerS_TC (asked code:Int):F_flag_Field_With 3 (answerS asked code) 1=some (answerS asked code+512,true):=by
 have ho:=ofS_lt (d:=2048) (m:=16) (b:=asked) (by omega)
 have hr:=ofS_lt (d:=256) (m:=2) (b:=asked) (by omega)
 have hc:=ofS_lt (d:=16) (m:=2) (b:=asked) (by omega)
 exact withTC_eq (by omega) (by omega) ho.1 ho.2 hr.1 hr.2 hc.1 hc.2
theorem answerS_of (asked code:Int):(0≤answerS asked code∧answerS asked code+512≤65535)∧ofS 32768 2 (answerS asked code)=1∧ofS 512 2 (answerS asked code)=0∧ofS 1 16 (answerS asked code)=code % 16 ∧
 ofS 32768 2 (answerS asked code+512)=1∧ofS 512 2 (answerS asked code+512)=1∧ofS 1 16 (answerS asked code+512)=code % 16:=by
 have ho:=ofS_lt (d:=2048) (m:=16) (b:=asked) (by omega)
 have hr:=ofS_lt (d:=256) (m:=2) (b:=asked) (by omega)
 have hc:=ofS_lt (d:=16) (m:=2) (b:=asked) (by omega)
 have hb:0≤answerS asked code∧answerS asked code+512≤65535:=by unfold answerS ansB;omega
 rw[ofS_yes hb.1 (by omega),ofS_yes hb.1 (by omega),ofS_yes hb.1 (by omega),ofS_yes (by omega) hb.2,ofS_yes (by omega) hb.2,ofS_yes (by omega) hb.2]
 refine⟨hb,?_⟩
 unfold answerS ansB
 generalize ofS 2048 16 asked=o at *
 generalize ofS 256 2 asked=r at *
 generalize ofS 16 2 asked=c at *
 omega
end Go.Abs

namespace Go.Abs
open Go
abbrev Ep:=Bool×Int×Int×Int×Bool
def op0:Ep:=(false,0,0,0,false)
def isO (r:RRt):Bool:=r.2.1==41
def goodO (r:RRt):Bool:=(r.1==[0])&&inC r.2.2.1 65535&&inC r.2.2.2.1 4294967295
def optO (r:RRt):Ep:=(true,r.2.2.1,r.2.2.2.1 / 16777216,r.2.2.2.1 / 65536 % 256,decide (r.2.2.2.1 / 32768 % 2=1))
def findS (m:Mt):Ep×Int :=
 if (m.2.2.2.1.any isO || m.2.2.2.2.1.any isO)=true then (op0,7) else
 match m.2.2.2.2.2.filter isO with
 | []=>(op0,0)
 | [r]=>if goodO r=true then (optO r,0) else (op0,7)
 | _=>(op0,7)
def scanO (l:List RRt):Int ⊕ Unit:=scanF (fun i x=>if isO x=true then some (Sum.inl (β:=Unit) (i:Int)) else none) (.inr ()) 0 l
theorem scanO_go:∀(l:List RRt) (i:Nat),(l.any isO=false∧scanF (fun i x=>if isO x=true then some (Sum.inl (β:=Unit) (i:Int)) else none) (.inr ()) i l=.inr ()) ∨
 ∃u r v,l=u++r::v∧u.any isO=false∧isO r=true∧scanF (fun i x=>if isO x=true then some (Sum.inl (β:=Unit) (i:Int)) else none) (.inr ()) i l=.inl ((i+u.length:Nat):Int)
 | [],i=>.inl ⟨rfl,rfl⟩
 | x::l,i=>by
  unfold scanF
  by_cases h:isO x=true
  · simp only[h,if_true]
    exact .inr ⟨[],x,l,rfl,rfl,h,rfl⟩
  · simp only[h,Bool.false_eq_true,if_false]
    rcases scanO_go l (i+1) with ⟨h1,h2⟩ | ⟨u,r,v,h1,h2,h3,h4⟩
    · exact .inl ⟨by simp[h,h1],h2⟩
    · refine .inr ⟨x::u,r,v,by simp[h1],by simp[h,h2],h3,?_⟩
      rw[h4]
      congr 2
      simp only[List.length_cons]
      omega
theorem scanO_cases (l:List RRt):(l.any isO=false∧scanO l=.inr ())∨∃u r v,l=u++r::v∧u.any isO=false∧isO r=true∧scanO l=.inl (u.length:Int):=by
 have:=scanO_go l 0
 simpa[scanO] using this
theorem any_filter (l:List RRt):l.any isO=false↔l.filter isO=[]:=by
 rw[List.filter_eq_nil_iff,List.any_eq_false]
theorem edns_in_eq (n m:Int):F_edns_in n m=some (inC n m):=by
 unfold F_edns_in inC
 by_cases h0:0≤n<;>simp[h0]
theorem find_loop {l:List RRt} {step:Int→Option (Int ⊕ (Int ⊕ Unit))} (hl:(l.length:Int)≤maxI)
 (hs:∀(i:Nat) (x:RRt),l[i]? = some x→i<l.length→step (i:Int)=if isO x=true then some (.inr (.inl (i:Int))) else some (.inl (IntKind.i64.wrap ((i:Int)+1)))) (he:step (l.length:Int)=some (.inr (.inr ()))):loopS step 0=some (scanO l):=by
 refine loop_scan _ _ (fun i x hx=>?_) he
 have hi:=(List.getElem?_eq_some_iff.1 hx).1
 unfold maxI at hl
 rw[hs i x hx hi,wrap_id (by omega) (by omega)]
 by_cases h:isO x=true<;>simp[h]
theorem find_step {l:List RRt} {step:Int→Option (Int ⊕ (Int ⊕ Unit))} (hst:step=fun i=>if decide (i<(l.length:Int))=true then natOf i fun n=>bnd (l[n]?) fun x=>bnd (F_edns_opt (x.1,x.2.1,x.2.2.1,x.2.2.2.1,x.2.2.2.2)) fun v=>if v=true then some (.inr (.inl i)) else some (.inl (IntKind.i64.wrap (i+1))) else some (.inr (.inr ())))
 (hl:(l.length:Int)≤maxI):loopS step 0=some (scanO l):=by
 subst hst
 refine find_loop hl (fun i x hx hi=>?_) ?_
 · simp only[show decide ((i:Int)<(l.length:Int))=true from decide_eq_true (by omega),if_true,natOf,Int.natCast_nonneg,Int.toNat_natCast,hx,bnd_some,F_edns_opt]
   rfl
 · simp
theorem and_pow15 (k:Nat):k &&& 2 ^ 15=if k / 2 ^ 15 % 2=1 then 2 ^ 15 else 0:=by
 apply Nat.eq_of_testBit_eq
 intro i
 rw[Nat.testBit_and,Nat.testBit_two_pow]
 by_cases hi:15=i
 · subst hi
   rw[Nat.testBit_eq_decide_div_mod_eq]
   by_cases h:k / 2 ^ 15 % 2=1
   · rw[if_pos h,Nat.testBit_two_pow];simp[h]
   · rw[if_neg h];simp[h]
 · by_cases h:k / 2 ^ 15 % 2=1
   · rw[if_pos h,Nat.testBit_two_pow];simp[hi]
   · rw[if_neg h];simp[hi]
theorem do_bit {n:Int} (h0:0≤n) (h1:n≤4294967295):(Go.bits .and .i64 n 32768 != 0)=decide (n / 32768 % 2=1):=by
 obtain⟨k,rfl⟩:=Int.eq_ofNat_of_zero_le h0
 have:=i64_and_nat k 32768 (by omega) (by omega)
 rw[show ((32768:Nat):Int)=32768 from rfl] at this
 rw[this,show (32768:Nat)=2 ^ 15 from rfl,and_pow15]
 have e:((k:Int) / 32768 % 2=1)↔(k / 2 ^ 15 % 2=1):=by omega
 by_cases h:k / 2 ^ 15 % 2=1
 · rw[decide_eq_true (e.2 h)]
   simp[h]
 · rw[decide_eq_false (fun q=>h (e.1 q))]
   simp[h]
theorem low8 {n:Int} (h0:0≤n) (h1:n≤4294967295):Go.bits .and .i64 (n.fdiv 65536) 255=n / 65536 % 256:=by
 obtain⟨k,rfl⟩:=Int.eq_ofNat_of_zero_le h0
 have e:((k:Int)).fdiv 65536=((k / 65536:Nat):Int):=by
  rw[Int.fdiv_eq_ediv_of_nonneg _ (by omega)];rfl
 rw[e]
 have:=and_mask (k / 65536) 8 (by omega) (by omega)
 rw[show ((2 ^ 8-1:Nat):Int)=255 from rfl] at this
 rw[this]
 rfl
theorem findS_any {m:Mt} (h:m.2.2.2.1.any isO=true∨m.2.2.2.2.1.any isO=true):findS m=(op0,7):=by
 unfold findS
 rw[if_pos (by rcases h with h | h<;>simp[h])]
theorem findS_none {m:Mt} (h1:m.2.2.2.1.any isO=false) (h2:m.2.2.2.2.1.any isO=false) (h3:m.2.2.2.2.2.any isO=false):findS m=(op0,0):=by
 unfold findS
 rw[if_neg (by simp[h1,h2]),(any_filter _).1 h3]
theorem findS_some {m:Mt} {u v:List RRt} {r:RRt} (h1:m.2.2.2.1.any isO=false) (h2:m.2.2.2.2.1.any isO=false) (h3:m.2.2.2.2.2=u++r::v) (hu:u.any isO=false) (hr:isO r=true) :
 findS m=if (v.any isO || !goodO r)=true then (op0,7) else (optO r,0):=by
 unfold findS
 rw[if_neg (by simp[h1,h2]),h3,List.filter_append,(any_filter _).1 hu,List.nil_append,List.filter_cons,hr,if_pos rfl]
 cases hv:v.any isO with
 | false =>
  rw[(any_filter _).1 hv]
  cases hg:goodO r<;>simp[hg]
 | true =>
  have:v.filter isO≠[]:=fun h=>by rw[←any_filter,hv] at h;simp at h
  obtain⟨x,l,hx⟩:=List.exists_cons_of_ne_nil this
  rw[hx]
  simp
theorem find_two {m:Mt} (hf:fewM m):loopS (step_edns_Find_1 m) 0=some (scanO m.2.2.2.1)∧loopS (step_edns_Find_2 m) 0=some (scanO m.2.2.2.2.1)∧loopS (step_edns_Find_3 m) 0=some (scanO m.2.2.2.2.1) ∧
 loopS (step_edns_Find_5 m) 0=some (scanO m.2.2.2.1)∧loopS (step_edns_Find_6 m) 0=some (scanO m.2.2.2.2.1)∧loopS (step_edns_Find_7 m) 0=some (scanO m.2.2.2.2.1) :=
 ⟨find_step (by funext i;unfold step_edns_Find_1;simp only[grdEq_self]) hf.2.1,find_step (by funext i;unfold step_edns_Find_2;simp only[grdEq_self]) hf.2.2.1,find_step (by funext i;unfold step_edns_Find_3;simp only[grdEq_self]) hf.2.2.1,
  find_step (by funext i;unfold step_edns_Find_5;simp only[grdEq_self]) hf.2.1,find_step (by funext i;unfold step_edns_Find_6;simp only[grdEq_self]) hf.2.2.1,find_step (by funext i;unfold step_edns_Find_7;simp only[grdEq_self]) hf.2.2.1⟩
theorem edns_Find_eq {m:Mt} (hf:fewM m):F_edns_Find m=some (findS m):=by
 obtain⟨e1,e2,e3,e5,e6,e7⟩:=find_two hf
 have e0:loopS (step_edns_Find_0 m) 0=some (scanO m.2.2.2.2.2):=find_step (by funext i;unfold step_edns_Find_0;simp only[grdEq_self]) hf.2.2.2
 unfold F_edns_Find
 simp only[grdEq_self]
 rw[e0,bnd_some]
 have hl:(m.2.2.2.2.2.length:Int)≤maxI:=hf.2.2.2
 rcases scanO_cases m.2.2.2.1 with ⟨a1,a2⟩ | ⟨u1,r1,v1,a1,a2,a3,a4⟩
 · rcases scanO_cases m.2.2.2.2.1 with ⟨b1,b2⟩ | ⟨u2,r2,v2,b1,b2,b3,b4⟩
   · rcases scanO_cases m.2.2.2.2.2 with ⟨c1,c2⟩ | ⟨u,r,v,c1,c2,c3,c4⟩
     · rw[findS_none a1 b1 c1]
       simp only[c2,e5,e6,e7,a2,b2,bnd_some,Bool.false_eq_true,if_false]
       rfl
     · rw[findS_some a1 b1 c1 c2 c3]
       have hn:¬((u.length:Int)<0):=by omega
       have hlen:u.length+1≤m.2.2.2.2.2.length:=by rw[c1];simp
       unfold maxI at hl
       have hw:Go.IntKind.i64.wrap ((u.length:Int)+1)=((u.length+1:Nat):Int):=by rw[wrap_id (by omega) (by omega)];rfl
       have hg:m.2.2.2.2.2[u.length]? = some r:=by rw[c1];simp
       have hd:List.drop (u.length+1) m.2.2.2.2.2=v:=by rw[c1];simp
       have e4:loopS (step_edns_Find_4 m r (u.length+1)) 0=some (scanO v):=by
        rw[←hd]
        refine find_step (by funext i;unfold step_edns_Find_4;simp only[grdEq_self]) ?_
        unfold maxI
        simp only[List.length_drop]
        omega
       simp only[c4,e1,e2,e3,a2,b2,bnd_some,Bool.false_eq_true,if_false,hn,decide_false,natOf,Int.natCast_nonneg,if_true,Int.toNat_natCast,hg,hw]
       rw[grdp hlen,e4,bnd_some]
       have hgood:∀{A:Type} (K:Bool→Option A),bnd (if (!r.fst==[0])=false then bnd (F_edns_in r.snd.snd.fst 65535) fun v=>if (!v)=false then bnd (F_edns_in r.snd.snd.snd.fst 4294967295) fun v=>some (!v) else some true else some true) K=K (!goodO r):=by
        intro A K
        simp only[edns_in_eq,bnd_some]
        unfold goodO
        cases (r.fst==[0])<;>cases inC r.snd.snd.fst 65535<;>cases inC r.snd.snd.snd.fst 4294967295<;>rfl
       have hopt:goodO r=true→(true,r.snd.snd.fst,Int.fdiv r.snd.snd.snd.fst 16777216,Go.bits Go.BinOp.and Go.IntKind.i64 (Int.fdiv r.snd.snd.snd.fst 65536) 255,Go.bits Go.BinOp.and Go.IntKind.i64 r.snd.snd.snd.fst 32768 != 0)=optO r:=by
        intro h
        unfold goodO inC at h
        simp only[Bool.and_eq_true,decide_eq_true_eq] at h
        unfold optO
        rw[do_bit h.2.1 h.2.2,low8 h.2.1 h.2.2,Int.fdiv_eq_ediv_of_nonneg _ (by omega)]
       rcases scanO_cases v with ⟨d1,d2⟩ | ⟨u3,r3,v3,d1,d2,d3,d4⟩
       · simp only[d2,hgood,d1,Bool.false_or]
         cases hgo:goodO r with
         | false=>rfl
         | true =>
          simp only[Bool.not_true,Bool.false_eq_true,if_false,bnd_some]
          rw[←hopt hgo]
       · have hv:v.any isO=true:=by rw[d1];simp[d3]
         simp only[d4,hv,Bool.true_or,if_true,show decide ((0:Int)≤(u3.length:Int))=true from decide_eq_true (by omega),Bool.true_eq_false,if_false,bnd_some]
         rfl
   · have hb:m.2.2.2.2.1.any isO=true:=by rw[b1];simp[b3]
     rw[findS_any (.inr hb)]
     simp only[e1,e2,e3,e5,e6,e7,a2,b4,bnd_some,show decide ((0:Int)≤(u2.length:Int))=true from decide_eq_true (by omega),if_true]
     cases scanO m.2.2.2.2.2<;>rfl
 · have ha:m.2.2.2.1.any isO=true:=by rw[a1];simp[a3]
   rw[findS_any (.inl ha)]
   simp only[e1,e2,e3,e5,e6,e7,a4,bnd_some,show decide ((0:Int)≤(u1.length:Int))=true from decide_eq_true (by omega),if_true,Bool.true_eq_false,if_false]
   cases scanO m.2.2.2.2.2<;>rfl
theorem count_eq {l:List RRt} (hl:(l.length:Int)≤maxI):F_ref09_count l=some ((l.filter isO).length:Int):=by
 unfold F_ref09_count
 have key:∀(v u:List RRt),l=u++v→loopS (step_ref09_count_0 l) (((u.filter isO).length:Int),(u.length:Int))=some ((l.filter isO).length:Int):=by
  intro v
  induction v with
  | nil =>
   intro u hu
   rw[List.append_nil] at hu
   subst hu
   refine loopS_out ?_
   unfold step_ref09_count_0
   simp
  | cons x v ih =>
   intro u hu
   have hx:l[u.length]? = some x:=by rw[hu];simp
   have hi:=(List.getElem?_eq_some_iff.1 hx).1
   have hle:=List.length_filter_le isO u
   unfold maxI at hl
   have:=ih (u++[x]) (by rw[hu];simp)
   rw[←this]
   refine loopS_next ?_
   unfold step_ref09_count_0
   simp only[show decide ((u.length:Int)<(l.length:Int))=true from decide_eq_true (by omega),if_true,natOf,Int.natCast_nonneg,Int.toNat_natCast,hx,bnd_some]
   rw[wrap_id (show -9223372036854775808≤(u.length:Int)+1 by omega) (by omega),wrap_id (show -9223372036854775808≤((u.filter isO).length:Int)+1 by omega) (by omega)]
   by_cases h:isO x=true
   · have h':(x.snd.fst==41)=true:=h
     simp only[h',if_true,List.filter_append,List.filter_cons,h,List.filter_nil,List.length_append,List.length_cons,List.length_nil,grdEq_self]
     rfl
   · have h':(x.snd.fst==41)=false:=by simpa[isO] using h
     simp only[h',Bool.false_eq_true,if_false,List.filter_append,List.filter_cons,h,List.filter_nil,List.length_append,List.length_cons,List.length_nil,grdEq_self]
     rfl
 have:=key l [] rfl
 simp only[List.filter_nil,List.length_nil] at this
 rw[show ((0:Int),(0:Int))=(((0:Nat):Int),((0:Nat):Int)) from rfl,this]
 rfl
theorem ref09_Find_eq {m:Mt} (hf:fewM m):F_ref09_Find m=some (findS m):=by
 have hl:(m.2.2.2.2.2.length:Int)≤maxI:=hf.2.2.2
 unfold F_ref09_Find
 simp only[grdEq_self,count_eq hf.2.1,count_eq hf.2.2.1,count_eq hl,bnd_some]
 have h1:∀l:List RRt,l.any isO=true→decide ((0:Int)<((l.filter isO).length:Int))=true:=by
  intro l h
  refine decide_eq_true ?_
  have:l.filter isO≠[]:=fun h'=>by rw[←any_filter,h] at h';simp at h'
  have:=List.length_pos_iff.2 this
  omega
 have h0:∀l:List RRt,l.any isO=false→decide ((0:Int)<((l.filter isO).length:Int))=false:=by
  intro l h
  rw[(any_filter l).1 h]
  rfl
 cases ha:m.2.2.2.1.any isO with
 | true =>
  rw[findS_any (.inl ha)]
  simp only[h1 _ ha,Bool.true_eq_false,if_false,bnd_some,if_true]
  rfl
 | false =>
  cases hb:m.2.2.2.2.1.any isO with
  | true =>
   rw[findS_any (.inr hb)]
   simp only[h0 _ ha,h1 _ hb,Bool.true_eq_false,if_false,bnd_some,if_true]
   rfl
  | false =>
   simp only[h0 _ ha,h0 _ hb,if_true,bnd_some]
   have hloop:loopS (step_ref09_Find_0 m) 0=some (scanF (fun i x=>if isO x=true then some (Sum.inr (α:=Unit) (if goodO x=true then ((0:Int),optO x) else (7,op0))) else none) (.inl ()) 0 m.2.2.2.2.2):=by
    refine loop_scan _ _ (fun i x hx=>?_) (by unfold step_ref09_Find_0;simp[grdEq_self])
    have hi:=(List.getElem?_eq_some_iff.1 hx).1
    unfold maxI at hl
    unfold step_ref09_Find_0
    simp only[show decide ((i:Int)<(m.2.2.2.2.2.length:Int))=true from decide_eq_true (by omega),if_true,natOf,Int.natCast_nonneg,Int.toNat_natCast,hx,bnd_some,grdEq_self]
    rw[wrap_id (show -9223372036854775808≤(i:Int)+1 by omega) (by omega)]
    by_cases h:isO x=true
    · have h':(x.snd.fst != 41)=false:=by simpa[isO] using h
      simp only[h',Bool.false_eq_true,if_false,h,if_true]
      have hgood:(if (!x.fst==[0])=false then if decide (x.snd.snd.fst<0)=false then if decide (65535<x.snd.snd.fst)=false then if decide (x.snd.snd.snd.fst<0)=false then some (decide (4294967296≤x.snd.snd.snd.fst)) else some true else some true else some true else some true)=some (!goodO x):=by
       unfold goodO inC
       cases (x.fst==[0])
       · rfl
       · by_cases c1:x.snd.snd.fst<0
         · simp[c1,show ¬0≤x.snd.snd.fst by omega]
         · by_cases c2:65535<x.snd.snd.fst
           · simp[c1,c2,show ¬x.snd.snd.fst≤65535 by omega]
           · by_cases c3:x.snd.snd.snd.fst<0
             · simp[c1,c2,c3,show ¬0≤x.snd.snd.snd.fst by omega]
             · by_cases c4:4294967296≤x.snd.snd.snd.fst
               · simp[c1,c2,c3,c4,show ¬x.snd.snd.snd.fst≤4294967295 by omega]
               · simp[c1,c2,c3,c4,show 0≤x.snd.snd.fst by omega,show x.snd.snd.fst≤65535 by omega,show 0≤x.snd.snd.snd.fst by omega,show x.snd.snd.snd.fst≤4294967295 by omega]
      rw[hgood]
      cases hgo:goodO x with
      | false=>rfl
      | true =>
       have hgo':=hgo
       unfold goodO inC at hgo'
       simp only[Bool.and_eq_true,decide_eq_true_eq] at hgo'
       obtain⟨⟨_,_⟩,g1,g2⟩:=hgo'
       simp only[bnd_some,Bool.not_true,Bool.false_eq_true,if_false,if_true]
       unfold optO
       rw[Int.tdiv_eq_ediv_of_nonneg g1,Int.tdiv_eq_ediv_of_nonneg g1,Int.tdiv_eq_ediv_of_nonneg g1,wrap_id (show -9223372036854775808≤x.snd.snd.snd.fst / 16777216 by omega) (by omega),
        wrap_id (show -9223372036854775808≤x.snd.snd.snd.fst / 65536 by omega) (by omega),wrap_id (show -9223372036854775808≤x.snd.snd.snd.fst / 32768 by omega) (by omega),
        Int.tmod_eq_emod_of_nonneg (show 0≤x.snd.snd.snd.fst / 65536 by omega),Int.tmod_eq_emod_of_nonneg (show 0≤x.snd.snd.snd.fst / 32768 by omega)]
       rfl
    · have h':(x.snd.fst != 41)=true:=by simpa[isO] using h
      simp only[h',if_true,h,Bool.false_eq_true,if_false]
      rfl
   rw[hloop]
   rcases scanO_cases m.2.2.2.2.2 with ⟨c1,c2⟩ | ⟨u,r,v,c1,c2,c3,c4⟩
   · rw[findS_none ha hb c1,(any_filter _).1 c1]
     have:∀(l:List RRt) (i:Nat),l.any isO=false→scanF (fun i x=>if isO x=true then some (Sum.inr (α:=Unit) (if goodO x=true then ((0:Int),optO x) else (7,op0))) else none) (.inl ()) i l=.inl ():=by
      intro l
      induction l with
      | nil=>intro i _;rfl
      | cons x l ih =>
       intro i h
       simp only[List.any_cons,Bool.or_eq_false_iff] at h
       unfold scanF
       simp only[h.1,Bool.false_eq_true,if_false]
       exact ih _ h.2
     rw[this _ _ c1]
     rfl
   · rw[findS_some ha hb c1 c2 c3]
     have:∀(u:List RRt) (i:Nat),u.any isO=false→scanF (fun i x=>if isO x=true then some (Sum.inr (α:=Unit) (if goodO x=true then ((0:Int),optO x) else (7,op0))) else none) (.inl ()) i (u++r::v)=.inr (if goodO r=true then ((0:Int),optO r) else (7,op0)):=by
      intro u
      induction u with
      | nil=>intro i _;simp only[List.nil_append];unfold scanF;simp only[c3,if_true]
      | cons x l ih =>
       intro i h
       simp only[List.any_cons,Bool.or_eq_false_iff] at h
       simp only[List.cons_append]
       unfold scanF
       simp only[h.1,Bool.false_eq_true,if_false]
       exact ih _ h.2
     rw[c1,this u 0 c2,List.filter_append,(any_filter _).1 c2,List.nil_append,List.filter_cons,c3,if_pos rfl]
     cases hv:v.any isO with
     | false =>
      rw[(any_filter _).1 hv]
      cases goodO r<;>rfl
     | true =>
      have h2:v.filter isO≠[]:=fun h=>by rw[←any_filter,hv] at h;simp at h
      have h3:=List.length_pos_iff.2 h2
      rw[show decide ((1:Int)<((r::v.filter isO).length:Int))=true from decide_eq_true (by simp only[List.length_cons];omega)]
      rfl
def optE (e:Int) (d:Bool):RRt:=([0],41,4096,e*16777216+(if d=true then 32768 else 0),[])
def tabO:Bool:=(List.range 16).all fun (e:Nat)=>decide (F_edns_Opt_Record (true,4096,(e:Int),0,true)=some (optE e true,true))&&decide (F_edns_Opt_Record (true,4096,(e:Int),0,false)=some (optE e false,true))
theorem tabO_ok:tabO=true:=by kernel_rfl
theorem opt_Record_eq {e:Int} (h0:0≤e) (h1:e<16) (d:Bool):F_edns_Opt_Record (true,4096,e,0,d)=some (optE e d,true):=by
 obtain⟨n,rfl,h⟩:=all_range (n:=16) tabO_ok h0 (by omega)
 simp only[Bool.and_eq_true] at h
 cases d with
 | true=>exact of_decide_eq_true h.1
 | false=>exact of_decide_eq_true h.2
def limS (o:Ep):Int:=if o.1=false then 512 else if 4096<(if 512 > o.2.1 then 512 else o.2.1) then 4096 else if 512 > o.2.1 then 512 else o.2.1
theorem limit_eq (o:Ep):F_edns_Opt_Limit o=some (limS o):=by
 unfold F_edns_Opt_Limit limS
 cases o.1<;>rfl
theorem limS_b (o:Ep):512≤limS o∧limS o≤4096:=by
 unfold limS
 split
 · omega
 · split
   · omega
   · split<;>omega
end Go.Abs

namespace Go.Abs
open Go
abbrev Ak:=Int×Int×List UInt8×Int×Int×Bool×Int×Int×Int×Bool
def mkA (id bits:Int) (q:Qt) (o:Ep):Ak:=(id,bits,q.1,q.2.1,q.2.2,o.1,o.2.1,o.2.2.1,o.2.2.2.1,o.2.2.2.2)
def q0:Qt:=([],0,0)
def ak0:Ak:=mkA 0 0 q0 op0
def qA (a:Ak):Qt:=(a.2.2.1,a.2.2.2.1,a.2.2.2.2.1)
def oA (a:Ak):Ep:=(a.2.2.2.2.2.1,a.2.2.2.2.2.2.1,a.2.2.2.2.2.2.2.1,a.2.2.2.2.2.2.2.2.1,a.2.2.2.2.2.2.2.2.2)
def askS (s:List UInt8):Option (Qt×Ep) :=
 if (decS s).2≠0∨(findS (decS s).1).2≠0 then none else
 match (decS s).1.2.2.1 with
 | [q]=>some (q,(findS (decS s).1).1)
 | _=>none
def readQ (id bits:Int) (q:Qt) (o:Ep):Ak×Int×Int :=
 if o.2.2.2.1≠0 then (mkA id bits q o,1,16) else if q.2.2≠1 then (mkA id bits q o,1,5)
 else if q.2.1=0∨q.2.1=41∨(128≤q.2.1∧q.2.1≤255) then (mkA id bits q o,1,4) else (mkA id bits q o,2,0)
def readR (s:List UInt8):Ak×Int×Int :=
 if (headS s).2.2=false∨ofS 32768 2 (headS s).2.1=1 then (ak0,0,0)
 else if ofS 2048 16 (headS s).2.1≠0 then (mkA (headS s).1 (headS s).2.1 q0 op0,1,4)
 else match askS s with
  | none=>(mkA (headS s).1 (headS s).2.1 q0 op0,1,1)
  | some (q,o)=>readQ (headS s).1 (headS s).2.1 q o
@[reducible] def askT (o:Option (Qt×Ep)):Qt×Ep×Bool:=match o with
 | some (q,o)=>(q,o,true)
 | none=>(q0,op0,false)
theorem reply_asked_eq {s:List UInt8} (hs:s.length≤1000000):F_reply_asked s=some (askT (askS s)):=by
 unfold F_reply_asked
 rw[msg_Decode_eq hs,bnd_some]
 have hf:=decS_few s
 have e1:F_edns_Find ((decS s).1.1,(decS s).1.2.1,(decS s).1.2.2.1,(decS s).1.2.2.2.1,(decS s).1.2.2.2.2.1,(decS s).1.2.2.2.2.2)=some (findS (decS s).1):=edns_Find_eq hf
 simp only[e1,bnd_some,grdEq_self]
 unfold askS
 by_cases h:(decS s).2=0
 · have h':((decS s).2 != 0)=false:=by simpa using h
   simp only[h',if_true]
   cases hq:(decS s).1.2.2.1 with
   | nil =>
    simp
    rfl
   | cons q l =>
    cases l with
    | nil =>
     by_cases h2:(findS (decS s).1).2=0
     · have h2':((findS (decS s).1).2 != 0)=false:=by simpa using h2
       simp[h2',h,h2,askT,bnd_some]
     · have h2':((findS (decS s).1).2 != 0)=true:=by simpa using h2
       simp[h2',h,h2,askT,q0,op0,bnd_some]
    | cons q2 l =>
     have:(((q::q2::l).length:Int) != 1)=true:=by
      simp only[List.length_cons,bne_iff_ne,ne_eq]
      omega
     rw[this]
     simp only[bnd_some,if_true]
     have e:(if (decS s).snd≠0∨(findS (decS s).fst).snd≠0 then none else (none:Option (Qt×Ep)))=none:=by split<;>rfl
     rw[e]
     rfl
 · have h':((decS s).2 != 0)=true:=by simpa using h
   simp only[h',Bool.true_eq_false,if_false,bnd_some,if_true]
   rw[if_pos (.inl h)]
   rfl
theorem kind_eq (k:Int):(if (k==0)=false then if (k==41)=false then if decide (128≤k)=true then some (decide (k≤255)) else some false else some true else some true)=some (decide (k=0∨k=41∨(128≤k∧k≤255))):=by
 by_cases h0:k=0
 · simp[h0]
 · by_cases h1:k=41
   · simp[h1]
   · by_cases h2:128≤k
     · simp[h0,h1,h2]
     · simp[h0,h1,h2]
theorem readQ_eq (id bits:Int) (q:Qt) (o:Ep):(if (o.2.2.2.1 != 0)=true then some (mkA id bits q o,(1:Int),(16:Int)) else if (q.2.2 != 1)=true then some (mkA id bits q o,1,5) else if (decide (q.2.1=0∨q.2.1=41∨(128≤q.2.1∧q.2.1≤255)))=true then some (mkA id bits q o,1,4) else some (mkA id bits q o,2,0))=some (readQ id bits q o):=by
 unfold readQ
 by_cases h1:o.2.2.2.1=0
 · by_cases h2:q.2.2=1
   · by_cases h3:q.2.1=0∨q.2.1=41∨(128≤q.2.1∧q.2.1≤255)
     · simp[h1,h2,h3]
     · simp[h1,h2,h3]
   · simp[h1,h2]
 · simp[h1]
theorem reply_Read_eq {s:List UInt8} (hs:s.length≤1000000):F_reply_Read s=some (readR s):=by
 unfold F_reply_Read readR
 rw[msg_Head_eq (by unfold maxI;omega),bnd_some,reply_asked_eq hs]
 rcases headS s with ⟨id,bits,is⟩
 cases is with
 | false =>
  simp only[Bool.not_false,Bool.true_eq_false,if_false,bnd_some,true_or,if_true,grdEq_self]
  rfl
 | true =>
  simp only[of0_eq,of1_eq,bnd_some,grdEq_self,Bool.not_true,if_true]
  by_cases h2:ofS 32768 2 bits=1
  · simp only[h2,beq_self_eq_true,if_true,bnd_some,or_true]
    rfl
  · have h2':(ofS 32768 2 bits==1)=false:=by simpa using h2
    simp only[h2',Bool.false_eq_true,if_false,bnd_some,h2,or_self,Bool.true_eq_false]
    by_cases h3:ofS 2048 16 bits=0
    · have h3':(ofS 2048 16 bits != 0)=false:=by simpa using h3
      have h3'':¬(ofS 2048 16 bits≠0):=by simp[h3]
      simp only[h3',Bool.false_eq_true,if_false,h3'']
      rcases askS s with _ | ⟨q,o⟩
      · rfl
      · simp only[askT,Bool.not_true,Bool.false_eq_true,if_false]
        rw[kind_eq,bnd_some]
        exact readQ_eq id bits q o
    · have h3':(ofS 2048 16 bits != 0)=true:=by simpa using h3
      simp only[h3',if_true,ne_eq,h3,not_false_eq_true]
      rfl
theorem readR_kinds (s:List UInt8):((readR s).2.1=0∧readR s=(ak0,0,0)) ∨
 ((readR s).2.1=1∧((readR s).2.2=1∨(readR s).2.2=4∨(readR s).2.2=5∨(readR s).2.2=16)) ∨
 ((readR s).2.1=2∧(readR s).2.2=0∧∃q o,askS s=some (q,o)∧(readR s).1=mkA (headS s).1 (headS s).2.1 q o∧o.2.2.2.1=0∧q.2.2=1∧¬(q.2.1=0∨q.2.1=41∨(128≤q.2.1∧q.2.1≤255))):=by
 unfold readR
 split
 · exact .inl ⟨rfl,rfl⟩
 · split
   · exact .inr (.inl ⟨rfl,.inr (.inl rfl)⟩)
   · cases askS s with
     | none=>exact .inr (.inl ⟨rfl,.inl rfl⟩)
     | some p =>
      obtain⟨q,o⟩:=p
      simp only
      unfold readQ
      split
      · exact .inr (.inl ⟨rfl,.inr (.inr (.inr rfl))⟩)
      · rename_i h1
        split
        · exact .inr (.inl ⟨rfl,.inr (.inr (.inl rfl))⟩)
        · rename_i h2
          split
          · exact .inr (.inl ⟨rfl,.inr (.inl rfl)⟩)
          · rename_i h3
            exact .inr (.inr ⟨rfl,rfl,q,o,rfl,rfl,by simpa using h1,by simpa using h2,h3⟩)
theorem askS_some {s:List UInt8} {q:Qt} {o:Ep} (h:askS s=some (q,o)):(decS s).2=0∧(decS s).1.2.2.1=[q]∧findS (decS s).1=(o,0):=by
 unfold askS at h
 split at h
 · simp at h
 · rename_i hn
   have h1:(decS s).2=0:=Classical.byContradiction fun c=>hn (.inl c)
   have h2:(findS (decS s).1).2=0:=Classical.byContradiction fun c=>hn (.inr c)
   split at h
   · rename_i q' hq
     simp only[Option.some.injEq,Prod.mk.injEq] at h
     obtain⟨rfl,rfl⟩:=h
     exact⟨h1,hq,Prod.ext rfl h2⟩
   · simp at h
theorem askS_may {s:List UInt8} {q:Qt} {o:Ep} (h:askS s=some (q,o)):okQ q=true:=by
 obtain⟨h1,h2,_⟩:=askS_some h
 have:=(checkM_iff (decS_may h1)).2.2.2.1
 exact this q (by rw[h2];simp)
end Go.Abs

namespace Go.Abs
open Go
theorem live17:F_law17_live=some true:=by kernel_rfl
end Go.Abs

namespace Go.Abs
open Go
abbrev Pi_:=List RRt×Bool
def qsA (a:Ak):List Qt:=if a.2.2.1=[] then [] else [qA a]
def arA (a:Ak) (code:Int):List RRt:=if a.2.2.2.2.2.1=true then [optE (code / 16) a.2.2.2.2.2.2.2.2.2] else []
def headM (a:Ak) (bits code:Int) (an ns:List RRt):Mt:=(a.1,bits,qsA a,an,ns,arA a code)
def refuseS (a:Ak) (code:Int):List UInt8:=if 0≤code∧code≤255 then (encM (headM a (answerS a.2.1 code) code [] [])).1 else []
theorem qsA_eq (a:Ak):(if (!a.2.2.1==[])=true then some [(a.2.2.1,a.2.2.2.1,a.2.2.2.2.1)] else some [])=some (qsA a):=by
 unfold qsA
 by_cases h:a.2.2.1=[]
 · rw[if_pos h];simp[h]
 · rw[if_neg h];simp[h];rfl
theorem headM_fine {a:Ak} {bits code:Int} {an ns:List RRt} (hn:(a.2.2.1.length:Int)≤maxI) (h1:an.length≤100000) (h2:ns.length≤100000) (h3:∀r∈an,r.1.length≤300) (h4:∀r∈ns,r.1.length≤300):fineM (headM a bits code an ns):=by
 have hm:maxI=9223372036854775807:=rfl
 have q1:(qsA a).length≤1:=by unfold qsA;split<;>simp
 have r1:(arA a code).length≤1:=by unfold arA;split<;>simp
 refine⟨⟨?_,?_,?_,?_⟩,fun q hq=>?_,fun r hr=>?_,fun r hr=>?_,fun r hr=>?_⟩
 · show ((qsA a).length:Int)≤maxI;omega
 · show (an.length:Int)≤maxI;omega
 · show (ns.length:Int)≤maxI;omega
 · show ((arA a code).length:Int)≤maxI;omega
 · have hq':q∈qsA a:=hq
   unfold qsA at hq'
   split at hq'
   · simp at hq'
   · simp only[List.mem_singleton] at hq';subst hq';exact hn
 · have:=h3 r hr;omega
 · have:=h4 r hr;omega
 · have hr':r∈arA a code:=hr
   unfold arA at hr'
   split at hr'
   · simp only[List.mem_singleton] at hr';subst hr';simp[optE];omega
   · simp at hr'
theorem head_eq {α:Type} (a:Ak) {code:Int} (h0:0≤code) (h1:code≤255) (K:Int×Int×List Qt×List RRt→Option α) :
 bnd (bnd (F_flag_Answer a.snd.fst code) fun v5=>bnd (if (!a.snd.snd.fst==[])=true then some [(a.snd.snd.fst,a.snd.snd.snd.fst,a.snd.snd.snd.snd.fst)] else some []) fun b3c_6 =>
  if a.snd.snd.snd.snd.snd.fst=true then bnd (F_edns_Opt_Record (true,4096,Go.IntKind.i64.wrap (code.tdiv 16),0,a.snd.snd.snd.snd.snd.snd.snd.snd.snd)) fun v=>some (a.fst,v5,b3c_6,[(v.1.fst,v.1.snd.fst,v.1.snd.snd.fst,v.1.snd.snd.snd.fst,v.1.snd.snd.snd.snd)])
  else some (a.fst,v5,b3c_6,[])) K=K (a.1,answerS a.2.1 code,qsA a,arA a code):=by
 rw[flag_Answer_eq h0 h1,bnd_some,qsA_eq,bnd_some]
 have e:Go.IntKind.i64.wrap (code.tdiv 16)=code / 16:=by
  rw[Int.tdiv_eq_ediv_of_nonneg h0];exact wrap_id (by omega) (by omega)
 unfold arA
 cases hh:a.snd.snd.snd.snd.snd.fst with
 | true =>
  simp only[if_true]
  rw[e,opt_Record_eq (by omega) (by omega)]
  rfl
 | false=>rfl
theorem refuse_yes {a:Ak} {code:Int} (h0:0≤code) (h1:code≤255):refuseS a code=(encM (headM a (answerS a.2.1 code) code [] [])).1:=if_pos ⟨h0,h1⟩
theorem refuse_no {a:Ak} {code:Int} (h:code<0∨255<code):refuseS a code=[]:=if_neg (by omega)
theorem reply_Refuse_eq {a:Ak} (hn:(a.2.2.1.length:Int)≤maxI) (code:Int):F_reply_Refuse a code=some (refuseS a code):=by
 unfold F_reply_Refuse
 simp only[grdEq_self]
 by_cases h0:0≤code
 · have g0:decide (code<0)=false:=decide_eq_false (by omega)
   by_cases h1:code≤255
   · have g1:decide (255<code)=false:=decide_eq_false (by omega)
     rw[refuse_yes h0 h1]
     simp only[g0,g1,if_true,Bool.false_eq_true,if_false,bnd_some]
     have:=head_eq a h0 h1 (fun x=>bnd (F_msg_Encode (x.1,x.2.1,x.2.2.1,[],[],x.2.2.2)) fun v=>some v.1)
     refine this.trans ?_
     have e:F_msg_Encode (headM a (answerS a.2.1 code) code [] [])=some (encM (headM a (answerS a.2.1 code) code [] [])):=msg_Encode_eq (headM_fine hn (by simp) (by simp) (by simp) (by simp))
     unfold headM at e ⊢
     rw[e]
     rfl
   · have g1:decide (255<code)=true:=decide_eq_true (by omega)
     rw[refuse_no (.inr (by omega))]
     simp only[g0,g1,if_true,bnd_some]
 · have g0:decide (code<0)=true:=decide_eq_true (by omega)
   rw[refuse_no (.inl (by omega))]
   simp only[g0,Bool.true_eq_false,if_false,bnd_some]
def soaP (c:Ch):List Pi_:=if c.2.1=0 then [] else [(flatS (hitS c.2.2.2) c.2.2.2.2.2.2.2.2 0,true)]
def piecesS (c:Ch) (turn:Int):List Pi_:=c.1.map (fun h=>(flatS (hitS h) h.2.2.2.2.2 turn,false))++soaP c
theorem smallC_all {c:Ch} (h:smallC c=true):(∀x∈c.1,smallS (hitS x)=true)∧c.1.length≤12∧smallS (hitS c.2.2.2)=true:=by
 unfold smallC at h
 simp only[Bool.and_eq_true,List.all_eq_true,decide_eq_true_eq] at h
 exact⟨h.1.1,h.1.2,h.2⟩
theorem small_few {s:Se} (h:smallS s=true):fewS s:=by
 obtain⟨h1,_,h3⟩:=smallS_iff h
 exact⟨by unfold maxI;omega,by omega⟩
theorem reply_pieces_eq {c:Ch} (h:smallC c=true) (turn:Int):F_reply_pieces c turn=some (piecesS c turn):=by
 obtain⟨h1,h2,h3⟩:=smallC_all h
 unfold F_reply_pieces
 have hl:loopS (step_reply_pieces_0 c turn) ([],0)=some (c.1.map fun h=>(flatS (hitS h) h.2.2.2.2.2 turn,false)):=by
  have key:∀(v u:List Hi),c.1=u++v→loopS (step_reply_pieces_0 c turn) (u.map (fun h=>(flatS (hitS h) h.2.2.2.2.2 turn,false)),(u.length:Int))=some (c.1.map fun h=>(flatS (hitS h) h.2.2.2.2.2 turn,false)):=by
   intro v
   induction v with
   | nil =>
    intro u hu
    rw[List.append_nil] at hu
    rw[hu]
    refine loopS_out ?_
    unfold step_reply_pieces_0
    rw[hu]
    simp[grdEq_self]
   | cons x v ih =>
    intro u hu
    have hx:c.1[u.length]? = some x:=by rw[hu];simp
    have hi:=(List.getElem?_eq_some_iff.1 hx).1
    have:=ih (u++[x]) (by rw[hu];simp)
    rw[←this]
    refine loopS_next ?_
    unfold step_reply_pieces_0
    have e:F_group_Flat (x.fst,x.snd.fst,x.snd.snd.fst,x.snd.snd.snd.fst,x.snd.snd.snd.snd.fst) x.snd.snd.snd.snd.snd turn=some (flatS (hitS x) x.2.2.2.2.2 turn):=group_Flat_eq (small_few (h1 x (by rw[hu];simp))) _ _
    simp only[grdEq_self]
    rw[if_pos (by simp;omega),natOf_nat,hx,bnd_some,e,bnd_some,grdp (by unfold roomLim;simp;omega),wrap_id (by omega) (by omega)]
    simp
  exact key c.1 [] rfl
 rw[hl,bnd_some]
 unfold piecesS soaP
 by_cases h0:c.2.1=0
 · have:(c.2.1 != 0)=false:=by simpa using h0
   rw[this,if_neg (by simp),if_pos h0,List.append_nil]
 · have:(c.2.1 != 0)=true:=by simpa using h0
   have e:F_group_Flat (c.snd.snd.snd.fst,c.snd.snd.snd.snd.fst,c.snd.snd.snd.snd.snd.fst,c.snd.snd.snd.snd.snd.snd.fst,c.snd.snd.snd.snd.snd.snd.snd.fst) c.snd.snd.snd.snd.snd.snd.snd.snd 0=some (flatS (hitS c.2.2.2) c.2.2.2.2.2.2.2.2 0):=group_Flat_eq (small_few h3) _ _
   simp only[this,if_true,e,bnd_some,h0,if_false]
   rw[grdp (by unfold roomLim;simp;omega)]
def fewP (ps:List Pi_):Prop:=ps.length≤13∧∀p∈ps,p.1.length≤60∧∀r∈p.1,goodR r∧r.1.length≤255
theorem pieces_few {c:Ch} (h:smallC c=true) (turn:Int):fewP (piecesS c turn):=by
 obtain⟨h1,h2,h3⟩:=smallC_all h
 have one:∀(s:Se) (ttl t:Int),smallS s=true→(flatS s ttl t).length≤60∧∀r∈flatS s ttl t,goodR r∧r.1.length≤255:=fun s ttl t hs=>⟨flatS_len hs,fun r hr=>⟨(flatS_mem hs hr).1,(flatS_mem hs hr).2.1⟩⟩
 refine⟨?_,fun p hp=>?_⟩
 · unfold piecesS soaP
   split<;>simp<;>omega
 · unfold piecesS at hp
   rcases List.mem_append.1 hp with hp | hp
   · obtain⟨x,hx,rfl⟩:=List.mem_map.1 hp
     exact one _ _ _ (h1 x hx)
   · unfold soaP at hp
     split at hp
     · simp at hp
     · simp only[List.mem_singleton] at hp
       subst hp
       exact one _ _ _ h3
def layP (s:List RRt×List RRt) (p:Pi_):List RRt×List RRt:=if p.2=true then (s.1,p.1) else (s.1++p.1,s.2)
def layL (ps:List Pi_):List RRt×List RRt:=ps.foldl layP ([],[])
theorem layL_app (ps:List Pi_) (p:Pi_):layL (ps++[p])=layP (layL ps) p:=by simp[layL]
theorem layL_few {ps:List Pi_} (h:∀p∈ps,p.1.length≤60∧∀r∈p.1,goodR r∧r.1.length≤255):(layL ps).1.length≤60*ps.length∧(layL ps).2.length≤60∧(∀r∈(layL ps).1,goodR r∧r.1.length≤255)∧∀r∈(layL ps).2,goodR r∧r.1.length≤255:=by
 have key:∀(v u:List Pi_),ps=u++v→(layL u).1.length≤60*u.length∧(layL u).2.length≤60∧(∀r∈(layL u).1,goodR r∧r.1.length≤255)∧(∀r∈(layL u).2,goodR r∧r.1.length≤255) →
  (layL ps).1.length≤60*ps.length∧(layL ps).2.length≤60∧(∀r∈(layL ps).1,goodR r∧r.1.length≤255)∧∀r∈(layL ps).2,goodR r∧r.1.length≤255:=by
  intro v
  induction v with
  | nil=>intro u hu hh;rw[List.append_nil] at hu;rw[hu];exact hh
  | cons x v ih =>
   intro u hu hh
   refine ih (u++[x]) (by rw[hu];simp) ?_
   obtain⟨x1,x2⟩:=h x (by rw[hu];simp)
   obtain⟨g1,g2,g3,g4⟩:=hh
   rw[layL_app]
   unfold layP
   split
   · exact⟨by simp;omega,x1,g3,x2⟩
   · refine⟨by simp;omega,g2,fun r hr=>?_,g4⟩
     rcases List.mem_append.1 hr with h | h
     · exact g3 r h
     · exact x2 r h
 exact key ps [] rfl ⟨by simp[layL],by simp[layL],by simp[layL],by simp[layL]⟩
def codeS (c:Ch):Int:=if c.2.1=2 then 3 else 0
def layM (a:Ak) (code:Int) (ps:List Pi_) (n:Nat):Mt:=headM a (if n<ps.length then answerS a.2.1 code+512 else answerS a.2.1 code) code (layL (ps.take n)).1 (layL (ps.take n)).2
def buildW (a:Ak) (code:Int) (ps:List Pi_):Nat→List UInt8
 | 0=>if (encM (layM a code ps 0)).2=1 then [] else if (encM (layM a code ps 0)).2=0∧((encM (layM a code ps 0)).1.length:Int)≤limS (oA a) then (encM (layM a code ps 0)).1 else []
 | n+1=>if (encM (layM a code ps (n+1))).2=1 then [] else if (encM (layM a code ps (n+1))).2=0∧((encM (layM a code ps (n+1))).1.length:Int)≤limS (oA a) then (encM (layM a code ps (n+1))).1 else buildW a code ps n
def buildS (a:Ak) (c:Ch) (turn:Int):List UInt8:=if c.2.1<0∨2<c.2.1 then refuseS a 2 else buildW a (codeS c) (piecesS c turn) (piecesS c turn).length
theorem reply_code_eq (c:Ch):F_reply_code c=some (codeS c):=by
 unfold F_reply_code codeS
 by_cases h:c.2.1=2
 · simp[h]
 · simp[h]
theorem codeS_b (c:Ch):0≤codeS c∧codeS c≤255:=by unfold codeS;split<;>omega
theorem layM_fine {a:Ak} {code:Int} {ps:List Pi_} {n:Nat} (hn:(a.2.2.1.length:Int)≤maxI) (hp:fewP ps):fineM (layM a code ps n):=by
 have:=layL_few (ps:=ps.take n) (fun p h=>hp.2 p (List.mem_of_mem_take h))
 have hl:(ps.take n).length≤13:=by rw[List.length_take];have:=hp.1;omega
 unfold layM
 exact headM_fine hn (by omega) (by omega) (fun r hr=>by have:=(this.2.2.1 r hr).2;omega) (fun r hr=>by have:=(this.2.2.2 r hr).2;omega)
end Go.Abs

namespace Go.Abs
open Go
theorem lay_loop {a:Ak} {c:Ch} {ps:List Pi_} {many x0 x1:Int} {x2:List Qt} {x3:List RRt} {n:Nat} (hp:fewP ps) (hn:n≤ps.length):loopS (step_reply_Build_1 a c ps many x0 x1 x2 x3 n) (0,([],[]))=some (layL (ps.take n)):=by
 obtain⟨hp1,hp2⟩:=hp
 have hlen:(ps.take n).length=n:=by rw[List.length_take];omega
 have key:∀(v u:List Pi_),ps.take n=u++v→loopS (step_reply_Build_1 a c ps many x0 x1 x2 x3 n) ((u.length:Int),layL u)=some (layL (ps.take n)):=by
  intro v
  induction v with
  | nil =>
   intro u hu
   rw[List.append_nil] at hu
   rw[hu]
   refine loopS_out ?_
   unfold step_reply_Build_1
   simp only[grdEq_self]
   rw[hu,if_neg (by simp)]
  | cons x v ih =>
   intro u hu
   have hx:(ps.take n)[u.length]? = some x:=by rw[hu];simp
   have hi:u.length<(ps.take n).length:=(List.getElem?_eq_some_iff.1 hx).1
   have hmem:∀p∈u,p∈ps:=fun p hpu=>List.mem_of_mem_take (by rw[hu];simp[hpu]:p∈ps.take n)
   have hxm:x∈ps:=List.mem_of_mem_take (by rw[hu];simp:x∈ps.take n)
   have hf:=layL_few (ps:=u) (fun p h=>hp2 p (hmem p h))
   have hx1:=(hp2 x hxm).1
   have:=ih (u++[x]) (by rw[hu];simp)
   rw[←this]
   refine loopS_next ?_
   unfold step_reply_Build_1
   simp only[grdEq_self]
   rw[if_pos (by simp;omega),natOf_nat,hx,bnd_some,wrap_id (by omega) (by omega),layL_app]
   unfold layP
   cases h2:x.2 with
   | true =>
    simp only[if_true]
    simp
   | false =>
    simp only[Bool.false_eq_true,if_false]
    rw[grdp (by unfold roomLim;omega)]
    simp
 exact key _ [] rfl
def tryS (a:Ak) (c:Ch) (ps:List Pi_) (n:Nat):Int ⊕ (Unit ⊕ List UInt8) :=
 if (encM (layM a (codeS c) ps n)).2=1 then .inr (.inr []) else if (encM (layM a (codeS c) ps n)).2=0∧((encM (layM a (codeS c) ps n)).1.length:Int)≤limS (oA a) then .inr (.inr (encM (layM a (codeS c) ps n)).1) else .inl ((n:Int)-1)
theorem build_step {a:Ak} {c:Ch} {ps:List Pi_} {n:Nat} (hn:(a.2.2.1.length:Int)≤maxI) (hp:fewP ps) (hle:n≤ps.length):step_reply_Build_0 a c ps (n:Int)=some (tryS a c ps n):=by
 have hp13:=hp.1
 unfold step_reply_Build_0
 simp only[grdEq_self]
 have e1:F_reply_code (c.fst,c.snd.fst,c.snd.snd.fst,c.snd.snd.snd.fst,c.snd.snd.snd.snd.fst,c.snd.snd.snd.snd.snd.fst,c.snd.snd.snd.snd.snd.snd.fst,c.snd.snd.snd.snd.snd.snd.snd.fst,c.snd.snd.snd.snd.snd.snd.snd.snd)=some (codeS c):=reply_code_eq c
 rw[if_pos (by simp),e1,bnd_some]
 refine (head_eq a (codeS_b c).1 (codeS_b c).2 _).trans ?_
 show natOf (n:Int) _=_
 rw[natOf_nat,grdp hle,lay_loop hp hle,bnd_some]
 have hfine:=layM_fine (code:=codeS c) (n:=n) hn hp
 have hE:=msg_Encode_eq hfine
 have hlim:F_edns_Opt_Limit (a.snd.snd.snd.snd.snd.fst,a.snd.snd.snd.snd.snd.snd.fst,a.snd.snd.snd.snd.snd.snd.snd.fst,a.snd.snd.snd.snd.snd.snd.snd.snd.fst,a.snd.snd.snd.snd.snd.snd.snd.snd.snd)=some (limS (oA a)):=limit_eq (oA a)
 have hw:Go.IntKind.i64.wrap ((n:Int)-1)=(n:Int)-1:=wrap_id (by omega) (by omega)
 have fin:bnd (F_msg_Encode (layM a (codeS c) ps n)) (fun v=>if (v.2==1)=true then some (.inr (.inr [])) else if (v.2==0)=true then bnd (F_edns_Opt_Limit (a.snd.snd.snd.snd.snd.fst,a.snd.snd.snd.snd.snd.snd.fst,a.snd.snd.snd.snd.snd.snd.snd.fst,a.snd.snd.snd.snd.snd.snd.snd.snd.fst,a.snd.snd.snd.snd.snd.snd.snd.snd.snd)) fun v34=>if decide ((v.1.length:Int)≤v34)=true then some (.inr (.inr v.1)) else some (.inl (Go.IntKind.i64.wrap ((n:Int)-1))) else some (.inl (Go.IntKind.i64.wrap ((n:Int)-1))))=some (tryS a c ps n):=by
  rw[hE,bnd_some,hlim,hw]
  unfold tryS
  by_cases h1:(encM (layM a (codeS c) ps n)).2=1
  · rw[if_pos h1,if_pos (by simpa using h1)]
  · rw[if_neg h1,if_neg (by simpa using h1)]
    by_cases h2:(encM (layM a (codeS c) ps n)).2=0
    · rw[if_pos (by simpa using h2),bnd_some]
      by_cases h3:((encM (layM a (codeS c) ps n)).1.length:Int)≤limS (oA a)
      · rw[if_pos (decide_eq_true h3),if_pos ⟨h2,h3⟩]
      · rw[if_neg (by simpa using h3),if_neg (fun h=>h3 h.2)]
    · rw[if_neg (by simpa using h2),if_neg (fun h=>h2 h.1)]
 by_cases hlt:n<ps.length
 · have g:decide ((n:Int)<(ps.length:Int))=true:=decide_eq_true (by omega)
   rw[g]
   simp only[if_true,answerS_TC,bnd_some]
   have hM:layM a (codeS c) ps n=(a.1,answerS a.2.1 (codeS c)+512,qsA a,(layL (ps.take n)).1,(layL (ps.take n)).2,arA a (codeS c)):=by
    unfold layM headM;rw[if_pos hlt]
   rw[hM] at fin
   exact fin
 · have g:decide ((n:Int)<(ps.length:Int))=false:=decide_eq_false (by omega)
   rw[g]
   simp only[Bool.false_eq_true,if_false,bnd_some]
   have hM:layM a (codeS c) ps n=(a.1,answerS a.2.1 (codeS c),qsA a,(layL (ps.take n)).1,(layL (ps.take n)).2,arA a (codeS c)):=by
    unfold layM headM;rw[if_neg hlt]
   rw[hM] at fin
   exact fin
def outB (o:Unit ⊕ List UInt8):List UInt8:=match o with
 | .inl _=>[]
 | .inr s=>s
theorem build_loop {a:Ak} {c:Ch} {ps:List Pi_} (hn:(a.2.2.1.length:Int)≤maxI) (hp:fewP ps):∀n,n≤ps.length→∃o,loopS (step_reply_Build_0 a c ps) (n:Int)=some o∧outB o=buildW a (codeS c) ps n:=by
 have hend:step_reply_Build_0 a c ps (-1)=some (.inr (.inl ())):=by
  unfold step_reply_Build_0
  simp only[grdEq_self]
  rw[if_neg (by simp)]
 intro n
 induction n with
 | zero =>
  intro hle
  have hs:=build_step (c:=c) hn hp hle
  unfold tryS at hs
  unfold buildW
  split at hs
  · rename_i h
    exact⟨_,loopS_out hs,by rw[if_pos h];rfl⟩
  · rename_i h
    rw[if_neg h]
    split at hs
    · rename_i h2
      exact⟨_,loopS_out hs,by rw[if_pos h2];rfl⟩
    · rename_i h2
      rw[if_neg h2]
      exact⟨_,(loopS_next hs).trans (loopS_out hend),rfl⟩
 | succ n ih =>
  intro hle
  have hs:=build_step (c:=c) hn hp hle
  unfold tryS at hs
  unfold buildW
  split at hs
  · rename_i h
    exact⟨_,loopS_out hs,by rw[if_pos h];rfl⟩
  · rename_i h
    rw[if_neg h]
    split at hs
    · rename_i h2
      exact⟨_,loopS_out hs,by rw[if_pos h2];rfl⟩
    · rename_i h2
      rw[if_neg h2]
      obtain⟨o,h3,h4⟩:=ih (by omega)
      refine⟨o,(loopS_next hs).trans ?_,h4⟩
      rw[←h3]
      congr 1
      omega
theorem build_ref {a:Ak} {c:Ch} {turn:Int} (h:c.2.1<0∨2<c.2.1):buildS a c turn=refuseS a 2:=if_pos h
theorem build_yes {a:Ak} {c:Ch} {turn:Int} (h:¬(c.2.1<0∨2<c.2.1)):buildS a c turn=buildW a (codeS c) (piecesS c turn) (piecesS c turn).length:=if_neg h
theorem reply_Build_eq {a:Ak} {c:Ch} (hn:(a.2.2.1.length:Int)≤maxI) (hc:smallC c=true) (turn:Int):F_reply_Build a c turn=some (buildS a c turn):=by
 unfold F_reply_Build
 simp only[grdEq_self]
 have e1:F_reply_Refuse (a.fst,a.snd.fst,a.snd.snd.fst,a.snd.snd.snd.fst,a.snd.snd.snd.snd.fst,a.snd.snd.snd.snd.snd.fst,a.snd.snd.snd.snd.snd.snd.fst,a.snd.snd.snd.snd.snd.snd.snd.fst,a.snd.snd.snd.snd.snd.snd.snd.snd.fst,a.snd.snd.snd.snd.snd.snd.snd.snd.snd) 2=some (refuseS a 2):=reply_Refuse_eq hn 2
 have e2:F_reply_pieces (c.fst,c.snd.fst,c.snd.snd.fst,c.snd.snd.snd.fst,c.snd.snd.snd.snd.fst,c.snd.snd.snd.snd.snd.fst,c.snd.snd.snd.snd.snd.snd.fst,c.snd.snd.snd.snd.snd.snd.snd.fst,c.snd.snd.snd.snd.snd.snd.snd.snd) turn=some (piecesS c turn):=reply_pieces_eq hc turn
 rw[e1,e2]
 obtain⟨o,h1,h2⟩:=build_loop (c:=c) hn (pieces_few hc turn) (piecesS c turn).length (Nat.le_refl _)
 by_cases h0:c.2.1<0
 · have g:decide (c.2.1<0)=true:=decide_eq_true h0
   rw[build_ref (.inl h0)]
   simp only[g,Bool.true_eq_false,if_false,bnd_some,if_true]
 · have g:decide (c.2.1<0)=false:=decide_eq_false h0
   by_cases h3:2<c.2.1
   · have g3:decide (2<c.2.1)=true:=decide_eq_true h3
     rw[build_ref (.inr h3)]
     simp only[g,if_true,bnd_some,g3]
   · have g3:decide (2<c.2.1)=false:=decide_eq_false h3
     rw[build_yes (by omega),←h2]
     simp only[g,if_true,bnd_some,g3,if_false,Bool.false_eq_true,h1]
     cases o<;>rfl
end Go.Abs

namespace Go.Abs
open Go
def okH (a:Ak):Bool:=inC a.1 65535&&(qsA a).all okQ
theorem data41:dataC 41 []=true:=by kernel_rfl
theorem root_name:nameS [0]=true:=by kernel_rfl
theorem optE_ok {e:Int} (h0:0≤e) (h1:e<16) (d:Bool):recC (optE e d)=true:=by
 unfold recC optE inC
 simp only[data41,root_name,Bool.true_and,Bool.and_true,Bool.and_eq_true,decide_eq_true_eq]
 cases d
 · simp;omega
 · simp;omega
theorem arA_ok {a:Ak} {code:Int} (h0:0≤code) (h1:code≤255):(∀r∈arA a code,recC r=true)∧(arA a code).length≤1:=by
 unfold arA
 split
 · exact⟨fun r hr=>by simp only[List.mem_singleton] at hr;subst hr;exact optE_ok (by omega) (by omega) _,by simp⟩
 · exact⟨by simp,by simp⟩
theorem check_head {a:Ak} {bits code:Int} {an ns:List RRt} (h0:0≤code) (h1:code≤255) (hb:0≤bits∧bits≤65535) (n1:an.length≤65535) (n2:ns.length≤65535) (r1:∀r∈an,recC r=true) (r2:∀r∈ns,recC r=true):checkM (headM a bits code an ns)=okH a:=by
 obtain⟨a1,a2⟩:=arA_ok (a:=a) h0 h1
 have q1:(qsA a).length≤1:=by unfold qsA;split<;>simp
 have i1:inC bits 65535=true:=by unfold inC;simp;omega
 have i2:inC ((qsA a).length:Int) 65535=true:=by unfold inC;simp;omega
 have i3:inC (an.length:Int) 65535=true:=by unfold inC;simp;omega
 have i4:inC (ns.length:Int) 65535=true:=by unfold inC;simp;omega
 have i5:inC ((arA a code).length:Int) 65535=true:=by unfold inC;simp;omega
 have l1:an.all recC=true:=by rw[List.all_eq_true];exact r1
 have l2:ns.all recC=true:=by rw[List.all_eq_true];exact r2
 have l3:(arA a code).all recC=true:=by rw[List.all_eq_true];exact a1
 unfold checkM okH headM
 simp only[i1,i2,i3,i4,i5,l1,l2,l3,Bool.and_true]
theorem qs_len {a:Ak} (h:okH a=true):((qsA a).map encQ).flatten.length≤259:=by
 unfold okH at h
 simp only[Bool.and_eq_true,List.all_eq_true] at h
 have:=encQs_len h.2
 have q1:(qsA a).length≤1:=by unfold qsA;split<;>simp
 omega
theorem write_root (base:List UInt8):writeS base 12 [0]=if nameS base=true then [0] else []:=by
 unfold writeS
 rw[lab_root]
 by_cases h:nameS base=true
 · rw[if_pos ⟨h,root_name,by omega,by omega⟩,if_pos h]
   rfl
 · rw[if_neg (fun q=>h q.1),if_neg h]
theorem tailE_sz (r:RRt):(tailE r).length=10+r.2.2.2.2.length:=by simp[tailE,put2,put4];omega
theorem optE_len {base:List UInt8} (e:Int) (d:Bool):(recE base 12 (optE e d)).length≤11:=by
 have hw:(writeS base 12 (optE e d).1).length≤1:=by
  show (writeS base 12 [0]).length≤1
  rw[write_root]
  split<;>simp
 unfold recE
 split
 · simp
 · rw[List.length_append,tailE_sz]
   simp only[optE,List.length_nil] at hw ⊢
   omega
theorem encs_ar (base:List UInt8) (a:Ak) (code:Int):(encs base (arA a code)).length≤11:=by
 unfold arA
 split
 · rw[encs_cons]
   have:=optE_len (base:=base) (code / 16) a.2.2.2.2.2.2.2.2.2
   simpa[encs] using this
 · simp[encs]
theorem layM_check {a:Ak} {c:Ch} {ps:List Pi_} {n:Nat} (hp:fewP ps):checkM (layM a (codeS c) ps n)=okH a:=by
 have hf:=layL_few (ps:=ps.take n) (fun p h=>hp.2 p (List.mem_of_mem_take h))
 have hl:(ps.take n).length≤13:=by rw[List.length_take];have:=hp.1;omega
 obtain⟨b1,_⟩:=answerS_of a.2.1 (codeS c)
 have hcb:=codeS_b c
 unfold layM
 exact check_head hcb.1 hcb.2 (by split<;>omega) (by omega) (by omega) (fun r hr=>(hf.2.2.1 r hr).1.2.2) (fun r hr=>(hf.2.2.2 r hr).1.2.2)
theorem encM_cases {m:Mt} (hc:checkM m=true):((wholeE m).length≤65535∧encM m=(wholeE m,0))∨(65535<(wholeE m).length∧(encM m).2=6):=by
 rcases Nat.lt_or_ge 65535 (wholeE m).length with h | h
 · refine .inr ⟨h,?_⟩
   by_cases h0:(encM m).2=0
   · have:=(encM_ok h0).2.2;omega
   · rcases (encM_err h0).2 with h1 | ⟨_,h1⟩
     · exact h1
     · rw[hc] at h1;simp at h1
 · exact .inl ⟨h,encM_mk hc h⟩
def fitP (a:Ak) (c:Ch) (ps:List Pi_) (n:Nat):Prop:=((wholeE (layM a (codeS c) ps n)).length:Int)≤limS (oA a)
theorem try_yes {a:Ak} {c:Ch} {ps:List Pi_} {n:Nat} (hp:fewP ps) (h:okH a=true) (hf:fitP a c ps n):encM (layM a (codeS c) ps n)=(wholeE (layM a (codeS c) ps n),0):=by
 have hl:=limS_b (oA a)
 unfold fitP at hf
 rcases encM_cases (m:=layM a (codeS c) ps n) (by rw[layM_check hp];exact h) with ⟨_,h2⟩ | ⟨h1,_⟩
 · exact h2
 · omega
theorem buildW_fit {a:Ak} {c:Ch} {ps:List Pi_} {n:Nat} (hp:fewP ps) (h:okH a=true) (hf:fitP a c ps n):buildW a (codeS c) ps n=wholeE (layM a (codeS c) ps n):=by
 have e:=try_yes hp h hf
 unfold fitP at hf
 cases n with
 | zero=>unfold buildW;rw[e];simp[hf]
 | succ n=>unfold buildW;rw[e];simp[hf]
theorem buildW_not {a:Ak} {c:Ch} {ps:List Pi_} {n:Nat} (hp:fewP ps) (h:okH a=true) (hf:¬fitP a c ps (n+1)):buildW a (codeS c) ps (n+1)=buildW a (codeS c) ps n:=by
 unfold fitP at hf
 rcases encM_cases (m:=layM a (codeS c) ps (n+1)) (by rw[layM_check hp];exact h) with ⟨h1,h2⟩ | ⟨h1,h2⟩
 · conv=>lhs;unfold buildW
   rw[h2]
   simp[hf]
 · conv=>lhs;unfold buildW
   rw[h2]
   simp
theorem whole_zero {a:Ak} {c:Ch} {ps:List Pi_} (hp:fewP ps) (h:okH a=true):fitP a c ps 0:=by
 have hl:=limS_b (oA a)
 unfold fitP
 have hq:=qs_len h
 have e1:layM a (codeS c) ps 0=headM a (if 0<ps.length then answerS a.2.1 (codeS c)+512 else answerS a.2.1 (codeS c)) (codeS c) [] []:=rfl
 rw[e1]
 have e2:∀bits,(wholeE (headM a bits (codeS c) [] [])).length≤282:=by
  intro bits
  have:=encs_ar (baseM (headM a bits (codeS c) [] [])) a (codeS c)
  unfold wholeE
  simp only[List.length_append,headE_len]
  have e3:(headM a bits (codeS c) [] []).2.2.1=qsA a:=rfl
  have e4:(headM a bits (codeS c) [] []).2.2.2.2.2=arA a (codeS c):=rfl
  have e5:∀b,(encs b (headM a bits (codeS c) [] []).2.2.2.1).length=0:=fun b=>rfl
  have e6:∀b,(encs b (headM a bits (codeS c) [] []).2.2.2.2.1).length=0:=fun b=>rfl
  rw[e3,e4,e5,e6]
  omega
 have:=e2 (if 0<ps.length then answerS a.2.1 (codeS c)+512 else answerS a.2.1 (codeS c))
 omega
theorem buildW_spec {a:Ak} {c:Ch} {ps:List Pi_} (hp:fewP ps) (h:okH a=true):∀n,∃k,k≤n∧buildW a (codeS c) ps n=wholeE (layM a (codeS c) ps k)∧fitP a c ps k∧∀j,k<j→j≤n→¬fitP a c ps j:=by
 intro n
 induction n with
 | zero =>
  have h0:=whole_zero (c:=c) hp h
  exact⟨0,Nat.le_refl _,buildW_fit hp h h0,h0,fun j h1 h2=>by omega⟩
 | succ n ih =>
  by_cases hf:fitP a c ps (n+1)
  · exact⟨n+1,Nat.le_refl _,buildW_fit hp h hf,hf,fun j h1 h2=>by omega⟩
  · obtain⟨k,h1,h2,h3,h4⟩:=ih
    refine⟨k,by omega,by rw[buildW_not hp h hf,h2],h3,fun j g1 g2=>?_⟩
    rcases Nat.lt_or_ge n j with g | g
    · have:j=n+1:=by omega
      rw[this];exact hf
    · exact h4 j g1 g
end Go.Abs

namespace Go.Abs
open Go
theorem read_okH {s:List UInt8} (h:(readR s).2.1≠0):okH (readR s).1=true:=by
 have hid:(headS s).2.2=true→0≤(headS s).1∧(headS s).1≤65535:=by
  intro hh
  unfold headS at hh ⊢
  split
  · rename_i hl;rw[if_pos hl] at hh;simp at hh
  · exact getD_b s 0
 unfold readR at h ⊢
 split at h
 · simp at h
 · rename_i hn
   rw[if_neg hn]
   have his:(headS s).2.2=true:=by
    cases hh:(headS s).2.2 with
    | true=>rfl
    | false=>exact absurd (.inl hh) hn
   have hi:=hid his
   have hin:inC (headS s).1 65535=true:=by unfold inC;simp[hi]
   have key0:∀o,okH (mkA (headS s).1 (headS s).2.1 q0 o)=true:=by
    intro o
    unfold okH
    have:qsA (mkA (headS s).1 (headS s).2.1 q0 o)=[]:=rfl
    rw[this]
    simpa[mkA] using hin
   have keyq:∀q o,okQ q=true→okH (mkA (headS s).1 (headS s).2.1 q o)=true:=by
    intro q o hq
    have hne:¬(q.1=[]):=fun e=>by have:=(nameS_pos (okQ_iff hq).1).1;rw[e] at this;simp at this
    unfold okH
    have:qsA (mkA (headS s).1 (headS s).2.1 q o)=[q]:=by
     have e:(mkA (headS s).1 (headS s).2.1 q o).2.2.1=q.1:=rfl
     unfold qsA;rw[e,if_neg hne];rfl
    rw[this]
    simp only[List.all_cons,List.all_nil,hq,Bool.and_true]
    exact hin
   split
   · exact key0 _
   · cases ha:askS s with
     | none=>exact key0 _
     | some p =>
      obtain⟨q,o⟩:=p
      simp only
      have hq:=askS_may ha
      unfold readQ
      split
      · exact keyq q o hq
      · split
        · exact keyq q o hq
        · split<;>exact keyq q o hq
theorem okH_name {a:Ak} (h:okH a=true):a.2.2.1.length≤255:=by
 unfold okH at h
 simp only[Bool.and_eq_true,List.all_eq_true] at h
 by_cases hn:a.2.2.1=[]
 · rw[hn];simp
 · have:=h.2 (qA a) (by unfold qsA;rw[if_neg hn];simp)
   exact (nameS_pos (okQ_iff this).1).2
theorem back_root (base:List UInt8):backS base [0]=[0]:=by
 unfold backS
 rw[lab_root]
 rfl
theorem ar_back (base:List UInt8) (a:Ak) (code:Int):(arA a code).map (backR base)=arA a code:=by
 unfold arA
 split
 · simp only[List.map_cons,List.map_nil]
   congr 1
   unfold backR optE
   simp only[back_root]
 · rfl
theorem head_back (a:Ak) (bits code:Int) (an ns:List RRt):backM (headM a bits code an ns)=headM a bits code (an.map (backR (baseM (headM a bits code an ns)))) (ns.map (backR (baseM (headM a bits code an ns)))):=by
 unfold backM
 have:=ar_back (baseM (headM a bits code an ns)) a code
 unfold headM at this ⊢
 rw[this]
theorem optO_E {e:Int} (h0:0≤e) (h1:e<16) (d:Bool):goodO (optE e d)=true∧optO (optE e d)=(true,4096,e,0,d)∧isO (optE e d)=true:=by
 refine⟨?_,?_,rfl⟩
 · unfold goodO optE inC
   cases d
   · simp;omega
   · simp;omega
 · unfold optO optE
   cases d
   · simp only[Bool.false_eq_true,if_false,Prod.mk.injEq,true_and]
     refine⟨by omega,by omega,?_⟩
     simp;omega
   · simp only[if_true,Prod.mk.injEq,true_and]
     refine⟨by omega,by omega,?_⟩
     simp;omega
theorem find_head {a:Ak} {bits code:Int} {an ns:List RRt} (h0:0≤code) (h1:code≤255) (g1:an.any isO=false) (g2:ns.any isO=false):findS (headM a bits code an ns)=(if a.2.2.2.2.2.1=true then (true,4096,code / 16,0,a.2.2.2.2.2.2.2.2.2) else op0,0):=by
 by_cases h:a.2.2.2.2.2.1=true
 · obtain⟨k1,k2,k3⟩:=optO_E (e:=code / 16) (by omega) (by omega) a.2.2.2.2.2.2.2.2.2
   rw[findS_some (u:=[]) (v:=[]) (r:=optE (code / 16) a.2.2.2.2.2.2.2.2.2) g1 g2 (by unfold headM arA;simp only[h,if_true];rfl) rfl k3]
   rw[k1,k2,if_pos h]
   rfl
 · rw[findS_none g1 g2 (by unfold headM arA;simp only[h,if_false];rfl),if_neg h]
theorem head0_len {a:Ak} (h:okH a=true) (bits code:Int):(wholeE (headM a bits code [] [])).length≤282:=by
 have hq:=qs_len h
 have:=encs_ar (baseM (headM a bits code [] [])) a code
 unfold wholeE
 simp only[List.length_append,headE_len]
 have e3:(headM a bits code [] []).2.2.1=qsA a:=rfl
 have e4:(headM a bits code [] []).2.2.2.2.2=arA a code:=rfl
 have e5:∀b,(encs b (headM a bits code [] []).2.2.2.1).length=0:=fun b=>rfl
 have e6:∀b,(encs b (headM a bits code [] []).2.2.2.2.1).length=0:=fun b=>rfl
 rw[e3,e4,e5,e6]
 omega
theorem refuse_dec {a:Ak} {code:Int} (h:okH a=true) (h0:0≤code) (h1:code≤255):decS (refuseS a code)=(headM a (answerS a.2.1 code) code [] [],0)∧(refuseS a code).length≤282:=by
 obtain⟨b1,_⟩:=answerS_of a.2.1 code
 have hc:checkM (headM a (answerS a.2.1 code) code [] [])=true:=by
  rw[check_head h0 h1 (by omega) (by simp) (by simp) (by simp) (by simp)];exact h
 have hl:=head0_len h (answerS a.2.1 code) code
 have he:=encM_mk hc (by omega)
 rw[refuse_yes h0 h1]
 refine⟨?_,by rw[he];exact hl⟩
 rw[dec_enc (by rw[he])]
 rw[head_back]
 rfl
end Go.Abs

namespace Go.Abs
open Go
end Go.Abs

namespace Go.Abs
open Go
def plainS (c:Ch):Bool:=c.1.all (fun h=>h.2.1 != 41)&&c.2.2.2.2.1 != 41
theorem plain_eq {c:Ch} (h:c.1.length≤12):F_law17_plain c=some (plainS c):=by
 unfold F_law17_plain plainS
 obtain⟨r,r1,r2⟩:=all_loop (ok:=fun x:Hi=>x.2.1 != 41) (bad:=fun _=>false) (step:=step_law17_plain_0 c) c.1 (by simp[step_law17_plain_0,grdEq_self]) (fun i x hx=>by
  have hi:=(List.getElem?_eq_some_iff.1 hx).1
  simp only[step_law17_plain_0,natOf_nat,hx,bnd_some,grdEq_self]
  rw[if_pos (by simp;omega),wrap_id (by omega) (by omega)]
  by_cases b:x.2.1=41
  · simp[b]
  · simp[b])
 rw[r1,bnd_some]
 by_cases h:c.1.all (fun h=>h.2.1 != 41)=true
 · rw[if_pos h] at r2
   subst r2
   simp only[h,Bool.true_and]
 · rw[if_neg h] at r2
   obtain⟨i,rfl⟩:=r2
   simp only[Bool.not_eq_true] at h
   simp only[h,Bool.false_and]
def goodH (h:Hi):Bool:=decide (0<(flatS (hitS h) h.2.2.2.2.2 0).length)
theorem good_eq {h:Hi} (hs:smallS (hitS h)=true):F_law17_good h=some (goodH h):=by
 unfold F_law17_good F_ref17_Records goodH
 have e:F_ref10_Flat (h.fst,h.snd.fst,h.snd.snd.fst,h.snd.snd.snd.fst,h.snd.snd.snd.snd.fst) h.snd.snd.snd.snd.snd 0=some (flatS (hitS h) h.2.2.2.2.2 0):=ref10_Flat_eq (s:=hitS h) (small_few hs) _ _
 simp only[e,bnd_some,grdEq_self]
 congr 1
 simp
def soundS (c:Ch):Bool:=c.1.all goodH&&(if c.2.1=0 then true else goodH c.2.2.2)
theorem sound_eq {c:Ch} (hc:smallC c=true):F_law17_sound c=some (soundS c):=by
 obtain⟨h1,h2,h3⟩:=smallC_all hc
 unfold F_law17_sound soundS
 obtain⟨r,r1,r2⟩:=all_loop (ok:=goodH) (bad:=fun _=>false) (step:=step_law17_sound_0 c) c.1 (by simp[step_law17_sound_0,grdEq_self]) (fun i x hx=>by
  have hi:=(List.getElem?_eq_some_iff.1 hx).1
  have e:F_law17_good (x.fst,x.snd.fst,x.snd.snd.fst,x.snd.snd.snd.fst,x.snd.snd.snd.snd.fst,x.snd.snd.snd.snd.snd)=some (goodH x):=good_eq (h1 x (List.mem_of_getElem? hx))
  simp only[step_law17_sound_0,natOf_nat,hx,bnd_some,grdEq_self,e]
  rw[if_pos (by simp;omega),wrap_id (by omega) (by omega)]
  cases goodH x<;>simp)
 rw[r1,bnd_some]
 have e2:F_law17_good (c.snd.snd.snd.fst,c.snd.snd.snd.snd.fst,c.snd.snd.snd.snd.snd.fst,c.snd.snd.snd.snd.snd.snd.fst,c.snd.snd.snd.snd.snd.snd.snd.fst,c.snd.snd.snd.snd.snd.snd.snd.snd)=some (goodH c.2.2.2):=good_eq h3
 by_cases h:c.1.all goodH=true
 · rw[if_pos h] at r2
   subst r2
   simp only[h,Bool.true_and,e2,bnd_some,grdEq_self]
   by_cases h0:c.2.1=0
   · simp[h0]
   · simp[h0]
 · rw[if_neg h] at r2
   obtain⟨i,rfl⟩:=r2
   simp only[Bool.not_eq_true] at h
   simp only[h,Bool.false_and]
def bitsS (a:Ak) (code:Int) (ps:List Pi_) (n:Nat):Int:=if n<ps.length then answerS a.2.1 code+512 else answerS a.2.1 code
def noO (ps:List Pi_):Prop:=∀p∈ps,∀r∈p.1,isO r=false
theorem lay_noO {ps:List Pi_} (h:noO ps):(∀r∈(layL ps).1,isO r=false)∧∀r∈(layL ps).2,isO r=false:=by
 have key:∀(v u:List Pi_),ps=u++v→((∀r∈(layL u).1,isO r=false)∧∀r∈(layL u).2,isO r=false)→(∀r∈(layL ps).1,isO r=false)∧∀r∈(layL ps).2,isO r=false:=by
  intro v
  induction v with
  | nil=>intro u hu hh;rw[List.append_nil] at hu;rw[hu];exact hh
  | cons x v ih =>
   intro u hu hh
   refine ih (u++[x]) (by rw[hu];simp) ?_
   have hx:=h x (by rw[hu];simp)
   rw[layL_app]
   unfold layP
   split
   · exact⟨hh.1,hx⟩
   · refine⟨fun r hr=>?_,hh.2⟩
     rcases List.mem_append.1 hr with h | h
     · exact hh.1 r h
     · exact hx r h
 exact key ps [] rfl ⟨by simp[layL],by simp[layL]⟩
theorem pieces_noO {c:Ch} (hc:smallC c=true) (hp:plainS c=true) (turn:Int):noO (piecesS c turn):=by
 obtain⟨h1,h2,h3⟩:=smallC_all hc
 unfold plainS at hp
 simp only[Bool.and_eq_true,List.all_eq_true,bne_iff_ne,ne_eq] at hp
 intro p hpm r hr
 unfold piecesS at hpm
 rcases List.mem_append.1 hpm with h | h
 · obtain⟨x,hx,rfl⟩:=List.mem_map.1 h
   obtain⟨_,_,d,_,rfl⟩:=flatS_mem (h1 x hx) hr
   have:¬(hitS x).2.1=41:=hp.1 x hx
   unfold isO recI
   simpa using this
 · unfold soaP at h
   split at h
   · simp at h
   · simp only[List.mem_singleton] at h
     subst h
     obtain⟨_,_,d,_,rfl⟩:=flatS_mem h3 hr
     have:¬(hitS c.2.2.2).2.1=41:=hp.2
     unfold isO recI
     simpa using this
theorem any_no {l:List RRt} (h:∀r∈l,isO r=false) (base:List UInt8):(l.map (backR base)).any isO=false:=by
 rw[List.any_eq_false]
 intro x hx
 obtain⟨r,hr,rfl⟩:=List.mem_map.1 hx
 have:=h r hr
 unfold isO backR at *
 simpa using this
theorem built_dec {a:Ak} {c:Ch} {ps:List Pi_} {k:Nat} (hp:fewP ps) (h:okH a=true) (hf:fitP a c ps k):∃an ns:List RRt,decS (wholeE (layM a (codeS c) ps k))=(headM a (bitsS a (codeS c) ps k) (codeS c) an ns,0) ∧
 an.length=(layL (ps.take k)).1.length∧ns.length=(layL (ps.take k)).2.length∧(noO ps→an.any isO=false∧ns.any isO=false):=by
 have e:=try_yes hp h hf
 have d:=dec_enc (m:=layM a (codeS c) ps k) (by rw[e])
 rw[e] at d
 simp only at d
 have hb:backM (layM a (codeS c) ps k)=headM a (bitsS a (codeS c) ps k) (codeS c) ((layL (ps.take k)).1.map (backR (baseM (layM a (codeS c) ps k)))) ((layL (ps.take k)).2.map (backR (baseM (layM a (codeS c) ps k)))):=head_back _ _ _ _ _
 rw[hb] at d
 refine⟨_,_,d,by simp,by simp,fun hn=>?_⟩
 have:=lay_noO (ps:=ps.take k) (fun p hpm=>hn p (List.mem_of_mem_take hpm))
 exact⟨any_no this.1 _,any_no this.2 _⟩
end Go.Abs

namespace Go.Abs
open Go
def dsum (l:List Hi):Nat:=(l.map fun h=>h.2.2.2.1.length).sum
def allS (c:Ch):Nat:=dsum c.1+if c.2.1=0 then 0 else c.2.2.2.2.2.2.1.length
theorem dsum_app (l:List Hi) (x:Hi):dsum (l++[x])=dsum l+x.2.2.2.1.length:=by simp[dsum]
theorem dsum_le {l:List Hi} (h:∀x∈l,smallS (hitS x)=true):dsum l≤60*l.length:=by
 induction l with
 | nil=>simp[dsum]
 | cons x l ih =>
  have h1:=(smallS_iff (h x (by simp))).1
  have h1':x.2.2.2.1.length≤60:=h1
  have:=ih (fun y hy=>h y (by simp[hy]))
  unfold dsum at this ⊢
  simp only[List.map_cons,List.sum_cons,List.length_cons]
  omega
theorem fits_loop {c:Ch} (hc:smallC c=true) (v10:Ak) (v16:Mt) (v23:Ep):loopS (step_law17_ReplyFits_0 c v10 v16 v23) (0,0)=some (dsum c.1:Int):=by
 obtain⟨h1,h2,h3⟩:=smallC_all hc
 have key:∀(v u:List Hi),c.1=u++v→loopS (step_law17_ReplyFits_0 c v10 v16 v23) ((dsum u:Int),(u.length:Int))=some (dsum c.1:Int):=by
  intro v
  induction v with
  | nil =>
   intro u hu
   rw[List.append_nil] at hu
   rw[hu]
   refine loopS_out ?_
   unfold step_law17_ReplyFits_0
   simp only[grdEq_self]
   rw[hu,if_neg (by simp)]
  | cons x v ih =>
   intro u hu
   have hx:c.1[u.length]? = some x:=by rw[hu];simp
   have hi:=(List.getElem?_eq_some_iff.1 hx).1
   have hd:=dsum_le (l:=u) (fun y hy=>h1 y (by rw[hu];simp[hy]))
   have hx1:x.2.2.2.1.length≤60:=(smallS_iff (h1 x (by rw[hu];simp))).1
   have:=ih (u++[x]) (by rw[hu];simp)
   rw[←this]
   refine loopS_next ?_
   unfold step_law17_ReplyFits_0
   simp only[grdEq_self]
   rw[if_pos (by simp;omega),natOf_nat,hx,bnd_some,wrap_id (by omega) (by omega),wrap_id (by omega) (by omega),dsum_app]
   simp
 exact key c.1 [] rfl
def sumP (ps:List Pi_):Nat:=(ps.map fun p=>p.1.length).sum
theorem sumP_app (l:List Pi_) (x:Pi_):sumP (l++[x])=sumP l+x.1.length:=by simp[sumP]
theorem sumP_take (l:List Pi_) (k:Nat):sumP (l.take k)≤sumP l:=by
 have:sumP l=sumP (l.take k)+sumP (l.drop k):=by
  unfold sumP
  rw[←List.sum_append,←List.map_append,List.take_append_drop]
 omega
theorem lay_sum (ps:List Pi_):(layL ps).1.length+(layL ps).2.length≤sumP ps:=by
 have key:∀(v u:List Pi_),ps=u++v→(layL u).1.length+(layL u).2.length≤sumP u→(layL ps).1.length+(layL ps).2.length≤sumP ps:=by
  intro v
  induction v with
  | nil=>intro u hu hh;rw[List.append_nil] at hu;rw[hu];exact hh
  | cons x v ih =>
   intro u hu hh
   refine ih (u++[x]) (by rw[hu];simp) ?_
   rw[layL_app,sumP_app]
   unfold layP
   split
   · simp only;omega
   · simp only[List.length_append];omega
 exact key ps [] rfl (by simp[layL])
theorem flat_le (s:Se) (ttl turn:Int):(flatS s ttl turn).length≤s.2.2.2.1.length:=by
 unfold flatS
 split
 · simp
 · rw[List.length_map,rot_len];exact Nat.le_refl _
theorem sum_pieces (c:Ch) (turn:Int):sumP (piecesS c turn)≤allS c:=by
 unfold piecesS allS
 have e1:∀l:List Hi,sumP (l.map (fun h=>(flatS (hitS h) h.2.2.2.2.2 turn,false)))≤dsum l:=by
  intro l
  induction l with
  | nil=>simp[sumP,dsum]
  | cons x l ih =>
   have:=flat_le (hitS x) x.2.2.2.2.2 turn
   have h2:(hitS x).2.2.2.1.length=x.2.2.2.1.length:=rfl
   unfold sumP dsum at ih ⊢
   simp only[List.map_cons,List.sum_cons]
   omega
 have:=e1 c.1
 unfold soaP
 split
 · rw[List.append_nil];omega
 · rw[sumP_app]
   have h3:=flat_le (hitS c.2.2.2) c.2.2.2.2.2.2.2.2 0
   have h2:(hitS c.2.2.2).2.2.2.1.length=c.2.2.2.2.2.2.1.length:=rfl
   simp only
   omega
theorem good_len {h:Hi} {turn:Int} (hg:goodH h=true) (ht:0≤turn):(flatS (hitS h) h.2.2.2.2.2 turn).length=h.2.2.2.1.length:=by
 unfold goodH at hg
 simp only[decide_eq_true_eq] at hg
 obtain⟨g1,g2⟩:=flatS_yes (s:=hitS h) (ttl:=h.2.2.2.2.2) (turn:=0) (fun e=>by rw[e] at hg;simp at hg)
 rw[flatS_val g1 g2 ht,List.length_map,rot_len]
 rfl
theorem lay_hits (f:Hi→List RRt) (l:List Hi):layL (l.map fun h=>(f h,false))=((l.map f).flatten,[]):=by
 have key:∀(v u:List Hi),l=u++v→layL (u.map fun h=>(f h,false))=((u.map f).flatten,[])→layL (l.map fun h=>(f h,false))=((l.map f).flatten,[]):=by
  intro v
  induction v with
  | nil=>intro u hu hh;rw[List.append_nil] at hu;rw[hu];exact hh
  | cons x v ih =>
   intro u hu hh
   refine ih (u++[x]) (by rw[hu];simp) ?_
   rw[List.map_append,List.map_cons,List.map_nil,layL_app,hh]
   simp[layP]
 exact key l [] rfl rfl
theorem all_sound {c:Ch} {turn:Int} (hs:soundS c=true) (ht:0≤turn):(layL (piecesS c turn)).1.length+(layL (piecesS c turn)).2.length=allS c:=by
 unfold soundS at hs
 simp only[Bool.and_eq_true,List.all_eq_true] at hs
 obtain⟨h1,h2⟩:=hs
 have e1:∀l:List Hi,(∀x∈l,goodH x=true)→((l.map fun h=>flatS (hitS h) h.2.2.2.2.2 turn).flatten).length=dsum l:=by
  intro l
  induction l with
  | nil=>intro _;rfl
  | cons x l ih =>
   intro hx
   have:=ih (fun y hy=>hx y (by simp[hy]))
   have hg:=good_len (hx x (by simp)) ht
   unfold dsum at this ⊢
   simp only[List.map_cons,List.flatten_cons,List.length_append,List.sum_cons]
   omega
 have e2:=e1 c.1 h1
 unfold piecesS allS soaP
 by_cases h0:c.2.1=0
 · rw[if_pos h0,if_pos h0,List.append_nil,lay_hits]
   simp only[List.length_nil]
   omega
 · rw[if_neg h0,if_neg h0,layL_app,lay_hits]
   rw[if_neg h0] at h2
   have:=good_len (turn:=0) h2 (by omega)
   unfold layP
   simp only[if_true]
   omega
theorem law_ReplyFits (s:List UInt8) (c:Ch) (turn:Int) (hc:okC c):F_law17_ReplyFits s c turn=some true:=by
 unfold F_law17_ReplyFits
 rw[live17]
 have e1:F_ref17_Small (c.fst,c.snd.fst,c.snd.snd.fst,c.snd.snd.snd.fst,c.snd.snd.snd.snd.fst,c.snd.snd.snd.snd.snd.fst,c.snd.snd.snd.snd.snd.snd.fst,c.snd.snd.snd.snd.snd.snd.snd.fst,c.snd.snd.snd.snd.snd.snd.snd.snd)=some (smallC c):=ref17_Small_eq hc
 simp only[e1,bnd_some,grdEq_self]
 by_cases hs:2000<(s.length:Int)
 · simp only[decide_eq_true hs,Bool.true_eq_false,if_false,bnd_some,if_true]
 · simp only[decide_eq_false hs,if_true]
   cases hsm:smallC c with
   | false=>rfl
   | true =>
    obtain⟨s1,s2,s3⟩:=smallC_all hsm
    have e2:F_law17_plain (c.fst,c.snd.fst,c.snd.snd.fst,c.snd.snd.snd.fst,c.snd.snd.snd.snd.fst,c.snd.snd.snd.snd.snd.fst,c.snd.snd.snd.snd.snd.snd.fst,c.snd.snd.snd.snd.snd.snd.snd.fst,c.snd.snd.snd.snd.snd.snd.snd.snd)=some (plainS c):=plain_eq s2
    by_cases ht:turn<0
    · simp only[Bool.not_true,if_true,decide_eq_true ht,Bool.true_eq_false,if_false,bnd_some]
    · simp only[Bool.not_true,if_true,decide_eq_false ht,e2,bnd_some]
      cases hpl:plainS c with
      | false=>rfl
      | true =>
       simp only[Bool.not_true,Bool.false_eq_true,if_false,bnd_some,reply_Read_eq (show s.length≤1000000 by omega)]
       have hk:=readR_kinds s
       have hok:=read_okH (s:=s)
       rcases hR:readR s with ⟨a,k,cd⟩
       rw[hR] at hk hok
       simp only at hk hok ⊢
       rcases hk with ⟨h0,_⟩ | ⟨h0,_⟩ | ⟨h0,_,q,o,hq,h2,_⟩
       · subst h0;rfl
       · subst h0;rfl
       · subst h0
         have hok:=hok (by omega)
         have hnm:=okH_name hok
         have hqa:qsA a=[qA a]:=by
          have hne:¬(q.1=[]):=fun e=>by have:=(nameS_pos (okQ_iff (askS_may hq)).1).1;rw[e] at this;simp at this
          have e:a.2.2.1=q.1:=by rw[h2];rfl
          unfold qsA;rw[e,if_neg hne]
         have e3:F_law17_Chain (c.fst,c.snd.fst,c.snd.snd.fst,c.snd.snd.snd.fst,c.snd.snd.snd.snd.fst,c.snd.snd.snd.snd.snd.fst,c.snd.snd.snd.snd.snd.snd.fst,c.snd.snd.snd.snd.snd.snd.snd.fst,c.snd.snd.snd.snd.snd.snd.snd.snd)=some c:=chain_eq s2
         have e4:F_reply_Build (a.fst,a.snd.fst,a.snd.snd.fst,a.snd.snd.snd.fst,a.snd.snd.snd.snd.fst,a.snd.snd.snd.snd.snd.fst,a.snd.snd.snd.snd.snd.snd.fst,a.snd.snd.snd.snd.snd.snd.snd.fst,a.snd.snd.snd.snd.snd.snd.snd.snd.fst,a.snd.snd.snd.snd.snd.snd.snd.snd.snd) (c.fst,c.snd.fst,c.snd.snd.fst,c.snd.snd.snd.fst,c.snd.snd.snd.snd.fst,c.snd.snd.snd.snd.snd.fst,c.snd.snd.snd.snd.snd.snd.fst,c.snd.snd.snd.snd.snd.snd.snd.fst,c.snd.snd.snd.snd.snd.snd.snd.snd) turn=some (buildS a c turn):=reply_Build_eq (a:=a) (by unfold maxI;omega) hsm turn
         have e5:F_edns_Opt_Limit (a.snd.snd.snd.snd.snd.fst,a.snd.snd.snd.snd.snd.snd.fst,a.snd.snd.snd.snd.snd.snd.snd.fst,a.snd.snd.snd.snd.snd.snd.snd.snd.fst,a.snd.snd.snd.snd.snd.snd.snd.snd.snd)=some (limS (oA a)):=limit_eq (oA a)
         have hlim:=limS_b (oA a)
         have hD:∃(bits code:Int) (an ns:List RRt),decS (buildS a c turn)=(headM a bits code an ns,0)∧0≤code∧code≤255∧((buildS a c turn).length:Int)≤limS (oA a)∧ofS 32768 2 bits=1∧an.any isO=false∧ns.any isO=false ∧
          (((c.2.1<0∨2<c.2.1)∧ofS 1 16 bits=2∧an=[]∧ns=[])∨(¬(c.2.1<0∨2<c.2.1)∧an.length+ns.length≤allS c∧(ofS 512 2 bits=1∨(ofS 512 2 bits=0∧(an.length+ns.length=allS c∨soundS c=false))))):=by
          by_cases hend:c.2.1<0∨2<c.2.1
          · rw[build_ref hend]
            obtain⟨d1,d2⟩:=refuse_dec hok (code:=2) (by omega) (by omega)
            obtain⟨_,b1,_,b8,_⟩:=answerS_of a.2.1 2
            exact⟨_,2,[],[],d1,by omega,by omega,by omega,b1,rfl,rfl,.inl ⟨hend,b8,rfl,rfl⟩⟩
          · rw[build_yes hend]
            have hfew:=pieces_few hsm turn
            obtain⟨k,g1,g2,g3,g4⟩:=buildW_spec (c:=c) hfew hok (piecesS c turn).length
            rw[g2]
            obtain⟨an,ns,d1,d2,d3,d4⟩:=built_dec hfew hok g3
            obtain⟨n1,n2⟩:=d4 (pieces_noO hsm hpl turn)
            have hcb:=codeS_b c
            obtain⟨_,b1,b2,_,b4,b5,_⟩:=answerS_of a.2.1 (codeS c)
            have hsum:an.length+ns.length≤allS c:=by
             have h1:=lay_sum ((piecesS c turn).take k)
             have h2:=sumP_take (piecesS c turn) k
             have h3:=sum_pieces c turn
             omega
            refine⟨_,codeS c,an,ns,d1,hcb.1,hcb.2,g3,?_,n1,n2,.inr ⟨hend,hsum,?_⟩⟩
            · unfold bitsS;split
              · exact b4
              · exact b1
            · by_cases hkl:k<(piecesS c turn).length
              · left;unfold bitsS;rw[if_pos hkl];exact b5
              · right
                unfold bitsS;rw[if_neg hkl]
                refine⟨b2,?_⟩
                cases hso:soundS c with
                | false=>exact .inr rfl
                | true =>
                 left
                 have hk':k=(piecesS c turn).length:=by omega
                 rw[hk',List.take_length] at d2 d3
                 have:=all_sound (turn:=turn) hso (by omega)
                 omega
         obtain⟨bits,code,an,ns,d1,c0,c1,hlen,b0,n1,n2,hlast⟩:=hD
         have hfd:=find_head (a:=a) (bits:=bits) c0 c1 n1 n2
         have hfew:=decS_few (buildS a c turn)
         rw[d1] at hfew
         simp only[show ((2:Int) != 2)=false from rfl,Bool.false_eq_true,if_false,e3,e4,bnd_some,ref08_Decode_eq (show (buildS a c turn).length≤1000000 by omega),d1]
         generalize hM:headM a bits code an ns=M at *
         have e6:F_ref09_Find (M.fst,M.snd.fst,M.snd.snd.fst,M.snd.snd.snd.fst,M.snd.snd.snd.snd.fst,M.snd.snd.snd.snd.snd)=some (findS M):=ref09_Find_eq hfew
         have m1:M.1=a.1:=by rw[←hM];rfl
         have m2:M.2.1=bits:=by rw[←hM];rfl
         have m3:M.2.2.1=[qA a]:=by rw[←hqa,←hM];rfl
         have m4:M.2.2.2.1=an:=by rw[←hM];rfl
         have m5:M.2.2.2.2.1=ns:=by rw[←hM];rfl
         by_cases hz:(buildS a c turn==[])=true
         · rw[if_pos hz]
         · rw[if_neg hz]
           have q1:(qA a).1=a.2.2.1:=rfl
           have q2:(qA a).2.1=a.2.2.2.1:=rfl
           have q3:(qA a).2.2=a.2.2.2.2.1:=rfl
           rw[e6,hfd]
           simp only[bne_self_eq_false,if_true,e5,bnd_some,show decide (limS (oA a)<((buildS a c turn).length:Int))=false from decide_eq_false (by omega),m1,m2,m3,m4,m5,List.length_cons,List.length_nil,show (((0+1:Nat):Int) != 1)=false from rfl,rof0_eq,b0,show ((1:Int) != 1)=false from rfl,Bool.false_eq_true,if_false,List.getElem?_cons_zero,q1,q2,q3,beq_self_eq_true,Bool.and_self,Bool.not_true]
           have hdo:∀{α:Type} (K:Option α) (L:Option α),(if (!(if a.2.2.2.2.2.1=true then (true,(4096:Int),code / 16,(0:Int),a.2.2.2.2.2.2.2.2.2) else op0).1==a.2.2.2.2.2.1)=false then if a.2.2.2.2.2.1=true then if (!(if a.2.2.2.2.2.1=true then (true,(4096:Int),code / 16,(0:Int),a.2.2.2.2.2.2.2.2.2) else op0).2.2.2.2==a.2.2.2.2.2.2.2.2.2)=true then L else K else if (!(if a.2.2.2.2.2.1=true then (true,(4096:Int),code / 16,(0:Int),a.2.2.2.2.2.2.2.2.2) else op0).2.2.2.2==false)=true then L else K else L)=K:=by
            intro α K L
            cases a.2.2.2.2.2.1<;>simp[op0]
           rw[hdo]
           simp only[bnd_some]
           rcases hlast with ⟨hend,b8,rfl,rfl⟩ | ⟨hend,hsum,hcut⟩
           · have hb:(if decide (c.2.1<0)=false then some (decide (2<c.2.1)) else some true)=some true:=by
              rcases hend with h | h
              · simp[h]
              · simp[h]
             rw[hb]
             simp only[bnd_some,if_true,rof8_eq,b8]
             rfl
           · have hb:(if decide (c.2.1<0)=false then some (decide (2<c.2.1)) else some true)=some false:=by
              have g1:¬c.2.1<0:=fun h=>hend (.inl h)
              have g2:¬2<c.2.1:=fun h=>hend (.inr h)
              simp[g1,g2]
             have e7:F_law17_sound (c.fst,c.snd.fst,c.snd.snd.fst,c.snd.snd.snd.fst,c.snd.snd.snd.snd.fst,c.snd.snd.snd.snd.snd.fst,c.snd.snd.snd.snd.snd.snd.fst,c.snd.snd.snd.snd.snd.snd.snd.fst,c.snd.snd.snd.snd.snd.snd.snd.snd)=some (soundS c):=sound_eq hsm
             have hds:=dsum_le s1
             have hsoa:c.2.2.2.2.2.2.1.length≤60:=(smallS_iff s3).1
             have hall:(if (c.snd.fst != 0)=true then some (Go.IntKind.i64.wrap ((dsum c.1:Int)+(c.2.2.2.2.2.2.1.length:Int))) else some (dsum c.1:Int))=some (allS c:Int):=by
              unfold allS
              by_cases h0:c.2.1=0
              · simp[h0]
              · rw[if_pos (by simpa using h0),if_neg h0,wrap_id (by omega) (by omega)]
                simp
             have hal:allS c≤780:=by
              unfold allS
              split<;>omega
             have hw:Go.IntKind.i64.wrap ((an.length:Int)+(ns.length:Int))=(an.length:Int)+(ns.length:Int):=wrap_id (by omega) (by omega)
             rw[hb,fits_loop hsm]
             simp only[bnd_some,Bool.false_eq_true,if_false]
             rw[hall]
             simp only[bnd_some,rof3_eq,hw,show decide ((an.length:Int)+(ns.length:Int)≤(allS c:Int))=true from decide_eq_true (by omega),if_true,e7]
             rcases hcut with h3 | ⟨h3,h4 | h4⟩
             · rw[h3];rfl
             · rw[h3]
               have:((an.length:Int)+(ns.length:Int)==(allS c:Int))=true:=by
                simp only[beq_iff_eq];omega
               rw[this];rfl
             · rw[h3,h4]
               cases ((an.length:Int)+(ns.length:Int)==(allS c:Int))<;>rfl
end Go.Abs
