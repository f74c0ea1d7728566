/- Part of a proof. -/
import Derived.Test.YthlcfhkcbmikcaaGreatLawA
import Derived.Test.YthlcfhkcbmikcaaGreatSxB
set_option linter.unusedSimpArgs false
set_option linter.unusedVariables false
set_option linter.unusedSectionVars false
namespace Go.Abs
open Go
def encs (base:List UInt8) (l:List RRt):List UInt8:=(l.map (recE base 12)).flatten
theorem encs_app (base:List UInt8) (l m:List RRt):encs base (l++m)=encs base l++encs base m:=by simp[encs]
theorem encs_cons (base:List UInt8) (r:RRt) (m:List RRt):encs base (r::m)=recE base 12 r++encs base m:=by simp[encs]
theorem recE_len {base:List UInt8} {r:RRt}:(recE base 12 r).length≤267+r.2.2.2.2.length:=by
 unfold recE
 split
 · simp
 · have:=writeS_len base r.1 12
   simp[tailE,put2,put4];omega
def goodR (r:RRt):Prop:=r.1.length≤300∧r.2.2.2.2.length≤2000∧recC r=true
theorem encs_len {base:List UInt8}:∀{l:List RRt},(∀r∈l,goodR r)→(encs base l).length≤2267*l.length
 | [],_=>by simp[encs]
 | r::l,h=>by
  have h1:=(h r (by simp)).2.1
  have h2:=encs_len (base:=base) (l:=l) (fun x hx=>h x (by simp[hx]))
  have h3:=recE_len (base:=base) (r:=r)
  rw[encs_cons]
  simp only[List.length_append,List.length_cons]
  omega
end Go.Abs

namespace Go.Abs
open Go
abbrev Qt:=List UInt8×Int×Int
abbrev Mt:=Int×Int×List Qt×List RRt×List RRt×List RRt
def m0:Mt:=(0,0,[],[],[],[])
end Go.Abs

namespace Go.Abs
open Go
instance:DecidableEq Qt:=inferInstanceAs (DecidableEq (List UInt8×Int×Int))
instance:DecidableEq RRt:=inferInstanceAs (DecidableEq (List UInt8×Int×Int×Int×List UInt8))
abbrev Mt2:=List RRt×List RRt
instance:DecidableEq Mt2:=inferInstanceAs (DecidableEq (List RRt×List RRt))
abbrev Mt3:=List Qt×List RRt×Mt2
instance:DecidableEq Mt3:=inferInstanceAs (DecidableEq (List Qt×List RRt×Mt2))
instance:DecidableEq Mt:=inferInstanceAs (DecidableEq (Int×Int×Mt3))
end Go.Abs

namespace Go.Abs
open Go
theorem all_loop {α ρ:Type} {ok:α→Bool} {bad:Nat→ρ} {step:Int→Option (Int ⊕ (ρ ⊕ Unit))} (l:List α)
 (hend:step (l.length:Int)=some (.inr (.inr ())))
 (hst:∀(i:Nat) (x:α),l[i]? = some x→step (i:Int)=if ok x=true then some (.inl ((i+1:Nat):Int)) else some (.inr (.inl (bad i)))) :
 ∃r,loopS step 0=some r∧(if l.all ok=true then r=.inr () else ∃i,r=.inl (bad i)):=by
 have key:∀(v u:List α),l=u++v→∃r,loopS step (u.length:Int)=some r∧(if v.all ok=true then r=.inr () else ∃i,r=.inl (bad i)):=by
  intro v
  induction v with
  | nil =>
   intro u h
   rw[List.append_nil] at h
   subst h
   exact⟨.inr (),loopS_out hend,by simp⟩
  | cons x v ih =>
   intro u h
   have hs:=hst u.length x (by rw[h];simp)
   by_cases hx:ok x=true
   · rw[if_pos hx] at hs
     obtain⟨r,r1,r2⟩:=ih (u++[x]) (by rw[h];simp)
     refine⟨r,?_,?_⟩
     · rw[loopS_next hs]
       simpa using r1
     · simpa[hx] using r2
   · rw[if_neg hx] at hs
     refine⟨.inl (bad u.length),loopS_out hs,?_⟩
     rw[if_neg (by simp[hx])]
     exact⟨_,rfl⟩
 exact key l [] rfl
end Go.Abs

namespace Go.Abs
open Go
end Go.Abs

namespace Go.Abs
open Go
end Go.Abs

namespace Go.Abs
open Go
end Go.Abs

namespace Go.Abs
open Go
end Go.Abs

namespace Go.Abs
open Go
end Go.Abs
