/- Part of a proof. -/
import Derived.Test.YthlcfhkcbmikcaaGreatAbsD
set_option linter.unusedSimpArgs false
set_option linter.unusedVariables false
set_option linter.unusedSectionVars false
namespace Go.Abs
open Go
inductive Ty where
 | unit
 | int (k:IntKind)
 | bool
 | str
 | list (t:Ty)
 | cons (a b:Ty)
 | agg (a:Ty)
 deriving DecidableEq,Repr,Inhabited
@[reducible] def Ty.den:Ty→Type
 | .unit=>Unit
 | .int _=>Int
 | .bool=>Bool
 | .str=>List UInt8
 | .list t=>List t.den
 | .cons a b=>a.den×b.den
 | .agg a=>a.den
@[reducible] def Ty.deq:(T:Ty)→DecidableEq T.den
 | .unit=>inferInstanceAs (DecidableEq Unit)
 | .int _=>inferInstanceAs (DecidableEq Int)
 | .bool=>inferInstanceAs (DecidableEq Bool)
 | .str=>inferInstanceAs (DecidableEq (List UInt8))
 | .list t=>@instDecidableEqList _ t.deq
 | .cons a b=>@instDecidableEqProd _ _ a.deq b.deq
 | .agg a=>a.deq
def Ty.size:Ty→Nat
 | .unit=>0
 | .cons a b=>a.size+b.size
 | .agg a=>a.size
 | _=>1
def Ty.app:Ty→Ty→Ty
 | .cons a b,c=>.cons a (b.app c)
 | a,c=>.cons a c
def Ty.row:Ty→Ty
 | .agg a=>a
 | a=>a
def rowOf:List (Option Ty)→Option Ty
 | []=>none
 | [t]=>t.map Ty.row
 | t::r=>match t,rowOf r with
  | some a,some b=>some (a.row.app b)
  | _,_=>none
def tyOf (P:Program):Nat→TypeId→Option Ty
 | 0,_=>none
 | d+1,t=>match P.underlying t with
  | some (.int k)=>some (.int k)
  | some .bool=>some .bool
  | some .string=>some .str
  | some (.slice e)=>(tyOf P d e).map .list
  | some (.struct fs)=>(rowOf (fs.toList.map fun f=>tyOf P d f.type)).map .agg
  | some (.array n e)=>(rowOf (List.replicate n (tyOf P d e))).map .agg
  | _=>none
@[reducible] def HL:List Ty→Type
 | []=>Unit
 | [t]=>t.den
 | t::u::r=>t.den×HL (u::r)
inductive STok where
 | ro | clip
 | own (f e:Nat) (z tip:Bool)
 deriving DecidableEq,Repr,Inhabited
inductive SV where
 | int (k:IntKind) (n:Int)
 | bool (b:Bool)
 | str (s:List UInt8)
 | list (T:Ty) (t:STok) (l:List T.den)
 | nill
 | agg (cs:List SV)
 | tup (vs:List SV)
 | ptr (i off:Nat)
 | adr (i off:Nat)
 | elem (T:Ty) (t:STok) (m off:Nat) (x:T.den)
 | nilp
 | func (fn:FuncId) (first cap:List SV)
 | nilf
 | iface (t:TypeId) (v:SV)
 | nili
 | mapr (i:Nat)
 | nilm
 | yld
 | any
 deriving Inhabited
structure SRow where
 cur:Nat
 T:Ty
 ty:TypeId
 wr:Bool
 made:Bool
 deriving DecidableEq,Inhabited
inductive SBox where
 | cells (t:TypeId) (w:Bool) (cs:List SV)
 | mapo (K T:Ty) (w:Bool) (es:List (K.den×T.den))
 | gone
 deriving Inhabited
structure SY where
 path:List Nat
 pos:Nat
 ps:Array Tmp
 assign:Code
 body:Code
 s0:List SV
 deriving Inhabited
structure SS where
 boxes:List SBox
 rows:List SRow
 kills:List Nat
 y:Option SY:=none
 deriving Inhabited
def SV.flat:SV→Option (List SV)
 | .agg cs=>some cs
 | .any=>none
 | .tup _=>none
 | .yld=>none
 | v=>some [v]
mutual
def SV.noYld:SV→Bool
 | .yld=>false
 | .agg cs=>SV.noYlds cs
 | .tup cs=>SV.noYlds cs
 | .func _ a b=>SV.noYlds a&&SV.noYlds b
 | .iface _ v=>v.noYld
 | _=>true
def SV.noYlds:List SV→Bool
 | []=>true
 | v::vs=>v.noYld&&SV.noYlds vs
end
def SBox.noYld:SBox→Bool
 | .cells _ _ cs=>SV.noYlds cs
 | _=>true
def Ty.cells:(T:Ty)→T.den→List SV
 | .unit,_=>[]
 | .int k,n=>[.int k n]
 | .bool,b=>[.bool b]
 | .str,s=>[.str s]
 | .list t,l=>[.list t .ro l]
 | .cons a b,x=>a.cells x.1++b.cells x.2
 | .agg a,x=>a.cells x
def Ty.sv:(T:Ty)→T.den→SV
 | .int k,n=>.int k n
 | .bool,b=>.bool b
 | .str,s=>.str s
 | .list t,l=>.list t .ro l
 | .agg a,x=>.agg (a.cells x)
 | .unit,_=>.any
 | .cons _ _,_=>.any
def castL {t u:Ty} (h:t=u) (l:List t.den):List u.den:=h▸l
def castD {t u:Ty} (h:t=u) (x:t.den):u.den:=h▸x
def Ty.isAgg:Ty→Bool
 | .agg _=>true
 | _=>false
def Ty.dec:(T:Ty)→List SV→Option (T.den×List SV)
 | .unit=>fun r=>some ((),r)
 | .int k=>fun
  | .int k' n::r=>if k'=k then some (n,r) else none
  | _=>none
 | .bool=>fun
  | .bool b::r=>some (b,r)
  | _=>none
 | .str=>fun
  | .str s::r=>some (s,r)
  | _=>none
 | .list t=>fun
  | .nill::r=>some ([],r)
  | .list t' _ l::r=>if h:t'=t then some (castL h l,r) else none
  | _=>none
 | .cons a b=>fun l=>if (a.isAgg || b.isAgg)=true then none else match a.dec l with
  | some (x,r)=>match b.dec r with
   | some (y,r')=>some ((x,y),r')
   | none=>none
  | none=>none
 | .agg a=>fun
  | .agg cs::r=>if a.isAgg=true then none else match a.dec cs with
   | some (x,[])=>some (x,r)
   | _=>none
  | _=>none
def decV (T:Ty) (v:SV):Option T.den :=
 match T.dec [v] with
 | some (x,[])=>some x
 | _=>none
def decE:(T:Ty)→List SV→Option T.den
 | .agg a,cs=>if a.isAgg=true then none else match a.dec cs with
  | some (x,[])=>some x
  | _=>none
 | T,cs=>match T.dec cs with
  | some (x,[])=>some x
  | _=>none
def decL:(Ts:List Ty)→List SV→Option (HL Ts)
 | [],[]=>some ()
 | [T],[v]=>decV T v
 | T::U::r,v::vs=>match decV T v,decL (U::r) vs with
  | some x,some y=>some (x,y)
  | _,_=>none
 | _,_=>none
def svL:(Ts:List Ty)→HL Ts→List SV
 | [],_=>[]
 | [T],x=>[T.sv x]
 | T::U::r,x=>T.sv x.1::svL (U::r) x.2
def oneV:List SV→SV
 | [v]=>v
 | vs=>.tup vs
mutual
def SV.toks:SV→List Nat
 | .list _ (.own f _ _ _) _=>[f]
 | .elem _ (.own f _ _ _) _ _ _=>[f]
 | .agg cs=>SV.toksL cs
 | .tup cs=>SV.toksL cs
 | .func _ a b=>SV.toksL a++SV.toksL b
 | .iface _ v=>v.toks
 | _=>[]
def SV.toksL:List SV→List Nat
 | []=>[]
 | v::vs=>v.toks++SV.toksL vs
end
def setWr (rows:List SRow) (f:Nat):List SRow :=
 match rows[f]? with
 | some r=>if r.wr then rows.set f { r with wr:=false } else rows
 | none=>rows
def SS.retire (ss:SS):List Nat→SS
 | []=>ss
 | l=>{ ss with rows:=l.foldl setWr ss.rows }
mutual
def SV.kill (ks:List Nat):SV→SV
 | .list T (.own f e z t) l=>if ks.contains f then .any else .list T (.own f e z t) l
 | .elem T (.own f e z t) m off x=>if ks.contains f then .any else .elem T (.own f e z t) m off x
 | .agg cs=>.agg (SV.killL ks cs)
 | .tup cs=>.tup (SV.killL ks cs)
 | .func fn a b=>.func fn (SV.killL ks a) (SV.killL ks b)
 | .iface t v=>.iface t (v.kill ks)
 | v=>v
def SV.killL (ks:List Nat):List SV→List SV
 | []=>[]
 | v::vs=>v.kill ks::SV.killL ks vs
end
def skillAll (ks:List Nat) (s:List SV):List SV :=
 match ks with
 | []=>s
 | ks=>SV.killL ks s
mutual
def SV.upd (f e m:Nat) (T:Ty) (y:T.den):SV→SV
 | .list T' (.own f' e' z t) l =>
  if f'=f then
   if h:T=T' then if e'=e∧z=true then .list T' (.own f' e' z t) (l.set m (castD h y)) else .any else .any
  else .list T' (.own f' e' z t) l
 | .elem T' (.own f' e' z t) m' off x =>
  if f'=f then
   if h:T=T' then if e'=e∧z=true then .elem T' (.own f' e' z t) m' off (if m'=m then castD h y else x) else .any else .any
  else .elem T' (.own f' e' z t) m' off x
 | .agg cs=>.agg (SV.updL f e m T y cs)
 | .tup cs=>.tup (SV.updL f e m T y cs)
 | .func fn a b=>.func fn (SV.updL f e m T y a) (SV.updL f e m T y b)
 | .iface t v=>.iface t (v.upd f e m T y)
 | v=>v
def SV.updL (f e m:Nat) (T:Ty) (y:T.den):List SV→List SV
 | []=>[]
 | v::vs=>v.upd f e m T y::SV.updL f e m T y vs
end
def supdBox (f e m:Nat) (T:Ty) (y:T.den):SBox→SBox
 | .cells t w cs=>.cells t w (SV.updL f e m T y cs)
 | b=>b
mutual
def SV.clr (f e k:Nat) (T:Ty) (z:T.den):SV→SV
 | .list T' (.own f' e' b tip) l =>
  if f'=f then
   if h:T=T' then if e'=e∧b=true∧tip=true then .list T' (.own f' e' b tip) (l.take (l.length-k)++List.replicate k (castD h z)) else .any else .any
  else .list T' (.own f' e' b tip) l
 | .elem T' (.own f' e' b tip) m' off x=>if f'=f then .any else .elem T' (.own f' e' b tip) m' off x
 | .agg cs=>.agg (SV.clrL f e k T z cs)
 | .tup cs=>.tup (SV.clrL f e k T z cs)
 | .func fn a b=>.func fn (SV.clrL f e k T z a) (SV.clrL f e k T z b)
 | .iface t v=>.iface t (v.clr f e k T z)
 | v=>v
def SV.clrL (f e k:Nat) (T:Ty) (z:T.den):List SV→List SV
 | []=>[]
 | v::vs=>v.clr f e k T z::SV.clrL f e k T z vs
end
def sclrBox (f e k:Nat) (T:Ty) (z:T.den):SBox→SBox
 | .cells t w cs=>.cells t w (SV.clrL f e k T z cs)
 | b=>b
def skillBox (ks:List Nat):SBox→SBox
 | .cells t w cs=>.cells t w (SV.killL ks cs)
 | b=>b
def spart (P:Program) (t:TypeId) (cs:List SV) (off:Nat):Option SV :=
 match isAggB P t,sizeB P t with
 | some true,some n=>if off+n≤cs.length then some (.agg ((cs.drop off).take n)) else none
 | some false,_=>cs[off]?
 | _,_=>none
def ssplice (cs:List SV) (off:Nat) (new:List SV):List SV:=cs.take off++new++cs.drop (off+new.length)
def sofVal:Nat→Value→SV
 | 0,_=>.any
 | n+1,v=>match v with
  | .int k m=>.int k m
  | .bool b=>.bool b
  | .string s=>.str s.data.toList
  | .slice none 0 0=>.nill
  | .pointer none=>.nilp
  | .agg cs=>if cs.toList.all (·.oneCell') then .agg (cs.toList.map (sofVal n)) else .any
  | .nilFunc=>.nilf
  | .nilIface=>.nili
  | .map none=>.nilm
  | _=>.any
def sev (s:List SV):Operand→SV
 | .tmp t=>s.getD t .any
 | .const v=>sofVal 3 v
 | .func f=>.func f [] []
 | .global _=>.any
def szero (P:Program) (t:TypeId):Option SV:=((P.info? t).bind (·.zero)).map (sofVal 3)
def sload (P:Program) (ss:SS) (t:TypeId):SV→Option SV
 | .ptr i off=>match ss.boxes[i]? with
  | some (.cells _ _ cs)=>spart P t cs off
  | _=>none
 | .elem T _ _ off x=>spart P t (T.cells x) off
 | _=>none
section
variable {ρ:Type}
def sput (s:List SV) (dst:Option Tmp) (v:SV):List SV :=
 match dst with
 | some d=>s.set d v
 | none=>s
def sstore (P:Program) (s:List SV) (ss:SS) (t:TypeId) (p v:SV) (K:SV→List SV→SS→Option ρ):Option ρ :=
 match v.flat with
 | some vc =>
  if some vc.length=sizeB P t then
   match p with
   | .ptr i off=>match ss.boxes[i]? with
    | some (.cells t0 true cs)=>if off+vc.length≤cs.length then K (.tup []) s { ss with boxes:=ss.boxes.set i (.cells t0 true (ssplice cs off vc)) } else none
    | _=>none
   | .elem T (.own f e true tip) m off x =>
    match ss.rows[f]? with
    | some r =>
     let ss:=ss.retire (SV.toksL vc)
     if r.cur=e∧(ss.rows[f]?.map (·.wr))=some true∧r.T=T∧off+vc.length≤T.size then
      match decE T (ssplice (T.cells x) off vc) with
      | some y=>K (.tup []) (SV.updL f e m T y s) { ss with boxes:=ss.boxes.map (supdBox f e m T y),kills:=f::ss.kills }
      | none=>none
     else none
    | none=>none
   | _=>none
  else none
 | none=>none
def seqv (P:Program):Nat→TypeId→SV→SV→Option Bool
 | 0,_,_,_=>none
 | d+1,t,x,y =>
  match P.underlying t,x,y with
  | some .bool,.bool a,.bool b=>some (a==b)
  | some (.int _),.int k a,.int k' b=>if k=k' then some (a==b) else none
  | some .string,.str a,.str b=>some (a==b)
  | some (.pointer _),.nilp,.nilp=>some true
  | some (.pointer _),.nilp,.ptr _ _=>some false
  | some (.pointer _),.ptr _ _,.nilp=>some false
  | some (.slice _),.nill,.nill=>some true
  | some (.slice _),.list _ .clip _,.nill=>some false
  | some (.func _ _ _),.nilf,.nilf=>some true
  | some (.func _ _ _),.func ..,.nilf=>some false
  | some (.map _ _),.nilm,.nilm=>some true
  | some (.map _ _),.mapr _,.nilm=>some false
  | some (.interface _),.nili,.nili=>some true
  | some (.interface _),.nili,.iface _ _=>some false
  | some (.interface _),.iface _ _,.nili=>some false
  | some (.struct fields),.agg xs,.agg ys =>
   if P.stoodInHeld t then none else
   fields.toList.foldr (fun f acc =>
    if f.name = "_" then acc else
    match spart P f.type xs f.offset,spart P f.type ys f.offset with
    | some a,some b=>(match seqv P d f.type a b,acc with | some p,some q=>some (p&&q) | _,_=>none)
    | _,_=>none) (some true)
  | some (.array len elem),.agg xs,.agg ys =>
   match sizeB P elem with
   | some n=>(List.range len).foldr (fun i acc =>
    match spart P elem xs (i*n),spart P elem ys (i*n) with
    | some a,some b=>(match seqv P d elem a b,acc with | some p,some q=>some (p&&q) | _,_=>none)
    | _,_=>none) (some true)
   | none=>none
  | _,_,_=>none
def seqOk (P:Program) (t:TypeId) (x y:Operand) (a b:SV):Bool :=
 match a,b with
 | .nili,.nili=>(match x with | .const _=>true | _=>false) || (match y with | .const _=>true | _=>false)
 | .agg _,.agg _=>!(P.eqGuardType P.depth t)
 | _,_=>true
noncomputable def selB (c:Bool) (a b:Option ρ):Option ρ:=open Classical in if c=true then (if a=b then a else none) else b
noncomputable def sbin (P:Program) (op:BinOp) (t:TypeId) (xo yo:Operand) (x y:SV) (K:SV→Option ρ):Option ρ :=
 match op,x,y with
 | .shl,.int k a,.int _ b=>natOf b fun m=>K (.int k (k.wrap (a*2 ^ (min m k.bits))))
 | .shr,.int k a,.int _ b=>natOf b fun m=>K (.int k (a.fdiv (2 ^ (min m k.bits))))
 | op,.int k a,.int k' b =>
  if k=k' then
   match op with
   | .add=>K (.int k (k.wrap (a+b)))
   | .sub=>K (.int k (k.wrap (a-b)))
   | .mul=>K (.int k (k.wrap (a*b)))
   | .quo=>if b=0 then none else K (.int k (k.wrap (a.tdiv b)))
   | .rem=>if b=0 then none else K (.int k (a.tmod b))
   | .and=>K (.int k (bits .and k a b))
   | .or=>K (.int k (bits .or k a b))
   | .xor=>K (.int k (bits .xor k a b))
   | .andNot=>K (.int k (bits .andNot k a b))
   | .eql=>K (.bool (a==b))
   | .neq=>K (.bool (a != b))
   | .lss=>K (.bool (decide (a<b)))
   | .leq=>K (.bool (decide (a≤b)))
   | .gtr=>K (.bool (decide (b<a)))
   | .geq=>K (.bool (decide (b≤a)))
   | _=>none
  else none
 | op,.str a,.str b =>
  match op with
  | .add=>grd (a.length+b.length≤maxStr) (K (.str (a++b)))
  | .eql=>K (.bool (a==b))
  | .neq=>K (.bool !(a==b))
  | .lss=>K (.bool (bytesLessB a b))
  | .leq=>K (.bool (bytesLessB a b || a==b))
  | .gtr=>K (.bool !(bytesLessB a b || a==b))
  | .geq=>K (.bool !(bytesLessB a b))
  | _=>none
 | .eql,.list _ .ro l,.nill=>(match P.underlying t with | some (.slice _)=>selB l.isEmpty (K (.bool true)) (K (.bool false)) | _=>none)
 | .neq,.list _ .ro l,.nill=>(match P.underlying t with | some (.slice _)=>selB l.isEmpty (K (.bool false)) (K (.bool true)) | _=>none)
 | .eql,.list _ (.own ..) l,.nill=>(match P.underlying t with | some (.slice _)=>selB l.isEmpty (K (.bool true)) (K (.bool false)) | _=>none)
 | .neq,.list _ (.own ..) l,.nill=>(match P.underlying t with | some (.slice _)=>selB l.isEmpty (K (.bool false)) (K (.bool true)) | _=>none)
 | .eql,x,y=>if seqOk P t xo yo x y then (match seqv P 20 t x y with | some b=>K (.bool b) | none=>none) else none
 | .neq,x,y=>if seqOk P t xo yo x y then (match seqv P 20 t x y with | some b=>K (.bool !b) | none=>none) else none
 | _,_,_=>none
def sbnd (v:Option SV) (hi:Nat) (K:Option Nat→Option ρ):Option ρ :=
 match v with
 | none=>K none
 | some (.int _ n)=>natOf n fun m=>grd (m≤hi) (K (some m))
 | some _=>none
def takeO {α:Type} (h:Option Nat) (l:List α):List α:=match h with | some h=>l.take h | none=>l
def dropO {α:Type} (h:Option Nat) (l:List α):List α:=match h with | some h=>l.drop h | none=>l
def scutTok (t:STok) (hi lo:Bool):STok :=
 match t with
 | .own f e z tip=>.own f e (z&&lo) (tip&&hi)
 | .clip=>if hi&&lo then .clip else .ro
 | .ro=>.ro
def sslice (P:Program) (t:TypeId) (x:SV) (lo hi:Option SV) (K:SV→Option ρ):Option ρ :=
 match P.underlying t,x with
 | some .string,.str s=>sbnd hi s.length fun h=>sbnd lo (h.getD s.length) fun l=>K (.str (dropO l (takeO h s)))
 | some (.slice elem),.list T tk xs =>
  if sizeB P elem=some T.size then
   sbnd hi xs.length fun h=>sbnd lo (h.getD xs.length) fun l=>K (.list T (scutTok tk h.isNone l.isNone) (dropO l (takeO h xs)))
  else none
 | some (.slice elem),.nill =>
  if (sizeB P elem).isSome then sbnd hi 0 fun h=>sbnd lo (h.getD 0) fun _=>K .nill else none
 | _,_=>none
def selI (n:Int) (K:Nat→Option ρ):Nat→Nat→Option ρ
 | 0,_=>none
 | k+1,i=>if (n==(i:Int))=true then K i else selI n K k (i+1)
def sindex (P:Program) (t:TypeId) (x:SV) (n:Int) (K:SV→Option ρ):Option ρ :=
 match P.underlying t,x with
 | some .string,.str s=>natOf n fun m=>bnd (s[m]?) fun b=>K (.int .u8 b.toNat)
 | some (.array len elem),.agg cs =>
  match sizeB P elem with
  | some sz=>selI n (fun i=>match spart P elem cs (i*sz) with
   | some v=>K v
   | none=>none) len 0
  | none=>none
 | _,_=>none
def sindexAddr (P:Program) (t:TypeId) (x:SV) (n:Int) (K:SV→Option ρ):Option ρ :=
 match P.underlying t,x with
 | some (.slice elem),.list T tk xs=>if sizeB P elem=some T.size then natOf n fun m=>bnd (xs[m]?) fun e=>K (.elem T tk m 0 e) else none
 | some (.array len elem),.ptr i off =>
  if 0≤n∧n<len then (match sizeB P elem with | some sz=>K (.ptr i (off+n.toNat*sz)) | none=>none) else none
 | some (.array len elem),.elem T tk m off e =>
  if 0≤n∧n<len then (match sizeB P elem with | some sz=>K (.elem T tk m (off+n.toNat*sz) e) | none=>none) else none
 | _,_=>none
def sfieldAddr (P:Program) (t:TypeId) (x:SV) (f:Nat):Option SV :=
 match P.underlying t with
 | some (.struct fields) =>
  match fields[f]? with
  | some fl =>
   match sizeB P fl.type with
   | some (_+1)=>match x with
    | .ptr i off=>some (.ptr i (off+fl.offset))
    | .elem T tk m off e=>some (.elem T tk m (off+fl.offset) e)
    | _=>none
   | _=>none
  | none=>none
 | _=>none
def sfield (P:Program) (t:TypeId) (x:SV) (f:Nat):Option SV :=
 match P.underlying t,x with
 | some (.struct fields),.agg cs=>match fields[f]? with
  | some fl=>spart P fl.type cs fl.offset
  | none=>none
 | _,_=>none
def sfill (place:Nat→Option (Nat×Nat)):List SV→List (Nat×SV)→Option (List SV)
 | cs,[]=>some cs
 | cs,(i,v)::rest =>
  match place i with
  | none=>none
  | some (off,size) =>
   match v.flat with
   | some vc=>if vc.length=size∧off+size≤cs.length then sfill place (ssplice cs off vc) rest else none
   | none=>none
def sbuild (P:Program) (t:TypeId) (parts:List (Nat×SV)):Option SV :=
 match szero P t,P.underlying t with
 | some (.agg z),some (.struct fields) =>
  if fields.toList.all fun f=>(sizeB P f.type).isSome then
   (sfill (fun i=>(fields[i]?).bind fun f=>(sizeB P f.type).map fun n=>(f.offset,n)) z parts).map .agg
  else none
 | some (.agg z),some (.array _ elem) =>
  match sizeB P elem with
  | some n=>(sfill (fun i=>some (i*n,n)) z parts).map .agg
  | none=>none
 | _,_=>none
def decEs (T:Ty):List SV→Option (List T.den)
 | []=>some []
 | v::vs=>match decV T v,decEs T vs with
  | some x,some r=>some (x::r)
  | _,_=>none
def sbuildSlice (P:Program) (t:TypeId) (len:Nat) (parts:List (Nat×SV)) (ss:SS) (K:SV→SS→Option ρ):Option ρ :=
 match P.underlying t with
 | some (.slice elem) =>
  match sizeB P elem,tyOf P 12 elem with
  | some n,some T =>
   if n≠0∧n=T.size∧len*n≤2 ^ 24∧(zeroB P elem).isSome=true∧parts.map (·.1)=List.range len then
    match decEs T (parts.map (·.2)) with
    | some l=>K (.list T .clip l) (ss.retire (SV.toksL (parts.map (·.2))))
    | none=>none
   else none
  | _,_=>none
 | _=>none
def nbT:Ty→Bool
 | .int .u8=>false
 | _=>true
def SS.newRow (ss:SS) (T:Ty) (ty:TypeId) (wr:Bool):SS:={ ss with rows:=ss.rows++[⟨0,T,ty,wr,wr⟩] }
def sappend (P:Program) (elem:TypeId) (T:Ty) (b:Nat) (x:SV) (ys:List T.den) (s:List SV) (ss:SS) (K:SV→List SV→SS→Option ρ):Option ρ :=
 match x with
 | .nill=>grd (ys.length*b≤roomLim) (K (.list T (.own ss.rows.length 0 true true) ys) s (ss.newRow T elem (nbT T)))
 | .list T' tk l =>
  if h:T'=T then
   grd ((l.length+ys.length)*b≤roomLim) <|
   match tk with
   | .clip=>if (l.isEmpty&&nbT T)=true then K (.list T (.own ss.rows.length 0 true true) ys) s (ss.newRow T elem (nbT T))
    else grd (ys.isEmpty=false) (K (.list T (.own ss.rows.length 0 true true) (castL h l++ys)) s (ss.newRow T elem (nbT T)))
   | .own f e z true=>match ss.rows[f]? with
    | some r=>if r.cur=e∧r.ty=elem∧r.T=T then K (.list T (.own f (e+1) z true) (castL h l++ys)) s { ss with rows:=ss.rows.set f { r with cur:=e+1 } } else none
    | none=>none
   | .own f e z false=>match ss.rows[f]? with
    | some r=>if r.cur=e∧r.ty=elem∧r.T=T∧r.wr=true then K (.list T (.own f (e+1) z true) (castL h l++ys)) (SV.killL [f] s) { ss with boxes:=ss.boxes.map (skillBox [f]),rows:=ss.rows.set f { r with cur:=e+1 },kills:=f::ss.kills } else none
    | none=>none
   | _=>none
  else none
 | _=>none
def newsT (T:Ty) (y:SV):Option (List T.den) :=
 match y with
 | .nill=>some []
 | .list T' _ l=>if h:T'=T then some (castL h l) else none
 | .str s=>if h:Ty.int .u8=T then some (castL h (s.map fun b=>(b.toNat:Int))) else none
 | _=>none
def sminStep (k:IntKind) (acc:Option SV) (y:SV):Option SV :=
 match acc,y with
 | some (.int k' x),.int k'' y=>if k'=k∧k''=k then some (.int k (if y<x then y else x)) else none
 | _,_=>none
def smaxStep (k:IntKind) (acc:Option SV) (y:SV):Option SV :=
 match acc,y with
 | some (.int k' x),.int k'' y=>if k'=k∧k''=k then some (.int k (if y > x then y else x)) else none
 | _,_=>none
def sbuiltin (P:Program) (b:Builtin) (ts:Array TypeId) (args:List SV) (s:List SV) (ss:SS) (K:SV→List SV→SS→Option ρ):Option ρ :=
 match b,args with
 | .len,[.str x]=>match ts[0]? with
  | some t=>(match P.underlying t with | some .string=>K (.int .i64 x.length) s ss | _=>none)
  | none=>none
 | .len,[.list _ _ xs]=>match ts[0]? with
  | some t=>(match P.underlying t with | some (.slice _)=>K (.int .i64 xs.length) s ss | _=>none)
  | none=>none
 | .len,[.nill]=>match ts[0]? with
  | some t=>(match P.underlying t with | some (.slice _)=>K (.int .i64 0) s ss | _=>none)
  | none=>none
 | .append,[x,y] =>
  if notIntB P ts then
   match ts[0]? with
   | some t=>match P.underlying t with
    | some (.slice elem) =>
     match sizeB P elem,bytesB P elem,tyOf P 12 elem with
     | some (n+1),some (b+1),some T =>
      if T.size=n+1∧((zeroB P elem).bind V.flat).map List.length=some (n+1) then
       match newsT T y with
       | some ys=>sappend P elem T (b+1) x ys s ss K
       | none=>none
      else none
     | _,_,_=>none
    | _=>none
   | none=>none
  else
   match ts[0]? with
   | some t=>match P.underlying t with
    | some (.slice elem) =>
     match sizeB P elem,bytesB P elem,tyOf P 12 elem,szero P elem with
     | some (n+1),some (b+1),some T,some z =>
      if T.size=n+1∧((zeroB P elem).bind V.flat).map List.length=some (n+1) then
       match (ts[1]?).bind P.underlying,y with
       | some (.int _),.int .i64 m =>
        match decV T z with
        | some zt=>grd (0≤m∧m≤9223372036854775807∧m*((b+1:Nat):Int)≤2 ^ 48) (sappend P elem T (b+1) x (List.replicate m.toNat zt) s ss K)
        | none=>none
       | _,_=>none
      else none
     | _,_,_,_=>none
    | _=>none
   | none=>none
 | .cap,[.nill]=>match ts[0]? with
  | some t=>(match P.underlying t with | some (.slice _)=>K (.int .i64 0) s ss | _=>none)
  | none=>none
 | .cap,[.list _ .clip xs]=>match ts[0]? with
  | some t=>(match P.underlying t with | some (.slice _)=>K (.int .i64 xs.length) s ss | _=>none)
  | none=>none
 | .clear,[.list T (.own f e b true) l]=>match ts[0]? with
  | some t=>match P.underlying t with
   | some (.slice elem)=>match sizeB P elem,(szero P elem).bind (decV T),ss.rows[f]? with
    | some n,some z,some r =>
     if n=T.size∧r.cur=e∧r.wr=true∧r.T=T then K (.tup []) (SV.clrL f e l.length T z s) { ss with boxes:=ss.boxes.map (sclrBox f e l.length T z),kills:=f::ss.kills } else none
    | _,_,_=>none
   | _=>none
  | none=>none
 | .min,.int k a::rest=>match rest.foldl (sminStep k) (some (.int k a)) with
  | some v=>K v s ss
  | none=>none
 | .max,.int k a::rest=>match rest.foldl (smaxStep k) (some (.int k a)) with
  | some v=>K v s ss
  | none=>none
 | _,_=>none
def sconv (P:Program) (src dst:TypeId) (x:SV) (ss:SS) (K:SV→SS→Option ρ):Option ρ :=
 match P.underlying src,P.underlying dst,x with
 | some (.int _),some (.int k),.int _ n=>K (.int k (k.wrap n)) ss
 | some .string,some .string,.str s=>K (.str s) ss
 | some .string,some (.slice e),.str s =>
  match P.underlying e with
  | some (.int .u8)=>K (.list (.int .u8) (.own ss.rows.length 0 true true) (s.map fun b=>(b.toNat:Int))) (ss.newRow (.int .u8) e true)
  | _=>none
 | some (.slice e),some .string,.list (.int .u8) _ xs =>
  match P.underlying e with
  | some (.int .u8)=>K (.str (xs.map fun n=>UInt8.ofNat n.toNat)) ss
  | _=>none
 | some (.slice e),some .string,.nill =>
  match P.underlying e with
  | some (.int .u8)=>K (.str []) ss
  | _=>none
 | _,_,_=>none
def skey (P:Program) (kt:TypeId) (K:Ty):Bool :=
 match K with
 | .int k=>(match P.underlying kt with | some (.int k')=>k'==k | _=>false)
 | .str=>(match P.underlying kt with | some .string=>true | _=>false)
 | _=>false
def Ty.beq:(K:Ty)→K.den→K.den→Bool
 | .int _,a,b=>a==b
 | .str,a,b=>a==b
 | _,_,_=>false
def sfind (K T:Ty) (k:K.den):List (K.den×T.den)→Option T.den
 | []=>none
 | p::es=>if K.beq k p.1 then some p.2 else sfind K T k es
def sputM (K T:Ty) (k:K.den) (v:T.den):List (K.den×T.den)→List (K.den×T.den)
 | []=>[(k,v)]
 | p::es=>if K.beq k p.1 then (k,v)::es else p::sputM K T k v es
inductive SCallee where
 | none
 | one (g:FuncId) (args:List SV)
def kOpt (K:SV→List SV→SS→Option ρ) (s:List SV) (ss:SS) (v:Option SV):Option ρ:=match v with
 | some v=>K v s ss
 | none=>none
noncomputable def sop (P:Program) (s:List SV) (o:Oper) (ss:SS) (K:SV→List SV→SS→Option ρ) (call:FuncId→List SV→SS→(SV→SS→Option ρ)→Option ρ):Option ρ :=
 match o.op with
 | .move x | .assign x=>K (sev s x) s ss
 | .pick c a b=>match sev s c with
  | .bool q=>if q=true then K (sev s a) s ss else K (sev s b) s ss
  | _=>none
 | .alloc t=>match (szero P t).bind SV.flat with
  | some cs=>K (.ptr ss.boxes.length 0) s { ss with boxes:=ss.boxes++[.cells t true cs] }
  | none=>none
 | .box t x=>match (sev s x).flat with
  | some cs=>K (.ptr ss.boxes.length 0) s { ss with boxes:=ss.boxes++[.cells t true cs] }
  | none=>none
 | .build t parts=>kOpt K s ss (sbuild P t (parts.toList.map fun p=>(p.1,sev s p.2)))
 | .buildSlice t n parts=>sbuildSlice P t n (parts.toList.map fun p=>(p.1,sev s p.2)) ss fun v ss=>K v s ss
 | .load t a=>kOpt K s ss (sload P ss t (sev s a))
 | .store t a x=>sstore P s ss t (sev s a) (sev s x) K
 | .nilCheck x=>match sev s x with
  | .ptr i off=>K (.ptr i off) s ss
  | .elem T t m off e=>K (.elem T t m off e) s ss
  | .func f a b=>K (.func f a b) s ss
  | _=>none
 | .binOp op t x y _=>sbin P op t x y (sev s x) (sev s y) (fun v=>K v s ss)
 | .unOp op _ x=>match op,sev s x with
  | .not,.bool b=>K (.bool !b) s ss
  | .neg,.int k n=>K (.int k (k.wrap (0-n))) s ss
  | _,_=>none
 | .convert a b x=>sconv P a b (sev s x) ss fun v ss=>K v s ss
 | .makeInterface t x=>match P.underlying t with
  | some (.interface _)=>none
  | some _=>K (.iface t (sev s x)) s ss
  | none=>none
 | .makeFunc (.func fn) first cap=>K (.func fn (first.toList.map (sev s)) (cap.toList.map (sev s))) s ss
 | .makeSlice t l c=>match sev s l,sev s c,P.underlying t with
  | .int .i64 n,.int .i64 m,some (.slice elem) =>
   match bytesB P elem,sizeB P elem,szero P elem,tyOf P 12 elem with
   | some by_,some (q+1),some z,some T =>
    if T.size=q+1∧((zeroB P elem).bind V.flat).map List.length=some (q+1) then
     match decV T z with
     | some zt=>grd (0≤n∧n≤m∧m≤9223372036854775807∧by_*m≤2 ^ 48) (K (.list T (.own ss.rows.length 0 true true) (List.replicate n.toNat zt)) s (ss.newRow T elem true))
     | none=>none
    else none
   | _,_,_,_=>none
  | _,_,_=>none
 | .slice t x lo hi mx=>match mx with
  | none=>sslice P t (sev s x) (lo.map (sev s)) (hi.map (sev s)) (fun v=>K v s ss)
  | some _=>none
 | .fieldAddr t x f=>kOpt K s ss (sfieldAddr P t (sev s x) f)
 | .field t x f=>kOpt K s ss (sfield P t (sev s x) f)
 | .indexAddr t x i=>match sev s i with
  | .int _ n=>sindexAddr P t (sev s x) n (fun v=>K v s ss)
  | _=>none
 | .index t x i=>match sev s i with
  | .int _ n=>sindex P t (sev s x) n (fun v=>K v s ss)
  | _=>none
 | .typeAssert x _ t ok=>match sev s x,P.underlying t,ok with
  | _,none,_=>none
  | _,some (.interface _),_=>none
  | .nili,_,true=>kOpt K s ss ((szero P t).map fun z=>.tup [z,.bool false])
  | .iface t' v,_,true=>if t'=t then K (.tup [v,.bool true]) s ss else kOpt K s ss ((szero P t).map fun z=>.tup [z,.bool false])
  | _,_,_=>none
 | .extract x i=>match sev s x with
  | .tup vs=>kOpt K s ss vs[i]?
  | _=>none
 | .makeMap t none=>match P.underlying t with
  | some (.map kt et)=>match tyOf P 12 kt,tyOf P 12 et with
   | some Kt,some Et=>K (.mapr ss.boxes.length) s { ss with boxes:=ss.boxes++[.mapo Kt Et true []] }
   | _,_=>none
  | _=>none
 | .lookup t m k ok=>match P.underlying t with
  | some (.map kt et)=>match sev s m with
   | .mapr i=>match ss.boxes[i]? with
    | some (.mapo Kt Et _ es)=>match skey P kt Kt,decV Kt (sev s k),(szero P et).bind (decV Et) with
     | true,some kx,some z=>let v:=(sfind Kt Et kx es).getD z
      if ok then K (.tup [Et.sv v,.bool (sfind Kt Et kx es).isSome]) s ss else K (Et.sv v) s ss
     | _,_,_=>none
    | _=>none
   | _=>none
  | _=>none
 | .mapUpdate t m k x | .insert t m k x=>match P.underlying t with
  | some (.map kt et)=>match sev s m with
   | .mapr i=>match ss.boxes[i]? with
    | some (.mapo Kt Et true es)=>match skey P kt Kt,decV Kt (sev s k),decV Et (sev s x) with
     | true,some kx,some vx=>K (.tup []) s { (ss.retire (sev s x).toks) with boxes:=ss.boxes.set i (.mapo Kt Et true (sputM Kt Et kx vx es)) }
     | _,_,_=>none
    | _=>none
   | _=>none
  | _=>none
 | .call c=>match c.callee with
  | .builtin b=>sbuiltin P b c.argTypes (c.args.toList.map (sev s)) s ss K
  | .value f=>match sev s f with
   | .func g first cap=>if callableB P g then call g (first++c.args.toList.map (sev s)++cap) { ss with kills:=[],y:=none } (fun v ss'=>K v (skillAll ss'.kills s) { ss' with kills:=ss'.kills++ss.kills,y:=ss.y }) else none
   | .yld=>call P.funcs.size (c.args.toList.map (sev s)) ss (fun v ss'=>K v (skillAll ss'.kills s) { ss' with kills:=ss'.kills++ss.kills,y:=ss.y })
   | _=>none
  | .invoke ..=>none
 | _=>none
noncomputable def sops (P:Program) (call:Nat→FuncId→List SV→SS→(SV→SS→Option ρ)→Option ρ) (d:Bool) (all:Array Oper):Nat→List Oper→List SV→SS→(List SV→SS→Option ρ)→Option ρ
 | _,[],s,ss,K=>K s ss
 | i,o::l,s,ss,K =>
  let go (s:List SV):Option ρ:=sop P s o ss (fun v s' ss'=>if d&&ss'.kills.length != ss.kills.length&&!lastB all o then none else sops P call d all (i+1) l (sput s' o.dst v) ss' K) (call i)
  match o.guard with
  | none=>go s
  | some (j,want)=>match (all[j]?).bind (·.dst) with
   | some q=>match s[q]? with
    | some (.bool b)=>if b=want then go (s.set q (.bool want)) else sops P call d all (i+1) l (sput (s.set q (.bool !want)) o.dst (.tup [])) ss K
    | some (.tup [])=>sops P call d all (i+1) l (sput s o.dst (.tup [])) ss K
    | _=>none
   | none=>none
end
def bndW {α β:Type} (w:List Nat) (o:Option α) (k:α→Option β):Option β:=bnd o k
def stop {ρ:Type} (w:List Nat) (s:List SV) (ss:SS):Option ρ:=none
def ecode:AExit→Nat
 | .normal=>0
 | .ret=>1
 | .exit i=>i+2
def SS.leave (ss ss':SS):SS:={ ss' with kills:=ss'.kills.filter fun f=>decide (f<ss.rows.length) || ss.kills.contains f }
abbrev Dyn:=(T:Ty)×T.den
inductive SSh where
 | any
 | ty (T:Ty)
 | keep (T:Ty)
 | own (T:Ty) (f:Nat) (z:Bool)
 | nill
 | ptr (i off:Nat)
 | adr (i off:Nat)
 | mapr (i:Nat)
 | nilp | nilm | nilf | nili | yld
 | int (k:IntKind) (n:Int)
 | bool (b:Bool)
 | func (fn:FuncId) (first cap:SSh)
 | agg (r:SSh)
 | tup (r:SSh)
 | iface (t:TypeId) (r:SSh)
 | nil
 | cons (a b:SSh)
 deriving DecidableEq,Inhabited,Repr
inductive BSh where
 | cells (t:TypeId) (w:Bool) (r:SSh)
 | mapo (K T:Ty) (w:Bool)
 | gone
 deriving DecidableEq,Inhabited
structure RSh where
 row:SRow
 mod:Bool
 deriving DecidableEq,Inhabited
structure Sh where
 slots:SSh
 boxes:List BSh
 rows:List RSh
 kills:List Nat
 deriving DecidableEq,Inhabited
structure Ann where
 head:Option Sh
 outs:List (AExit×Sh)
 deriving Inhabited
structure Ex where
 pay:List Dyn:=[]
 keep:List Dyn:=[]
 born:List Nat:=[]
 ro:List Nat:=[]
 owns:List Nat:=[]
def Ex.app (a b:Ex):Ex:=⟨a.pay++b.pay,a.keep++b.keep,a.born++b.born,a.ro++b.ro,a.owns++b.owns⟩
def Ex.join (a b:Option Ex):Option Ex:=match a,b with | some a,some b=>some (a.app b) | _,_=>none
def SSh.ex (rows:List SRow) (nb:Nat):SSh→List SV→Option Ex
 | .any=>fun | [_]=>some {} | _=>none
 | .ty T=>fun | [v]=>(match decV T v with | some x=>some { pay:=[⟨T,x⟩],ro:=v.toks } | none=>none) | _=>none
 | .keep T=>fun | [v]=>(match decV T v with | some x=>some { keep:=[⟨T,x⟩],ro:=v.toks } | none=>none) | _=>none
 | .own T f z=>fun
  | [.nill]=>if z then some { pay:=[⟨.list T,([]:List T.den)⟩],born:=[f] } else none
  | [.list T' (.own f' e z' t) l]=>if T'=T∧f'=f∧z'=z∧t=true∧rows[f]?.map (·.cur)=some e∧rows[f]?.map (·.T)=some T then some { pay:=[⟨.list T',l⟩],owns:=[f] } else none
  | _=>none
 | .nill=>fun | [.nill]=>some {} | _=>none
 | .ptr i o=>fun | [.ptr i' o']=>if i'=i∧o'=o∧i<nb then some {} else none | _=>none
 | .adr i o=>fun
  | [.nilp]=>if i<nb then some {} else none
  | [.ptr i' o']=>if i'=i∧o'=o∧i<nb then some {} else none
  | [.adr i' o']=>if i'=i∧o'=o∧i<nb then some {} else none
  | _=>none
 | .mapr i=>fun | [.mapr i']=>if i'=i∧i<nb then some {} else none | _=>none
 | .nilp=>fun | [.nilp]=>some {} | _=>none
 | .nilm=>fun | [.nilm]=>some {} | _=>none
 | .nilf=>fun | [.nilf]=>some {} | _=>none
 | .nili=>fun | [.nili]=>some {} | _=>none
 | .yld=>fun | [.yld]=>some {} | _=>none
 | .int k n=>fun | [.int k' n']=>if k'=k∧n'=n then some {} else none | _=>none
 | .bool b=>fun | [.bool b']=>if b'=b then some {} else none | _=>none
 | .func fn a b=>fun | [.func fn' x y]=>if fn'=fn then Ex.join (a.ex rows nb x) (b.ex rows nb y) else none | _=>none
 | .agg r=>fun | [.agg cs]=>r.ex rows nb cs | _=>none
 | .tup r=>fun | [.tup cs]=>r.ex rows nb cs | _=>none
 | .iface t r=>fun | [.iface t' v]=>if t'=t then r.ex rows nb [v] else none | _=>none
 | .nil=>fun | []=>some {} | _=>none
 | .cons a b=>fun | v::vs=>Ex.join (a.ex rows nb [v]) (b.ex rows nb vs) | _=>none
def exBoxes (rows:List SRow) (nb:Nat):List BSh→List SBox→Option Ex
 | [],_=>some {}
 | .gone::r,_::bs=>exBoxes rows nb r bs
 | .cells t w h::r,.cells t' w' cs::bs=>if t'=t∧w'=w then Ex.join (h.ex rows nb cs) (exBoxes rows nb r bs) else none
 | .mapo K T w::r,.mapo K' T' w' es::bs=>if K'=K∧T'=T∧w'=w then Ex.join (some { pay:=[⟨.list (.cons K' T'),es⟩] }) (exBoxes rows nb r bs) else none
 | _,_=>none
def rowsOk (n0:Nat) (back:Bool) (x:Ex):Nat→List RSh→List SRow→Bool
 | _,[],[]=>true
 | _,[],_::_=>true
 | i,h::r,[]=>x.born.contains i&&(!h.row.wr || h.row.made)&&(h.row.made==nbT h.row.T)&&rowsOk n0 back x (i+1) r []
 | i,h::r,q::rows =>
  (if x.born.contains i then decide (n0≤i)&&(!h.row.wr || h.row.made)&&(h.row.made==nbT h.row.T) else
   decide (q.T=h.row.T∧q.ty=h.row.ty∧q.made=h.row.made)&&(!h.row.wr || (q.wr&&!x.ro.contains i)) &&
    (if h.mod then (if back then decide (h.row.cur≤q.cur) else decide (q.cur<h.row.cur)) else (if back then decide (q.cur=h.row.cur) else decide (q.cur=h.row.cur)))) &&
  rowsOk n0 back x (i+1) r rows
def Sh.ex (h:Sh) (b0 n0:Nat) (back:Bool) (s:List SV) (ss:SS):Option Ex :=
 match Ex.join (h.slots.ex ss.rows h.boxes.length s) (exBoxes ss.rows h.boxes.length h.boxes ss.boxes) with
 | some x=>if (x.owns.all fun f=>!x.born.contains f)=true∧b0≤h.boxes.length∧n0≤h.rows.length∧rowsOk n0 back x 0 h.rows ss.rows=true∧(ss.kills.all fun f=>h.kills.contains f)=true then some x else none
 | none=>none
def SSh.inj (rows:List RSh):SSh→List Dyn→List Dyn→Option (List SV×List Dyn×List Dyn)
 | .any=>fun p k=>some ([.any],p,k)
 | .ty _=>fun
  | ⟨T,x⟩::p=>fun k=>some ([T.sv x],p,k)
  | []=>fun _=>none
 | .keep _=>fun p=>fun
  | ⟨T,x⟩::k=>some ([T.sv x],p,k)
  | []=>none
 | .own T f z=>fun
  | ⟨.list T',l⟩::p=>fun k=>match rows[f]? with
   | some r=>if T'=T∧r.row.T=T then some ([.list T' (.own f r.row.cur z true) l],p,k) else none
   | none=>none
  | _=>fun _=>none
 | .nill=>fun p k=>some ([.nill],p,k)
 | .ptr i o=>fun p k=>some ([.ptr i o],p,k)
 | .adr i o=>fun p k=>some ([.adr i o],p,k)
 | .mapr i=>fun p k=>some ([.mapr i],p,k)
 | .nilp=>fun p k=>some ([.nilp],p,k)
 | .nilm=>fun p k=>some ([.nilm],p,k)
 | .nilf=>fun p k=>some ([.nilf],p,k)
 | .nili=>fun p k=>some ([.nili],p,k)
 | .yld=>fun p k=>some ([.yld],p,k)
 | .int kd n=>fun p k=>some ([.int kd n],p,k)
 | .bool b=>fun p k=>some ([.bool b],p,k)
 | .func fn a b=>fun p k=>match a.inj rows p k with
  | some (x,p,k)=>match b.inj rows p k with
   | some (y,p,k)=>some ([.func fn x y],p,k)
   | none=>none
  | none=>none
 | .agg r=>fun p k=>match r.inj rows p k with
  | some (x,p,k)=>some ([.agg x],p,k)
  | none=>none
 | .tup r=>fun p k=>match r.inj rows p k with
  | some (x,p,k)=>some ([.tup x],p,k)
  | none=>none
 | .iface t r=>fun p k=>match r.inj rows p k with
  | some ([x],p,k)=>some ([.iface t x],p,k)
  | _=>none
 | .nil=>fun p k=>some ([],p,k)
 | .cons a b=>fun p k=>match a.inj rows p k with
  | some ([x],p,k)=>match b.inj rows p k with
   | some (y,p,k)=>some (x::y,p,k)
   | none=>none
  | _=>none
def dynMap (w:Bool):Dyn→Option SBox
 | ⟨.list (.cons K T),es⟩=>some (.mapo K T w es)
 | _=>none
def injBoxes (rows:List RSh):List BSh→List Dyn→List Dyn→Option (List SBox)
 | [],_,_=>some []
 | .gone::r,p,k=>(injBoxes rows r p k).map (.gone::·)
 | .cells t w h::r,p,k=>match h.inj rows p k with
  | some (cs,p,k)=>(injBoxes rows r p k).map (.cells t w cs::·)
  | none=>none
 | .mapo _ _ w::r,d::p,k=>match dynMap w d with
  | some b=>(injBoxes rows r p k).map (b::·)
  | none=>none
 | .mapo _ _ _::_,[],_=>none
def Sh.inj {ρ:Type} (h:Sh) (pay keep:List Dyn) (K:List SV→SS→Option ρ):Option ρ :=
 match h.slots.inj h.rows pay keep with
 | some (s,p,k)=>match injBoxes h.rows h.boxes p k with
  | some bs=>K s ⟨bs,h.rows.map (·.row),h.kills,none⟩
  | none=>none
 | none=>none
def anyN:Nat→SSh→SSh
 | 0,r=>r
 | n+1,r=>.cons .any (anyN n r)
def SSh.tys:SSh→List Ty
 | .ty T=>[T]
 | .own T _ _=>[.list T]
 | .func _ a b=>a.tys++b.tys
 | .agg r=>r.tys
 | .tup r=>r.tys
 | .iface _ r=>r.tys
 | .cons a b=>a.tys++b.tys
 | _=>[]
def BSh.tys:BSh→List Ty
 | .cells _ _ r=>r.tys
 | .mapo K T _=>[.list (.cons K T)]
 | .gone=>[]
def Sh.tys (h:Sh):List Ty:=h.slots.tys++h.boxes.flatMap BSh.tys
def ofHL:(Ts:List Ty)→HL Ts→List Dyn
 | [],_=>[]
 | [T],x=>[⟨T,x⟩]
 | T::U::r,x=>⟨T,x.1⟩::ofHL (U::r) x.2
def toHL:(Ts:List Ty)→List Dyn→Option (HL Ts)
 | [],[]=>some ()
 | [T],[⟨T',x⟩]=>if h:T'=T then some (castD h x) else none
 | T::U::r,⟨T',x⟩::p=>if h:T'=T then (match toHL (U::r) p with | some y=>some (castD h x,y) | none=>none) else none
 | _,_=>none
@[reducible] def OutT:List (AExit×Sh)→Type
 | []=>Empty
 | [(_,h)]=>HL h.tys
 | (_,h)::x::r=>HL h.tys ⊕ OutT (x::r)
def SSh.kp:SSh→List SV→List Dyn
 | .keep T=>fun | [v]=>(match decV T v with | some x=>[⟨T,x⟩] | none=>[]) | _=>[]
 | .func _ a b=>fun | [.func _ x y]=>a.kp x++b.kp y | _=>[]
 | .agg r=>fun | [.agg cs]=>r.kp cs | _=>[]
 | .tup r=>fun | [.tup cs]=>r.kp cs | _=>[]
 | .iface _ r=>fun | [.iface _ v]=>r.kp [v] | _=>[]
 | .cons a b=>fun | v::vs=>a.kp [v]++b.kp vs | _=>[]
 | _=>fun _=>[]
def kpBoxes:List BSh→List SBox→List Dyn
 | .cells _ _ h::r,.cells _ _ cs::bs=>h.kp cs++kpBoxes r bs
 | _::r,_::bs=>kpBoxes r bs
 | _,_=>[]
def Sh.kp (h:Sh) (s:List SV) (ss:SS):List Dyn:=h.slots.kp s++kpBoxes h.boxes ss.boxes
def grdEq {α ρ:Type} [DecidableEq α] (x y:α) (K:Option ρ):Option ρ:=if x=y then K else none
noncomputable def grdKeep {ρ:Type} (w:List Nat):Nat→List Dyn→List Dyn→Option ρ→Option ρ
 | _,[],[],K=>K
 | i,⟨T,x⟩::a,⟨T',y⟩::b,K=>if h:T=T' then (letI:=T'.deq;grdEq (castD h x) y (grdKeep w (i+1) a b K)) else none
 | _,_,_,_=>none
noncomputable def mkOut {τ:Type} (w:List Nat) (s0:List SV) (ss0:SS) (e:AExit) (s:List SV) (ss:SS):(outs:List (AExit×Sh))→(OutT outs→Option τ)→Option τ
 | [],_=>stop (2::ecode e::w) s ss
 | [(e',h)],K=>if e=e' then
  (match h.ex ss0.boxes.length ss0.rows.length false s ss with
  | some x=>grdKeep (2::ecode e::w) 0 x.keep (h.kp s0 ss0) (match toHL h.tys x.pay with | some y=>K y | none=>none)
  | none=>stop (3::ecode e::w) s ss)
  else stop (2::ecode e::w) s ss
 | (e',h)::o::r,K=>if e=e' then
  (match h.ex ss0.boxes.length ss0.rows.length false s ss with
  | some x=>grdKeep (2::ecode e::w) 0 x.keep (h.kp s0 ss0) (match toHL h.tys x.pay with | some y=>K (.inl y) | none=>none)
  | none=>stop (3::ecode e::w) s ss)
  else mkOut w s0 ss0 e s ss (o::r) fun y=>K (.inr y)
def goOut {ρ:Type} (s0:List SV) (ss0:SS) (K:AExit→List SV→SS→Option ρ):(outs:List (AExit×Sh))→OutT outs→Option ρ
 | [],_=>none
 | [(e,h)],x=>h.inj (ofHL h.tys x) (h.kp s0 ss0) fun s ss=>K e s { ss with y:=ss0.y }
 | (e,h)::o::r,x=>match x with
  | .inl x=>h.inj (ofHL h.tys x) (h.kp s0 ss0) fun s ss=>K e s { ss with y:=ss0.y }
  | .inr x=>goOut s0 ss0 K (o::r) x
section
variable {σ τ:Type} 
def iterS (step:σ→Option (σ ⊕ τ)):Nat→σ→Option τ
 | 0,_=>none
 | n+1,x=>match step x with
  | some (.inl y)=>iterS step n y
  | some (.inr y)=>some y
  | none=>none
noncomputable def loopS (step:σ→Option (σ ⊕ τ)) (x:σ):Option τ :=
 match iterS step 1000000000000 x with
 | some y=>some y
 | none=>open Classical in if h:∃r,∃n,iterS step n x=some r then some (Classical.choose h) else none
end
inductive SFn where
 | none
 | pure (ps rs:List Ty) (F:HL ps→Option (HL rs))
 | inl
 | bcopy (tb:TypeId)
 | bstr (t8:TypeId)
structure SCfg where
 fn:FuncId→SFn
 ann:List Nat→Option Ann
 keep:FuncId→Bool
def findFn:List (FuncId×SFn)→FuncId→SFn
 | [],_=>.none
 | p::r,g=>if p.1=g then p.2 else findFn r g
def findAnn:List (List Nat×Ann)→List Nat→Option Ann
 | [],_=>none
 | p::r,l=>if p.1=l then some p.2 else findAnn r l
def SCfg.of (fs:List (FuncId×SFn)) (as:List (List Nat×Ann)) (keep:List FuncId):SCfg:=⟨findFn fs,findAnn as,keep.contains⟩
def csize:Code→Nat
 | .seq a b=>1+csize a+csize b
 | .cond _ a b=>1+csize a+csize b
 | .block _ c=>1+csize c
 | .loop c=>1+csize c
 | .scope c=>1+csize c
 | .rangeFunc _ _ a b=>1+csize a+csize b
 | _=>1
def sres (P:Program) (ss:SS) (s:List SV) (r:Array ResultVar):Option SV :=
 match (r.toList.mapM fun
  | .tmp t=>some (s.getD t .any)
  | .cell a t=>sload P ss t (s.getD a .any)) with
 | some [v]=>some v
 | some vs=>some (.tup vs)
 | none=>none
def liveS (ss:SS) (i:Nat):Bool :=
 match ss.boxes[i]? with
 | some .gone=>false
 | some _=>true
 | none=>false
def sfar (s:List SV) (ss:SS) (x y:Nat):Bool :=
 match s.getD x .any,s.getD y .any with
 | .ptr i _,.ptr j _=>i != j&&liveS ss i&&liveS ss j
 | .elem ..,_=>true
 | _,.elem ..=>true
 | _,_=>false
def lockB:SBox→SBox
 | .cells t _ cs=>.cells t false cs
 | .mapo K T _ es=>.mapo K T false es
 | .gone=>.gone
def SS.lock (ss:SS):SS:={ ss with boxes:=ss.boxes.map lockB,y:=none }
def unlockBs:List SBox→List SBox→List SBox
 | .cells _ w _::a,.cells t _ cs::b=>.cells t w cs::unlockBs a b
 | .mapo _ _ w _::a,.mapo K T _ es::b=>.mapo K T w es::unlockBs a b
 | _::a,x::b=>x::unlockBs a b
 | [],b=>b
 | _::_,[]=>[]
def SS.unlock (ss ss':SS):SS:={ ss' with boxes:=unlockBs ss.boxes ss'.boxes,y:=ss.y }
mutual
noncomputable def runK (G:SCfg) (P:Program):Nat→(path:List Nat)→(pos:Nat)→Code→List SV→SS→{ρ:Type}→(AExit→List SV→SS→Option ρ)→Option ρ
 | 0,_,_,_,_,_,_,_=>none
 | n+1,path,pos,c,s,ss,_,K=>match c with
  | .skip=>K .normal s ss
  | .label _=>K .normal s ss
  | .ret=>K .ret s ss
  | .exit id=>K (.exit id) s ss
  | .scope c=>runK G P n path (pos+1) c s ss K
  | .seq a b=>match G.ann (pos::path) with
   | some an=>bndW (pos::path) (runK G P n path (pos+1) a s ss fun e s' ss'=>mkOut (pos::path) s ss e s' ss' an.outs some) fun y=>goOut s ss (fun e s ss =>
    (match e with
    | .normal=>runK G P n path (pos+1+csize a) b s ss K
    | e=>K e s ss)) an.outs y
   | none=>runK G P n path (pos+1) a s ss fun e s ss=>match e with
    | .normal=>runK G P n path (pos+1+csize a) b s ss K
    | e=>K e s ss
  | .cond t x y=>match sev s t with
   | .bool q=>if q=true then runK G P n path (pos+1) x s ss K else runK G P n path (pos+1+csize x) y s ss K
   | _=>none
  | .block id c=>runK G P n path (pos+1) c s ss fun e s ss=>match e with
   | .exit i=>if i=id then K .normal s ss else K (.exit i) s ss
   | e=>K e s ss
  | .loop c=>match G.ann (pos::path) with
   | some ⟨some h,outs⟩=>match h.ex ss.boxes.length ss.rows.length false s ss with
    | some x0=>match toHL h.tys x0.pay with
     | some x=>bndW (pos::path) (loopS (fun x=>h.inj (ofHL h.tys x) x0.keep fun s1 ss1=>runK G P n path (pos+1) c s1 { ss1 with y:=ss.y } fun e s2 ss2=>match e with
      | .normal=>(match h.ex ss.boxes.length ss.rows.length true s2 ss2 with
       | some x2=>grdKeep (1::pos::path) 0 x2.keep x0.keep (match toHL h.tys x2.pay with | some y=>some (.inl y) | none=>none)
       | none=>stop (1::pos::path) s2 ss2)
      | e=>mkOut (pos::path) s ss e s2 ss2 outs fun y=>some (.inr y)) x) fun y=>goOut s ss K outs y
     | none=>none
    | none=>stop (4::pos::path) s ss
   | some ⟨none,_⟩=>runK G P n path (pos+1) c s ss fun e s ss=>match e with
    | .normal=>runK G P n (1000000::path) pos (.loop c) s ss K
    | e=>K e s ss
   | none=>stop (0::pos::path) s ss
  | .region _ ops d=>if (d&&!drawB ⟨G.keep,fun _=>none⟩ P ops)=true then sops P (fun i g args ss K=>if (G.keep g&&decide (g<P.funcs.size))=true then callK G P n (g::i::pos::path) g args ss.lock fun v ss'=>K v (ss.unlock ss') else callK G P n (g::i::pos::path) g args ss K) d ops 0 (hoist ops) s ss fun s ss=>(if drawG ⟨G.keep,fun _=>none⟩ P ops (sfar s ss)=true then K .normal s ss else none) else sops P (fun i g args ss K=>callK G P n (g::i::pos::path) g args ss K) d ops 0 ops.toList s ss fun s ss=>K .normal s ss
  | .rangeFunc f ps assign body=>match ss.y,sev s f with
   | none,.func g first cap =>
    if (callableB P g&&G.keep g&&noRange assign&&noRange body&&SV.noYlds s&&SV.noYlds first&&SV.noYlds cap&&ss.boxes.all SBox.noYld)=true then
     callK G P n (g::0::pos::path) g (first++[.yld]++cap) { ss with kills:=[],y:=some ⟨path,pos,ps,assign,body,s⟩ } fun _ ss' =>
      if ss'.boxes.all SBox.noYld=true then K .normal (skillAll ss'.kills s) { ss' with kills:=ss'.kills++ss.kills,y:=none } else none
    else none
   | _,_=>none
  | _=>none
termination_by structural n=>n
noncomputable def callK (G:SCfg) (P:Program):Nat→(path:List Nat)→FuncId→List SV→SS→{ρ:Type}→(SV→SS→Option ρ)→Option ρ
 | 0,_,_,_,_,_,_=>none
 | n+1,path,g,args,ss,_,K=>if P.funcs.size≤g then
  (match ss.y with
  | some y=>if args.length=y.ps.size then
   runK G P n y.path (y.pos+1) y.assign ((y.ps.toList.zip args).foldl (fun s p=>s.set p.1 p.2) (skillAll ss.kills y.s0)) { ss with kills:=[],y:=none } fun e s1 ss1=>match e with
    | .normal=>runK G P n y.path (y.pos+1+csize y.assign) y.body s1 ss1 fun e s2 ss2=>match e with
     | .normal=>K (.bool true) ss2
     | _=>none
    | _=>none
   else none
  | none=>none)
  else match G.fn g with
  | .pure ps rs F=>match decL ps args with
   | some x=>bnd (F x) fun y=>K (oneV (svL rs y)) (ss.retire (SV.toksL args))
   | none=>none
  | .inl=>match P.funcs[g]? with
   | some fn=>match fn.body with
    | some c=>if args.length≤fn.ntmps then
     (match G.ann (2000000::path) with
     | some an=>bndW (2000000::path) (runK G P n path 0 c (args++List.replicate (fn.ntmps-args.length) (.tup [])) ss fun e s ss'=>match e with
      | .exit _=>none
      | _=>match sres P ss' s fn.results with
       | some v=>mkOut (2000000::path) [] ss .ret [v] ss' an.outs some
       | none=>none) fun y=>goOut [] ss (fun _ s ss'=>match s with | [v]=>K v (ss.leave ss') | _=>none) an.outs y
     | none=>runK G P n path 0 c (args++List.replicate (fn.ntmps-args.length) (.tup [])) ss fun e s ss'=>match e with
      | .exit _=>none
      | _=>match sres P ss' s fn.results with
       | some v=>K v (ss.leave ss')
       | none=>none)
     else none
    | none=>none
   | none=>none
  | .bcopy tb=>match args with
   | [.ptr i o]=>match ss.boxes[i]? with
    | some (.cells T true cs)=>if liesAt P P.depth T (cs.length / P.cellsOf T) o tb 1=true then (match cs[o]? with
     | some .nilp=>K (.tup []) { ss with boxes:=ss.boxes.set i (.cells T true (cs.set o (.ptr i o))) }
     | some (.ptr i' o')=>if i'=i∧o'=o then K (.tup []) ss else none
     | some (.adr i' o')=>if i'=i∧o'=o then K (.tup []) { ss with boxes:=ss.boxes.set i (.cells T true (cs.set o (.ptr i o))) } else none
     | _=>none)
     else none
    | _=>none
   | _=>none
  | .bstr t8=>match args with
   | [.ptr i o]=>match ss.boxes[i]? with
    | some (.cells T _ cs)=>match cs[o+1]? with
     | some .nill=>K (.str []) ss
     | some (.list (.int .u8) (.own f e true true) l)=>match ss.rows[f]? with
      | some r=>if r.cur=e∧r.made=false∧r.ty=t8 then grd (l.length≤9223372036854775807) (grd (∀n∈l,0≤n∧n<256) (K (.str (l.map fun n=>UInt8.ofNat n.toNat)) ss)) else none
      | none=>none
     | _=>none
    | _=>none
   | _=>none
  | .none=>none
termination_by structural n=>n
end
def resHL:(rs:List Ty)→SV→Option (HL rs)
 | [T],v=>decV T v
 | [],.tup []=>some ()
 | T::U::r,.tup vs=>decL (T::U::r) vs
 | _,_=>none
noncomputable def fnK (G:SCfg) (P:Program) (n:Nat) (g:FuncId) (ps rs:List Ty) (x:HL ps):Option (HL rs) :=
 match P.funcs[g]? with
 | some fn=>match fn.body with
  | some c=>if ps.length≤fn.ntmps then
   runK G P n [] 0 c (svL ps x++List.replicate (fn.ntmps-ps.length) (.tup [])) ⟨[],[],[],none⟩ fun e s ss=>match e with
    | .exit _=>none
    | _=>match sres P ss s fn.results with
     | some v=>resHL rs v
     | none=>none
   else none
  | none=>none
 | none=>none
end Go.Abs

namespace Go.Abs
open Go
def All2 {α β:Type} (R:α→β→Prop):List α→List β→Prop
 | [],[]=>True
 | a::l,b::m=>R a b∧All2 R l m
 | _,_=>False
section
variable {α β:Type} {R R':α→β→Prop}
theorem All2.mono (h:∀a b,R a b→R' a b):∀{l:List α} {m:List β},All2 R l m→All2 R' l m
 | [],[],_=>trivial
 | [],_::_,q=>by simp[All2] at q
 | _::_,[],q=>by simp[All2] at q
 | a::l,b::m,q=>⟨h _ _ q.1,All2.mono h q.2⟩
theorem All2.len:∀{l:List α} {m:List β},All2 R l m→l.length=m.length
 | [],[],_=>rfl
 | [],_::_,q=>by simp[All2] at q
 | _::_,[],q=>by simp[All2] at q
 | a::l,b::m,q=>by simp[All2.len q.2]
theorem All2.get:∀{l:List α} {m:List β} {i:Nat} {a:α},All2 R l m→l[i]? = some a→∃b,m[i]? = some b∧R a b
 | [],_,i,a,_,h=>by simp at h
 | _::_,[],i,a,q,h=>by simp[All2] at q
 | a::l,b::m,0,x,q,h=>by simp at h;subst h;exact⟨b,rfl,q.1⟩
 | a::l,b::m,i+1,x,q,h=>by simp at h ⊢;exact All2.get q.2 h
theorem All2.app:∀{l l':List α} {m m':List β},All2 R l m→All2 R l' m'→All2 R (l++l') (m++m')
 | [],_,[],_,_,q=>q
 | [],_,_::_,_,q,_=>by simp[All2] at q
 | _::_,_,[],_,q,_=>by simp[All2] at q
 | a::l,_,b::m,_,q,q'=>⟨q.1,All2.app q.2 q'⟩
theorem All2.take:∀{l:List α} {m:List β} (n:Nat),All2 R l m→All2 R (l.take n) (m.take n)
 | [],[],n,_=>by simp[All2]
 | [],_::_,_,q=>by simp[All2] at q
 | _::_,[],_,q=>by simp[All2] at q
 | a::l,b::m,0,q=>by simp[All2]
 | a::l,b::m,n+1,q=>⟨q.1,All2.take n q.2⟩
theorem All2.drop:∀{l:List α} {m:List β} (n:Nat),All2 R l m→All2 R (l.drop n) (m.drop n)
 | [],[],n,_=>by simp[All2]
 | [],_::_,_,q=>by simp[All2] at q
 | _::_,[],_,q=>by simp[All2] at q
 | a::l,b::m,0,q=>q
 | a::l,b::m,n+1,q=>All2.drop n q.2
theorem All2.set:∀{l:List α} {m:List β} (n:Nat) {a:α} {b:β},All2 R l m→R a b→All2 R (l.set n a) (m.set n b)
 | [],[],n,_,_,_,_=>by simp[All2]
 | [],_::_,_,_,_,q,_=>by simp[All2] at q
 | _::_,[],_,_,_,q,_=>by simp[All2] at q
 | a::l,b::m,0,_,_,q,h=>⟨h,q.2⟩
 | a::l,b::m,n+1,_,_,q,h=>⟨q.1,All2.set n q.2 h⟩
theorem All2.rep {a:α} {b:β} (h:R a b):∀n:Nat,All2 R (List.replicate n a) (List.replicate n b)
 | 0=>trivial
 | n+1=>⟨h,All2.rep h n⟩
theorem All2.map {γ δ:Type} {f:γ→α} {g:δ→β}:∀{l:List γ} {m:List δ},All2 (fun a b=>R (f a) (g b)) l m→All2 R (l.map f) (m.map g)
 | [],[],_=>trivial
 | [],_::_,q=>by simp[All2] at q
 | _::_,[],q=>by simp[All2] at q
 | a::l,b::m,q=>⟨q.1,All2.map q.2⟩
theorem All2.nil_left {m:List β} (h:All2 R [] m):m=[]:=by
 cases m with
 | nil=>rfl
 | cons b m=>simp[All2] at h
theorem All2.upd2 {f:β→β}:∀{l:List α} {m:List β},All2 R l m→(∀a b,R a b→R' a (f b))→All2 R' l (m.map f)
 | [],[],_,_=>trivial
 | [],_::_,q,_=>by simp[All2] at q
 | _::_,[],q,_=>by simp[All2] at q
 | a::l,b::m,q,h=>⟨h _ _ q.1,All2.upd2 q.2 h⟩
theorem All2.fix {f:β→β}:∀{l:List α} {m:List β},All2 R l m→(∀a b,R a b→f b=b)→m.map f=m
 | [],[],_,_=>rfl
 | [],_::_,q,_=>by simp[All2] at q
 | _::_,[],q,_=>by simp[All2] at q
 | a::l,b::m,q,h=>by simp[h _ _ q.1,All2.fix q.2 h]
theorem All2.all {p:β→Bool}:∀{l:List α} {m:List β},All2 R l m→(∀a b,R a b→p b=true)→m.all p=true
 | [],[],_,_=>rfl
 | [],_::_,q,_=>by simp[All2] at q
 | _::_,[],q,_=>by simp[All2] at q
 | a::l,b::m,q,h=>by simp only[List.all_cons,h _ _ q.1,All2.all q.2 h,Bool.and_self]
end
def TokN (N:Nat→Prop) (t:Tok):Prop:=∀F ep,t=.own F ep→N F
def ERof (t:Ty) (c:List V→Prop) (v:V):Prop:=∃cs,c cs∧(if t.isAgg=true then v=.agg cs else cs=[v])
def ERc (N:Nat→Prop):(T:Ty)→T.den→List V→Prop
 | .unit,_,vs=>vs=[]
 | .int k,n,vs=>vs=[.int k n]
 | .bool,b,vs=>vs=[.bool b]
 | .str,s,vs=>vs=[.str s]
 | .list t,l,vs=>∃tk off q xs,vs=[.list tk off q xs]∧LOk tk q t.size l∧TokN N tk∧All2 (fun x v=>ERof t (fun cs=>ERc N t x cs) v) l xs
 | .cons a b,x,vs=>∃v1 v2,vs=v1++v2∧ERc N a x.1 v1∧ERc N b x.2 v2
 | .agg a,x,vs=>ERc N a x vs
abbrev ERe (N:Nat→Prop) (T:Ty) (x:T.den) (v:V):Prop:=ERof T (fun cs=>ERc N T x cs) v
section
variable {N N':Nat→Prop}
theorem TokN.mono (h:∀F,N F→N' F) {t:Tok} (q:TokN N t):TokN N' t:=fun F ep e=>h F (q F ep e)
theorem ERof.imp {t:Ty} {c c':List V→Prop} (h:∀cs,c cs→c' cs) {v:V} (q:ERof t c v):ERof t c' v:=by
 obtain⟨cs,h1,h2⟩:=q
 exact⟨cs,h _ h1,h2⟩
theorem ERc.mono (h:∀F,N F→N' F):∀(T:Ty) {x:T.den} {vs:List V},ERc N T x vs→ERc N' T x vs
 | .unit,_,_,q=>q
 | .int _,_,_,q=>q
 | .bool,_,_,q=>q
 | .str,_,_,q=>q
 | .list t,l,vs,q=>by
  obtain⟨tk,off,k,xs,h1,h2,h3,h4⟩:=q
  exact⟨tk,off,k,xs,h1,h2,h3.mono h,h4.mono fun a b r=>r.imp fun cs r=>ERc.mono h t r⟩
 | .cons a b,x,vs,q=>by
  obtain⟨v1,v2,h1,h2,h3⟩:=q
  exact⟨v1,v2,h1,ERc.mono h a h2,ERc.mono h b h3⟩
 | .agg a,x,vs,q=>ERc.mono h a (x:=x) q
theorem ERe.mono (h:∀F,N F→N' F) {T:Ty} {x:T.den} {v:V} (q:ERe N T x v):ERe N' T x v:=ERof.imp (fun cs r=>ERc.mono h T r) q
theorem ERc.len:∀(T:Ty) {x:T.den} {vs:List V},ERc N T x vs→vs.length=T.size
 | .unit,_,_,q=>by simp only[ERc] at q;subst q;rfl
 | .int _,_,_,q=>by simp only[ERc] at q;subst q;rfl
 | .bool,_,_,q=>by simp only[ERc] at q;subst q;rfl
 | .str,_,_,q=>by simp only[ERc] at q;subst q;rfl
 | .list t,l,vs,q=>by
  obtain⟨tk,off,k,xs,h1,_⟩:=q
  subst h1;rfl
 | .cons a b,x,vs,q=>by
  obtain⟨v1,v2,h1,h2,h3⟩:=q
  subst h1
  simp[Ty.size,ERc.len a h2,ERc.len b h3]
 | .agg a,x,vs,q=>by simpa[Ty.size] using ERc.len a (x:=x) q
structure Inert (N:Nat→Prop) (f:V→V):Prop where
 int:∀k n,f (.int k n)=.int k n
 bool:∀b,f (.bool b)=.bool b
 str:∀s,f (.str s)=.str s
 agg:∀cs,f (.agg cs)=.agg (cs.map f)
 list:∀t off q xs,TokN N t→f (.list t off q xs)=.list t off q (xs.map f)
theorem ERof.fix {f:V→V} (hf:Inert N f) {t:Ty} {c:List V→Prop} (h:∀cs,c cs→cs.map f=cs) {v:V} (q:ERof t c v):f v=v:=by
 obtain⟨cs,h1,h2⟩:=q
 split at h2
 · subst h2;rw[hf.agg,h _ h1]
 · subst h2;have:=h _ h1;simpa using this
theorem ERc.fix {f:V→V} (hf:Inert N f):∀(T:Ty) {x:T.den} {vs:List V},ERc N T x vs→vs.map f=vs
 | .unit,_,_,q=>by simp only[ERc] at q;subst q;rfl
 | .int _,_,_,q=>by simp only[ERc] at q;subst q;simp[hf.int]
 | .bool,_,_,q=>by simp only[ERc] at q;subst q;simp[hf.bool]
 | .str,_,_,q=>by simp only[ERc] at q;subst q;simp[hf.str]
 | .list t,l,vs,q=>by
  obtain⟨tk,off,k,xs,h1,h2,h3,h4⟩:=q
  subst h1
  simp only[List.map_cons,List.map_nil,hf.list _ _ _ _ h3]
  rw[h4.fix fun a b r=>ERof.fix hf (fun cs r=>ERc.fix hf t r) r]
 | .cons a b,x,vs,q=>by
  obtain⟨v1,v2,h1,h2,h3⟩:=q
  subst h1
  rw[List.map_append,ERc.fix hf a h2,ERc.fix hf b h3]
 | .agg a,x,vs,q=>ERc.fix hf a (x:=x) q
theorem ERe.fix {f:V→V} (hf:Inert N f) {T:Ty} {x:T.den} {v:V} (q:ERe N T x v):f v=v:=ERof.fix hf (fun cs r=>ERc.fix hf T r) q
theorem inert_upd {F ep i:Nat} {e:V} (h:¬N F):Inert N (V.upd F ep i e) where
 int k n:=by simp[V.upd]
 bool b:=by simp[V.upd]
 str s:=by simp[V.upd]
 agg cs:=by simp[V.upd,upds_map]
 list t off q xs ht:=by
  cases t with
  | own F' ep' =>
   have:F'≠F:=fun e=>h (e▸ht F' ep' rfl)
   simp[V.upd,this,upds_map]
  | _=>simp[V.upd,upds_map]
theorem inert_kill {ks:List Nat} (h:∀F∈ks,¬N F):Inert N (V.kill ks) where
 int k n:=by simp[V.kill]
 bool b:=by simp[V.kill]
 str s:=by simp[V.kill]
 agg cs:=by simp[V.kill,kills_map]
 list t off q xs ht:=by
  cases t with
  | own F' ep' =>
   have:F' ∉ ks:=fun e=>h _ e (ht F' ep' rfl)
   simp[V.kill,this,kills_map]
  | _=>simp[V.kill,kills_map]
structure Holds (N:Nat→Prop) (p:V→Bool):Prop where
 int:∀k n,p (.int k n)=true
 bool:∀b,p (.bool b)=true
 str:∀s,p (.str s)=true
 agg:∀cs,cs.all p=true→p (.agg cs)=true
 list:∀t off q xs,TokN N t→xs.all p=true→p (.list t off q xs)=true
theorem ERof.holds {p:V→Bool} (hp:Holds N p) {t:Ty} {c:List V→Prop} (h:∀cs,c cs→cs.all p=true) {v:V} (q:ERof t c v):p v=true:=by
 obtain⟨cs,h1,h2⟩:=q
 split at h2
 · subst h2;exact hp.agg _ (h _ h1)
 · subst h2;have:=h _ h1;simpa using this
theorem ERc.holds {p:V→Bool} (hp:Holds N p):∀(T:Ty) {x:T.den} {vs:List V},ERc N T x vs→vs.all p=true
 | .unit,_,_,q=>by simp only[ERc] at q;subst q;rfl
 | .int _,_,_,q=>by simp only[ERc] at q;subst q;simp[hp.int]
 | .bool,_,_,q=>by simp only[ERc] at q;subst q;simp[hp.bool]
 | .str,_,_,q=>by simp only[ERc] at q;subst q;simp[hp.str]
 | .list t,l,vs,q=>by
  obtain⟨tk,off,k,xs,h1,h2,h3,h4⟩:=q
  subst h1
  simp only[List.all_cons,List.all_nil,Bool.and_true]
  exact hp.list _ _ _ _ h3 (h4.all fun a b r=>ERof.holds hp (fun cs r=>ERc.holds hp t r) r)
 | .cons a b,x,vs,q=>by
  obtain⟨v1,v2,h1,h2,h3⟩:=q
  subst h1
  rw[List.all_append,ERc.holds hp a h2,ERc.holds hp b h3];rfl
 | .agg a,x,vs,q=>ERc.holds hp a (x:=x) q
theorem ERe.holds {p:V→Bool} (hp:Holds N p) {T:Ty} {x:T.den} {v:V} (q:ERe N T x v):p v=true:=ERof.holds hp (fun cs r=>ERc.holds hp T r) q
theorem holds_free {F:Nat} (h:¬N F):Holds N (V.free F) where
 int k n:=by simp[V.free]
 bool b:=by simp[V.free]
 str s:=by simp[V.free]
 agg cs hc:=by simpa[V.free,frees_all] using hc
 list t off q xs ht hx:=by
  cases t with
  | own F' ep' =>
   have:F'≠F:=fun e=>h (e▸ht F' ep' rfl)
   simp only[V.free,frees_all,bne_iff_ne,Bool.and_eq_true]
   exact⟨this,hx⟩
  | _=>simp only[V.free,frees_all,Bool.true_and];exact hx
theorem freezes_map' (f:Nat):∀l,V.freezes f l=l.map (V.freeze f)
 | []=>by simp[V.freezes]
 | v::l=>by simp[V.freezes,freezes_map' f l]
theorem holds_under {h:Nat}:Holds N (V.under h) where
 int k n:=by simp[V.under]
 bool b:=by simp[V.under]
 str s:=by simp[V.under]
 agg cs hc:=by simpa[V.under,unders_all] using hc
 list t off q xs ht hx:=by simpa[V.under,unders_all] using hx
theorem ERof.freeze {t:Ty} {c c':List V→Prop} {f:Nat} (h:∀cs,c cs→c' (cs.map (V.freeze f))) {v:V} (q:ERof t c v):ERof t c' (v.freeze f):=by
 obtain⟨cs,h1,h2⟩:=q
 refine⟨_,h _ h1,?_⟩
 split at h2
 · rename_i hh;subst h2;simp[hh,V.freeze,freezes_map']
 · rename_i hh;subst h2;simp[hh]
theorem freeze_tok {f:Nat} {t:Tok} {off q:Nat} {xs:List V}:∃t' off',V.freeze f (.list t off q xs)=.list t' off' q (xs.map (V.freeze f))∧(t'=.nil↔t=.nil)∧(∀F ep,t'=.own F ep→t=.own F ep∧F<f):=by
 cases t with
 | own F ep =>
  by_cases hF:F<f
  · exact⟨.own F ep,off,by simp[V.freeze,hF,freezes_map'],by simp,by rintro F' ep' h;cases h;exact⟨rfl,hF⟩⟩
  · exact⟨.ro,0,by simp[V.freeze,hF,freezes_map'],by simp,by simp⟩
 | nil=>exact⟨.nil,off,by simp[V.freeze,freezes_map'],by simp,by simp⟩
 | clip=>exact⟨.clip,off,by simp[V.freeze,freezes_map'],by simp,by simp⟩
 | ro=>exact⟨.ro,off,by simp[V.freeze,freezes_map'],by simp,by simp⟩
theorem LOk.tok {α:Type} {t t':Tok} {q sz:Nat} {l:List α} (h:LOk t q sz l) (e:t'=.nil↔t=.nil):LOk t' q sz l:=by
 rcases h with ⟨h1,h2⟩ | ⟨h1,h2⟩
 · exact .inl ⟨e.2 h1,h2⟩
 · exact .inr ⟨fun x=>h1 (e.1 x),h2⟩
theorem ERc.freeze {f:Nat} (hN:∀F,N F→F<f→N' F):∀(T:Ty) {x:T.den} {vs:List V},ERc N T x vs→ERc N' T x (vs.map (V.freeze f))
 | .unit,_,_,q=>by simp only[ERc] at q ⊢;subst q;rfl
 | .int _,_,_,q=>by simp only[ERc] at q ⊢;subst q;simp[V.freeze]
 | .bool,_,_,q=>by simp only[ERc] at q ⊢;subst q;simp[V.freeze]
 | .str,_,_,q=>by simp only[ERc] at q ⊢;subst q;simp[V.freeze]
 | .list t,l,vs,q=>by
  obtain⟨tk,off,k,xs,h1,h2,h3,h4⟩:=q
  subst h1
  obtain⟨t',off',e1,e2,e3⟩:=freeze_tok (f:=f) (t:=tk) (off:=off) (q:=k) (xs:=xs)
  refine⟨t',off',k,xs.map (V.freeze f),by simp[e1],h2.tok e2,fun F ep e=>hN F (h3 F ep (e3 F ep e).1) (e3 F ep e).2,h4.upd2 fun a b r=>r.freeze fun cs r=>ERc.freeze hN t r⟩
 | .cons a b,x,vs,q=>by
  obtain⟨v1,v2,h1,h2,h3⟩:=q
  subst h1
  exact⟨_,_,List.map_append,ERc.freeze hN a h2,ERc.freeze hN b h3⟩
 | .agg a,x,vs,q=>ERc.freeze hN a (x:=x) q
end
end Go.Abs

namespace Go.Abs
open Go
structure XC where
 mu:Nat→Nat
 chi:Nat→Option Nat
 N:Nat→Prop
 rows:List SRow
 fams:List Fam
 flo:Nat
 nb:Nat
 yk:Option Nat
def XC.W (X:XC) (F:Nat):Prop:=∃f r,X.rows[f]? = some r∧r.wr=true∧X.chi f=some F
def XC.np (X:XC) (F:Nat):Prop:=X.N F∨(X.flo≤F∧F<X.fams.length∧¬X.W F)
def TokR (X:XC) (T:Ty):STok→Tok→Nat→Nat→List T.den→Prop
 | .ro,t,off,q,l=>LOk t q T.size l∧TokN X.np t
 | .clip,t,off,q,l=>t=.clip∧q=T.size∧off=0
 | .own f e z tip,t,off,q,l=>(z=true→off=0)∧∃r,X.rows[f]? = some r∧r.T=T∧e≤r.cur ∧
  (((t=.nil∨t=.clip∧q=T.size∧nbT T=true)∧l=[]∧(X.chi f=none∨e<r.cur)) ∨
   ∃F ep,t=.own F ep∧q=T.size∧X.chi f=some F∧(e=r.cur→∃g,X.fams[F]? = some g∧ep=g.ep∧(tip=true→off+l.length=g.tip)))
def TokE (X:XC) (T:Ty):STok→Tok→Nat→Nat→Prop
 | .ro,t,idx,m=>TokN X.np t
 | .clip,t,idx,m=>t=.clip
 | .own f e z tip,t,idx,m=>(z=true→idx=m)∧∃r,X.rows[f]? = some r∧r.T=T∧e≤r.cur ∧
  ∃F ep,t=.own F ep∧X.chi f=some F∧(e=r.cur→∃g,X.fams[F]? = some g∧ep=g.ep)
mutual
def Rel (X:XC):SV→V→Prop
 | .int k n,v=>v=.int k n
 | .bool b,v=>v=.bool b
 | .str s,v=>v=.str s
 | .list T tk l,v=>∃t off q xs,v=.list t off q xs∧TokR X T tk t off q l∧All2 (ERe X.np T) l xs
 | .nill,v=>∃q,v=.list .nil 0 q []
 | .agg cs,v=>∃vs,v=.agg vs∧RelL X cs vs
 | .tup cs,v=>∃vs,v=.tup vs∧RelL X cs vs
 | .ptr i o,v=>i<X.nb∧v=.ptr (X.mu i) o
 | .adr i o,v=>i<X.nb∧(v=.nilp∨v=.ptr (X.mu i) o)
 | .elem T tk m off x,v=>∃t idx e,v=.eptr t idx off e∧TokE X T tk t idx m∧ERe X.np T x e
 | .nilp,v=>v=.nilp
 | .func g a b,v=>∃va vb,v=.func (.func g) va vb∧RelL X a va∧RelL X b vb
 | .nilf,v=>v=.nilf
 | .iface t x,v=>∃w,v=.iface t w∧Rel X x w
 | .nili,v=>v=.nili
 | .mapr i,v=>i<X.nb∧v=.mapr (X.mu i)
 | .nilm,v=>v=.nilm
 | .yld,v=>∃k,X.yk=some k∧v=.func (.yield k) [] []
 | .any,_=>True
def RelL (X:XC):List SV→List V→Prop
 | [],vs=>vs=[]
 | x::xs,vs=>∃v vs',vs=v::vs'∧Rel X x v∧RelL X xs vs'
end
section
variable {X X':XC}
theorem RelL.len:∀{xs:List SV} {vs:List V},RelL X xs vs→xs.length=vs.length
 | [],vs,h=>by simp only[RelL] at h;subst h;rfl
 | x::xs,vs,h=>by
  obtain⟨v,vs',rfl,_,h2⟩:=h
  simp[RelL.len h2]
theorem RelL.get:∀{xs:List SV} {vs:List V} {i:Nat} {x:SV},RelL X xs vs→xs[i]? = some x→∃v,vs[i]? = some v∧Rel X x v
 | [],vs,i,x,h,hx=>by simp at hx
 | x::xs,vs,0,y,h,hx=>by
  obtain⟨v,vs',rfl,h1,h2⟩:=h
  simp at hx;subst hx
  exact⟨v,rfl,h1⟩
 | x::xs,vs,i+1,y,h,hx=>by
  obtain⟨v,vs',rfl,h1,h2⟩:=h
  simp at hx ⊢
  exact RelL.get h2 hx
theorem RelL.getD {xs:List SV} {vs:List V} (h:RelL X xs vs) (i:Nat):Rel X (xs.getD i .any) (vs.getD i .any):=by
 cases hx:xs[i]? with
 | none=>simp[List.getD_eq_getElem?_getD,hx,Rel]
 | some x =>
  obtain⟨v,h1,h2⟩:=h.get hx
  simpa[List.getD_eq_getElem?_getD,hx,h1] using h2
theorem RelL.set:∀{xs:List SV} {vs:List V} (i:Nat) {x:SV} {v:V},RelL X xs vs→Rel X x v→RelL X (xs.set i x) (vs.set i v)
 | [],vs,i,x,v,h,hx=>by simp only[RelL] at h;subst h;simp[RelL]
 | x::xs,vs,0,y,w,h,hx=>by
  obtain⟨v,vs',rfl,h1,h2⟩:=h
  exact⟨_,_,rfl,hx,h2⟩
 | x::xs,vs,i+1,y,w,h,hx=>by
  obtain⟨v,vs',rfl,h1,h2⟩:=h
  exact⟨_,_,rfl,h1,RelL.set i h2 hx⟩
theorem RelL.app:∀{xs ys:List SV} {vs ws:List V},RelL X xs vs→RelL X ys ws→RelL X (xs++ys) (vs++ws)
 | [],ys,vs,ws,h,h2=>by simp only[RelL] at h;subst h;exact h2
 | x::xs,ys,vs,ws,h,h2=>by
  obtain⟨v,vs',rfl,h1,h3⟩:=h
  exact⟨_,_,rfl,h1,RelL.app h3 h2⟩
theorem RelL.take:∀{xs:List SV} {vs:List V} (n:Nat),RelL X xs vs→RelL X (xs.take n) (vs.take n)
 | [],vs,n,h=>by simp only[RelL] at h;subst h;simp[RelL]
 | x::xs,vs,0,h=>by simp[RelL]
 | x::xs,vs,n+1,h=>by
  obtain⟨v,vs',rfl,h1,h2⟩:=h
  exact⟨_,_,rfl,h1,RelL.take n h2⟩
theorem RelL.drop:∀{xs:List SV} {vs:List V} (n:Nat),RelL X xs vs→RelL X (xs.drop n) (vs.drop n)
 | [],vs,n,h=>by simp only[RelL] at h;subst h;simp[RelL]
 | x::xs,vs,0,h=>h
 | x::xs,vs,n+1,h=>by
  obtain⟨v,vs',rfl,h1,h2⟩:=h
  exact RelL.drop n h2
theorem RelL.rep {x:SV} {v:V} (h:Rel X x v):∀n:Nat,RelL X (List.replicate n x) (List.replicate n v)
 | 0=>rfl
 | n+1=>⟨_,_,rfl,h,RelL.rep h n⟩
theorem RelL.one {x:SV} {v:V} (h:Rel X x v):RelL X [x] [v]:=⟨_,_,rfl,h,rfl⟩
theorem RelL.spliced {xs ys:List SV} {vs ws:List V} (h:RelL X xs vs) (h2:RelL X ys ws) (off:Nat):RelL X (ssplice xs off ys) (Go.Abs.splice vs off ws):=by
 unfold ssplice Go.Abs.splice
 rw[h2.len]
 exact ((h.take off).app h2).app (h.drop _)
theorem RelL.map {α:Type} {f:α→SV} {g:α→V} (h:∀a,Rel X (f a) (g a)):∀l:List α,RelL X (l.map f) (l.map g)
 | []=>rfl
 | a::l=>⟨_,_,rfl,h a,RelL.map h l⟩
theorem Rel.flat {x:SV} {v:V} (h:Rel X x v) {cs:List SV} (hf:x.flat=some cs):∃vs,v.flat=some vs∧RelL X cs vs:=by
 cases x with
 | any=>simp[SV.flat] at hf
 | tup=>simp[SV.flat] at hf
 | yld=>simp[SV.flat] at hf
 | agg c =>
  simp only[SV.flat,Option.some.injEq] at hf;subst hf
  obtain⟨vs,rfl,h2⟩:=h
  exact⟨vs,rfl,h2⟩
 | adr i o =>
  simp only[SV.flat,Option.some.injEq] at hf;subst hf
  refine⟨[v],?_,RelL.one h⟩
  obtain⟨_,rfl | rfl⟩:=h
  · rfl
  · rfl
 | _ =>
  simp only[SV.flat,Option.some.injEq] at hf;subst hf
  refine⟨[v],?_,RelL.one h⟩
  first
   | (obtain rfl:=h;rfl)
   | (obtain⟨_,_,_,_,rfl,_⟩:=h;rfl)
   | (obtain⟨_,_,_,rfl,_⟩:=h;rfl)
   | (obtain⟨_,_,rfl,_⟩:=h;rfl)
   | (obtain⟨_,rfl,_⟩:=h;rfl)
   | (obtain⟨_,rfl⟩:=h;rfl)
structure Stay (X X':XC) (ks' ks:List Nat):Prop where
 np:∀F,X.np F→X'.np F
 dead:∀F∈ks,¬X.np F
 nb:X.nb≤X'.nb
 mu:∀i,i<X.nb→X'.mu i=X.mu i
 rows:∀f r,X.rows[f]? = some r→f ∉ ks'→∃r',X'.rows[f]? = some r'∧r'.T=r.T∧r.cur≤r'.cur∧(X'.chi f=X.chi f∨(X.chi f=none∧r.cur<r'.cur)) ∧
  (r'.cur=r.cur→∀F g,X.chi f=some F→X.fams[F]? = some g→∃g',X'.fams[F]? = some g'∧g'.ep=g.ep∧g'.tip=g.tip)
 kill:∀f r F,X.rows[f]? = some r→X.chi f=some F→f ∉ ks'→F ∉ ks
 yk:X'.yk=X.yk
variable {ks' ks:List Nat}
theorem Stay.tokR (S:Stay X X' ks' ks) {T:Ty} {f e:Nat} {z tip:Bool} {t:Tok} {off q:Nat} {l:List T.den} (hf:f ∉ ks') (h:TokR X T (.own f e z tip) t off q l) :
 TokR X' T (.own f e z tip) t off q l∧∀F ep,t=.own F ep→F ∉ ks:=by
 obtain⟨h0,r,h1,h2,h3,h4⟩:=h
 obtain⟨r',g1,g2,g3,g4,g5⟩:=S.rows f r h1 hf
 refine⟨⟨h0,r',g1,g2.trans h2,Nat.le_trans h3 g3,?_⟩,?_⟩
 · rcases h4 with ⟨a,b,c⟩ | ⟨F,ep,a,b,c,d⟩
   · refine .inl ⟨a,b,?_⟩
     rcases c with c | c
     · rcases g4 with g4 | ⟨_,g4⟩
       · exact .inl (g4.trans c)
       · exact .inr (by omega)
     · exact .inr (by omega)
   · refine .inr ⟨F,ep,a,b,?_,fun he=>?_⟩
     · rcases g4 with g4 | ⟨g4,_⟩
       · exact g4.trans c
       · rw[c] at g4;simp at g4
     · have hc:r'.cur=r.cur:=by omega
       obtain⟨g,d1,d2,d3⟩:=d (by omega)
       obtain⟨g',e1,e2,e3⟩:=g5 hc F g c d1
       exact⟨g',e1,by rw[e2];exact d2,fun ht=>by rw[e3];exact d3 ht⟩
 · rintro F ep rfl
   rcases h4 with ⟨a,_⟩ | ⟨F',ep',a,b,c,d⟩
   · simp at a
   · cases a
     exact S.kill f r F h1 c hf
theorem Stay.tokE (S:Stay X X' ks' ks) {T:Ty} {f e:Nat} {z tip:Bool} {t:Tok} {idx m:Nat} (hf:f ∉ ks') (h:TokE X T (.own f e z tip) t idx m) :
 TokE X' T (.own f e z tip) t idx m∧∀F ep,t=.own F ep→F ∉ ks:=by
 obtain⟨h0,r,h1,h2,h3,h4⟩:=h
 obtain⟨r',g1,g2,g3,g4,g5⟩:=S.rows f r h1 hf
 refine⟨⟨h0,r',g1,g2.trans h2,Nat.le_trans h3 g3,?_⟩,?_⟩
 · obtain⟨F,ep,a,c,d⟩:=h4
   · refine⟨F,ep,a,?_,fun he=>?_⟩
     · rcases g4 with g4 | ⟨g4,_⟩
       · exact g4.trans c
       · rw[c] at g4;simp at g4
     · have hc:r'.cur=r.cur:=by omega
       obtain⟨g,d1,d2⟩:=d (by omega)
       obtain⟨g',e1,e2,e3⟩:=g5 hc F g c d1
       exact⟨g',e1,by rw[e2];exact d2⟩
 · rintro F ep rfl
   obtain⟨F',ep',a,c,d⟩:=h4
   · cases a
     exact S.kill f r F h1 c hf
theorem kill_list' {t:Tok} {off q:Nat} {xs:List V} (h:∀F ep,t=.own F ep→F ∉ ks):V.kill ks (.list t off q xs)=.list t off q (xs.map (V.kill ks)):=by
 cases t with
 | own F ep=>simp[V.kill,h F ep rfl,kills_map]
 | _=>simp[V.kill,kills_map]
theorem kill_eptr' {t:Tok} {idx off:Nat} {e:V} (h:∀F ep,t=.own F ep→F ∉ ks):V.kill ks (.eptr t idx off e)=.eptr t idx off (V.kill ks e):=by
 cases t with
 | own F ep=>simp[V.kill,h F ep rfl]
 | _=>simp[V.kill]
mutual
theorem Rel.stay (S:Stay X X' ks' ks):∀{x:SV} {v:V},Rel X x v→Rel X' (x.kill ks') (v.kill ks)
 | .int k n,v,h=>by simp only[Rel] at h;subst h;simp[SV.kill,V.kill,Rel]
 | .bool b,v,h=>by simp only[Rel] at h;subst h;simp[SV.kill,V.kill,Rel]
 | .str s,v,h=>by simp only[Rel] at h;subst h;simp[SV.kill,V.kill,Rel]
 | .list T tk l,v,h=>by
  obtain⟨t,off,q,xs,rfl,h1,h2⟩:=h
  have hx:xs.map (V.kill ks)=xs:=h2.fix fun a b r=>ERe.fix (inert_kill S.dead) r
  have h2':All2 (ERe X'.np T) l xs:=h2.mono fun a b r=>r.mono S.np
  cases tk with
  | ro =>
   rw[kill_list' fun F ep e=>fun hm=>S.dead F hm (h1.2 F ep e),hx]
   exact⟨t,off,q,xs,rfl,⟨h1.1,h1.2.mono S.np⟩,h2'⟩
  | clip =>
   obtain⟨rfl,h1⟩:=h1
   rw[kill_list' (by simp),hx]
   exact⟨_,off,q,xs,rfl,⟨rfl,h1⟩,h2'⟩
  | own f e z tip =>
   by_cases hf:f∈ks'
   · simp[SV.kill,hf,Rel]
   · obtain⟨a,b⟩:=S.tokR hf h1
     rw[kill_list' b,hx]
     simp only[SV.kill,List.contains_eq_mem,hf,decide_false,Bool.false_eq_true,if_false]
     exact⟨t,off,q,xs,rfl,a,h2'⟩
 | .nill,v,h=>by
  obtain⟨q,rfl⟩:=h
  exact⟨q,by simp[V.kill,kills_map]⟩
 | .agg cs,v,h=>by
  obtain⟨vs,rfl,h⟩:=h
  exact⟨_,by simp[V.kill],RelL.stay S h⟩
 | .tup cs,v,h=>by
  obtain⟨vs,rfl,h⟩:=h
  exact⟨_,by simp[V.kill],RelL.stay S h⟩
 | .ptr i o,v,h=>by
  obtain⟨h1,rfl⟩:=h
  exact⟨Nat.lt_of_lt_of_le h1 S.nb,by simp[V.kill,S.mu i h1]⟩
 | .adr i o,v,h=>by
  obtain⟨h1,rfl | rfl⟩:=h
  · exact⟨Nat.lt_of_lt_of_le h1 S.nb,by simp[V.kill]⟩
  · exact⟨Nat.lt_of_lt_of_le h1 S.nb,by simp[V.kill,S.mu i h1]⟩
 | .elem T tk m off x,v,h=>by
  obtain⟨t,idx,e0,rfl,h1,h2⟩:=h
  have hx:V.kill ks e0=e0:=ERe.fix (inert_kill S.dead) h2
  have h2':ERe X'.np T x e0:=h2.mono S.np
  cases tk with
  | ro =>
   rw[kill_eptr' fun F ep e=>fun hm=>S.dead F hm (h1 F ep e),hx]
   exact⟨t,idx,e0,rfl,TokN.mono S.np h1,h2'⟩
  | clip =>
   obtain rfl:=h1
   rw[kill_eptr' (by simp),hx]
   exact⟨_,idx,e0,rfl,rfl,h2'⟩
  | own f e z tip =>
   by_cases hf:f∈ks'
   · simp[SV.kill,hf,Rel]
   · obtain⟨a,b⟩:=S.tokE hf h1
     rw[kill_eptr' b,hx]
     simp only[SV.kill,List.contains_eq_mem,hf,decide_false,Bool.false_eq_true,if_false]
     exact⟨t,idx,e0,rfl,a,h2'⟩
 | .nilp,v,h=>by simp only[Rel] at h;subst h;simp[SV.kill,V.kill,Rel]
 | .func g a b,v,h=>by
  obtain⟨va,vb,rfl,h1,h2⟩:=h
  exact⟨_,_,by simp[V.kill],RelL.stay S h1,RelL.stay S h2⟩
 | .nilf,v,h=>by simp only[Rel] at h;subst h;simp[SV.kill,V.kill,Rel]
 | .iface t x,v,h=>by
  obtain⟨w,rfl,h⟩:=h
  exact⟨_,by simp[V.kill],Rel.stay S h⟩
 | .nili,v,h=>by simp only[Rel] at h;subst h;simp[SV.kill,V.kill,Rel]
 | .mapr i,v,h=>by
  obtain⟨h1,rfl⟩:=h
  exact⟨Nat.lt_of_lt_of_le h1 S.nb,by simp[V.kill,S.mu i h1]⟩
 | .nilm,v,h=>by simp only[Rel] at h;subst h;simp[SV.kill,V.kill,Rel]
 | .yld,v,h=>by
  obtain⟨k,h1,rfl⟩:=h
  exact⟨k,S.yk.trans h1,by simp[V.kill,V.kills]⟩
 | .any,v,h=>by simp[SV.kill,Rel]
theorem RelL.stay (S:Stay X X' ks' ks):∀{xs:List SV} {vs:List V},RelL X xs vs→RelL X' (SV.killL ks' xs) (V.kills ks vs)
 | [],vs,h=>by simp only[RelL] at h;subst h;simp[SV.killL,V.kills,RelL]
 | x::xs,vs,h=>by
  obtain⟨v,vs',rfl,h1,h2⟩:=h
  exact⟨_,_,by simp[V.kills],Rel.stay S h1,RelL.stay S h2⟩
end
mutual
theorem skill_nil:∀x:SV,x.kill []=x
 | .int .. | .bool _ | .str _ | .nill | .ptr .. | .adr .. | .nilp | .nilf | .nili | .mapr _ | .nilm | .yld | .any=>by simp[SV.kill]
 | .list T tk l=>by cases tk<;>simp[SV.kill]
 | .elem T tk m off x=>by cases tk<;>simp[SV.kill]
 | .agg cs=>by simp[SV.kill,skillL_nil cs]
 | .tup cs=>by simp[SV.kill,skillL_nil cs]
 | .func g a b=>by simp[SV.kill,skillL_nil a,skillL_nil b]
 | .iface t v=>by simp[SV.kill,skill_nil v]
theorem skillL_nil:∀xs:List SV,SV.killL [] xs=xs
 | []=>by simp[SV.killL]
 | x::xs=>by simp[SV.killL,skill_nil x,skillL_nil xs]
end
theorem Rel.stay0 (S:Stay X X' [] []) {x:SV} {v:V} (h:Rel X x v):Rel X' x v:=by
 have:=h.stay S
 rwa [skill_nil,kill_nil] at this
theorem RelL.stay0 (S:Stay X X' [] []) {xs:List SV} {vs:List V} (h:RelL X xs vs):RelL X' xs vs:=by
 have:=h.stay S
 rwa [skillL_nil,kills_nil] at this
theorem skillAll_eq (ks:List Nat) (s:List SV):skillAll ks s=SV.killL ks s:=by
 cases ks with
 | nil=>simp[skillAll,skillL_nil]
 | cons k ks=>rfl
theorem killAll_eq (ks:List Nat) (s:List V):killAll ks s=V.kills ks s:=by
 cases ks with
 | nil=>simp[killAll,kills_nil]
 | cons k ks=>rfl
end
end Go.Abs

namespace Go.Abs
open Go
structure XI (X:XC):Prop where
 rows:∀f r F,X.rows[f]? = some r→X.chi f=some F→∃g,X.fams[F]? = some g∧X.flo≤F∧g.sz=r.T.size∧g.ty=r.ty∧(r.wr=true→g.wr=true)∧g.wr=r.made∧(g.wr=false→0<g.tip)
 inj:∀f f' r r' F,X.rows[f]? = some r→X.rows[f']? = some r'→X.chi f=some F→X.chi f'=some F→f=f'
 nwr:∀f r,X.rows[f]? = some r→X.chi f=none→r.wr=true→r.made=true
 nmk:∀f r,X.rows[f]? = some r→X.chi f=none→r.made=nbT r.T
 nlo:∀F,X.N F→F<X.flo
 flo:X.flo≤X.fams.length
section
variable {X:XC}
theorem XI.w_np (I:XI X) {F:Nat} (h:X.W F):¬X.np F:=by
 obtain⟨f,r,h1,h2,h3⟩:=h
 obtain⟨g,h4,h5,_⟩:=I.rows f r F h1 h3
 rintro (h6 | ⟨_,_,h6⟩)
 · have:=I.nlo F h6;omega
 · exact h6 ⟨f,r,h1,h2,h3⟩
theorem XI.new_np (I:XI X) {F:Nat} (h:X.fams.length≤F):¬X.np F:=by
 have:=I.flo
 rintro (h6 | ⟨_,h7,_⟩)
 · have:=I.nlo F h6;omega
 · omega
def Ret (X:XC) (f:Nat):Prop:=∀r,X.rows[f]? = some r→r.wr=false
theorem XI.ret_np (I:XI X) {f F:Nat} {r:SRow} (hr:X.rows[f]? = some r) (hc:X.chi f=some F) (h:Ret X f):X.np F:=by
 obtain⟨g,h4,h5,_⟩:=I.rows f r F hr hc
 refine .inr ⟨h5,(List.getElem?_eq_some_iff.1 h4).1,?_⟩
 rintro⟨f',r',h1,h2,h3⟩
 obtain rfl:=I.inj f f' r r' F hr h1 hc h3
 rw[h r' h1] at h2
 simp at h2
theorem cells_rel:∀(T:Ty) {x:T.den} {vs:List V},ERc X.np T x vs→RelL X (T.cells x) vs
 | .unit,_,_,q=>by simp only[ERc] at q;subst q;rfl
 | .int _,_,_,q=>by simp only[ERc] at q;subst q;exact RelL.one rfl
 | .bool,_,_,q=>by simp only[ERc] at q;subst q;exact RelL.one rfl
 | .str,_,_,q=>by simp only[ERc] at q;subst q;exact RelL.one rfl
 | .list t,l,vs,q=>by
  obtain⟨tk,off,k,xs,rfl,h2,h3,h4⟩:=q
  exact RelL.one ⟨tk,off,k,xs,rfl,⟨h2,h3⟩,h4⟩
 | .cons a b,x,vs,q=>by
  obtain⟨v1,v2,rfl,h2,h3⟩:=q
  exact (cells_rel a h2).app (cells_rel b h3)
 | .agg a,x,vs,q=>cells_rel a (x:=x) q
theorem sv_rel:∀(T:Ty) {x:T.den} {v:V},ERe X.np T x v→Rel X (T.sv x) v
 | .unit,_,_,q=>trivial
 | .cons _ _,_,_,q=>trivial
 | .int _,_,_,⟨cs,h1,h2⟩=>by simp only[ERc] at h1;subst h1;simp[Ty.isAgg] at h2;subst h2;rfl
 | .bool,_,_,⟨cs,h1,h2⟩=>by simp only[ERc] at h1;subst h1;simp[Ty.isAgg] at h2;subst h2;rfl
 | .str,_,_,⟨cs,h1,h2⟩=>by simp only[ERc] at h1;subst h1;simp[Ty.isAgg] at h2;subst h2;rfl
 | .list t,l,v,⟨cs,h1,h2⟩=>by
  obtain⟨tk,off,k,xs,rfl,h2',h3,h4⟩:=h1
  simp[Ty.isAgg] at h2;subst h2
  exact⟨tk,off,k,xs,rfl,⟨h2',h3⟩,h4⟩
 | .agg a,x,v,⟨cs,h1,h2⟩=>by
  simp only[Ty.isAgg,if_true] at h2;subst h2
  exact⟨cs,rfl,cells_rel a (x:=x) h1⟩
theorem toksL_cons {x:SV} {xs:List SV}:SV.toksL (x::xs)=x.toks++SV.toksL xs:=by simp[SV.toksL]
def DR (N:Nat→Prop) (T:Ty) (y:T.den) (vs:List V):Prop:=if T.isAgg=true then ∃cs,vs=[.agg cs]∧ERc N T y cs else ERc N T y vs
theorem dec_rel (I:XI X):∀(T:Ty) {xs:List SV} {vs:List V} {y:T.den} {r:List SV},T.dec xs=some (y,r)→RelL X xs vs→(∀f∈SV.toksL xs,Ret X f) →
 ∃v1 v2,vs=v1++v2∧DR X.np T y v1∧RelL X r v2∧(∀f∈SV.toksL r,Ret X f)
 | .unit,xs,vs,y,r,hd,h,ht=>by
  simp only[Ty.dec,Option.some.injEq,Prod.mk.injEq] at hd
  obtain⟨_,rfl⟩:=hd
  exact⟨[],vs,rfl,by simp[DR,Ty.isAgg,ERc],h,ht⟩
 | .int k,xs,vs,y,r,hd,h,ht=>by
  unfold Ty.dec at hd
  split at hd
  · split at hd
    · simp only[Option.some.injEq,Prod.mk.injEq] at hd
      obtain⟨rfl,rfl⟩:=hd
      rename_i hk;subst hk
      obtain⟨v,vs',rfl,h1,h2⟩:=h
      exact⟨[v],vs',rfl,by simp only[Rel] at h1;simp[DR,Ty.isAgg,ERc,h1],h2,fun f hf=>ht f (by rw[toksL_cons];simp[hf])⟩
    · simp at hd
  · simp at hd
 | .bool,xs,vs,y,r,hd,h,ht=>by
  unfold Ty.dec at hd
  split at hd
  · simp only[Option.some.injEq,Prod.mk.injEq] at hd
    obtain⟨rfl,rfl⟩:=hd
    obtain⟨v,vs',rfl,h1,h2⟩:=h
    exact⟨[v],vs',rfl,by simp only[Rel] at h1;simp[DR,Ty.isAgg,ERc,h1],h2,fun f hf=>ht f (by rw[toksL_cons];simp[hf])⟩
  · simp at hd
 | .str,xs,vs,y,r,hd,h,ht=>by
  unfold Ty.dec at hd
  split at hd
  · simp only[Option.some.injEq,Prod.mk.injEq] at hd
    obtain⟨rfl,rfl⟩:=hd
    obtain⟨v,vs',rfl,h1,h2⟩:=h
    exact⟨[v],vs',rfl,by simp only[Rel] at h1;simp[DR,Ty.isAgg,ERc,h1],h2,fun f hf=>ht f (by rw[toksL_cons];simp[hf])⟩
  · simp at hd
 | .list t,xs,vs,y,r,hd,h,ht=>by
  unfold Ty.dec at hd
  split at hd
  · simp only[Option.some.injEq,Prod.mk.injEq] at hd
    obtain⟨rfl,rfl⟩:=hd
    obtain⟨v,vs',rfl,⟨q,rfl⟩,h2⟩:=h
    exact⟨_,vs',rfl,by simp only[DR,Ty.isAgg,Bool.false_eq_true,if_false];exact⟨.nil,0,q,[],rfl,.inl ⟨rfl,rfl⟩,by intro F ep e;simp at e,trivial⟩,h2,fun f hf=>ht f (by rw[toksL_cons];simp[hf])⟩
  · rename_i t' tk l r0
    split at hd
    · simp only[Option.some.injEq,Prod.mk.injEq] at hd
      obtain⟨rfl,rfl⟩:=hd
      rename_i ht';subst ht'
      obtain⟨v,vs',rfl,⟨t0,off,q,xs0,rfl,h1,h3⟩,h2⟩:=h
      refine⟨[_],vs',rfl,?_,h2,fun f hf=>ht f (by rw[toksL_cons];simp[hf])⟩
      simp only[DR,Ty.isAgg,Bool.false_eq_true,if_false]
      refine⟨t0,off,q,xs0,rfl,?_,?_,h3⟩
      · cases tk with
        | ro=>exact h1.1
        | clip=>exact .inr ⟨by rw[h1.1];simp,h1.2.1⟩
        | own f e z tip =>
         obtain⟨_,r,_,_,_,h4⟩:=h1
         rcases h4 with ⟨a | ⟨a,a2⟩,b,_⟩ | ⟨F,ep,a,b,_⟩
         · exact .inl ⟨a,b⟩
         · exact .inr ⟨by rw[a];simp,a2.1⟩
         · exact .inr ⟨by rw[a];simp,b⟩
      · cases tk with
        | ro=>exact h1.2
        | clip=>intro F ep e;rw[h1.1] at e;simp at e
        | own f e z tip =>
         obtain⟨_,r,hr,_,_,h4⟩:=h1
         have hret:Ret X f:=ht f (by rw[toksL_cons];simp[SV.toks])
         rcases h4 with ⟨a | ⟨a,a2⟩,b,_⟩ | ⟨F,ep,a,b,c,_⟩
         · intro F ep e;rw[a] at e;simp at e
         · intro F ep e;rw[a] at e;simp at e
         · intro F' ep' e;rw[a] at e;cases e;exact I.ret_np hr c hret
    · simp at hd
  · simp at hd
 | .cons a b,xs,vs,y,r,hd,h,ht=>by
  unfold Ty.dec at hd
  split at hd
  · simp at hd
  · rename_i hab
    have ha:a.isAgg=false:=by cases hq:a.isAgg<;>simp[hq] at hab ⊢
    have hb:b.isAgg=false:=by cases hq:b.isAgg<;>simp[hq] at hab ⊢
    split at hd
    · rename_i x r1 h1
      split at hd
      · rename_i z r2 h2
        simp only[Option.some.injEq,Prod.mk.injEq] at hd
        obtain⟨rfl,rfl⟩:=hd
        obtain⟨v1,v2,rfl,d1,h3,ht3⟩:=dec_rel I a h1 h ht
        obtain⟨v3,v4,rfl,d2,h4,ht4⟩:=dec_rel I b h2 h3 ht3
        refine⟨v1++v3,v4,by simp,?_,h4,ht4⟩
        simp only[DR,ha,hb,Bool.false_eq_true,if_false] at d1 d2
        simp only[DR,Ty.isAgg,Bool.false_eq_true,if_false]
        exact⟨v1,v3,rfl,d1,d2⟩
      · simp at hd
    · simp at hd
 | .agg a,xs,vs,y,r,hd,h,ht=>by
  unfold Ty.dec at hd
  split at hd
  · rename_i cs r0
    split at hd
    · simp at hd
    · rename_i ha
      split at hd
      · rename_i x h1
        simp only[Option.some.injEq,Prod.mk.injEq] at hd
        obtain⟨rfl,rfl⟩:=hd
        obtain⟨v,vs',rfl,⟨vc,rfl,h3⟩,h2⟩:=h
        obtain⟨v1,v2,rfl,d1,h4,_⟩:=dec_rel I a h1 h3 (fun f hf=>ht f (by rw[toksL_cons];simp[SV.toks,hf]))
        simp only[RelL] at h4;subst h4
        refine⟨[_],vs',rfl,?_,h2,fun f hf=>ht f (by rw[toksL_cons];simp[hf])⟩
        simp only[DR,ha,Bool.false_eq_true,if_false] at d1
        simp only[DR,Ty.isAgg,if_true]
        exact⟨v1,by simp,d1⟩
      · simp at hd
  · simp at hd
theorem decV_rel (I:XI X) {T:Ty} {x:SV} {v:V} {y:T.den} (hd:decV T x=some y) (h:Rel X x v) (ht:∀f∈x.toks,Ret X f):ERe X.np T y v:=by
 unfold decV at hd
 split at hd
 · rename_i z h1
   simp only[Option.some.injEq] at hd;subst hd
   obtain⟨v1,v2,h2,d1,h4,_⟩:=dec_rel I T h1 (RelL.one h) (by simpa[toksL_cons,SV.toksL] using ht)
   simp only[RelL] at h4;subst h4
   simp only[List.append_nil] at h2
   subst h2
   unfold DR at d1
   split at d1
   · rename_i ha
     obtain⟨cs,e,d1⟩:=d1
     simp only[List.cons.injEq,and_true] at e
     exact⟨cs,d1,by simp[ha,e]⟩
   · rename_i ha
     exact⟨[v],d1,by simp[ha]⟩
 · simp at hd
theorem decE_rel (I:XI X):∀{T:Ty} {xs:List SV} {vs:List V} {y:T.den},decE T xs=some y→RelL X xs vs→(∀f∈SV.toksL xs,Ret X f)→ERc X.np T y vs:=by
 intro T xs vs y hd h ht
 have key:∀{T:Ty},T.isAgg=false→∀{y:T.den},(match T.dec xs with | some (x,[])=>some x | _=>none)=some y→ERc X.np T y vs:=by
  intro T hT y hd
  split at hd
  · rename_i z h1
    simp only[Option.some.injEq] at hd;subst hd
    obtain⟨v1,v2,h2,d1,h4,_⟩:=dec_rel I T h1 h ht
    simp only[RelL] at h4;subst h4
    simp only[List.append_nil] at h2
    subst h2
    simpa[DR,hT] using d1
  · simp at hd
 cases T with
 | agg a =>
  simp only[decE] at hd
  split at hd
  · simp at hd
  · rename_i ha
    exact key (T:=a) (by simpa using ha) hd
 | _=>exact key rfl hd
def EL (N:Nat→Prop):(Ts:List Ty)→HL Ts→List V→Prop
 | [],_,vs=>vs=[]
 | [T],x,vs=>∃v,vs=[v]∧ERe N T x v
 | T::U::r,x,vs=>∃v vs',vs=v::vs'∧ERe N T x.1 v∧EL N (U::r) x.2 vs'
theorem EL.mono {N N':Nat→Prop} (hN:∀F,N F→N' F):∀{Ts:List Ty} {x:HL Ts} {vs:List V},EL N Ts x vs→EL N' Ts x vs
 | [],_,_,h=>h
 | [T],_,_,h=>by obtain⟨v,rfl,h⟩:=h;exact⟨v,rfl,h.mono hN⟩
 | T::U::r,_,_,h=>by obtain⟨v,vs',rfl,h,h2⟩:=h;exact⟨v,vs',rfl,h.mono hN,EL.mono hN h2⟩
theorem EL.len {N:Nat→Prop}:∀{Ts:List Ty} {x:HL Ts} {vs:List V},EL N Ts x vs→vs.length=Ts.length
 | [],_,_,h=>by simp only[EL] at h;subst h;rfl
 | [T],_,_,h=>by obtain⟨v,rfl,h⟩:=h;rfl
 | T::U::r,_,_,h=>by obtain⟨v,vs',rfl,h,h2⟩:=h;simp[EL.len h2]
theorem EL.freeze {N N':Nat→Prop} {f:Nat} (hN:∀F,N F→F<f→N' F):∀{Ts:List Ty} {x:HL Ts} {vs:List V},EL N Ts x vs→EL N' Ts x (vs.map (V.freeze f))
 | [],_,_,h=>by simp only[EL] at h ⊢;subst h;rfl
 | [T],_,_,h=>by obtain⟨v,rfl,h⟩:=h;exact⟨_,rfl,h.freeze fun cs q=>ERc.freeze hN T q⟩
 | T::U::r,_,_,h=>by obtain⟨v,vs',rfl,h,h2⟩:=h;exact⟨_,_,rfl,h.freeze fun cs q=>ERc.freeze hN T q,EL.freeze hN h2⟩
theorem EL.under {N:Nat→Prop} {h:Nat}:∀{Ts:List Ty} {x:HL Ts} {vs:List V},EL N Ts x vs→vs.all (V.under h)=true
 | [],_,_,q=>by simp only[EL] at q;subst q;rfl
 | [T],_,_,q=>by obtain⟨v,rfl,q⟩:=q;simp[ERe.holds holds_under q]
 | T::U::r,_,_,q=>by obtain⟨v,vs',rfl,q,q2⟩:=q;simp only[List.all_cons,ERe.holds holds_under q,EL.under q2,Bool.and_self]
theorem EL.svL:∀{Ts:List Ty} {x:HL Ts} {vs:List V},EL X.np Ts x vs→RelL X (svL Ts x) vs
 | [],_,_,h=>h
 | [T],_,_,h=>by obtain⟨v,rfl,h⟩:=h;exact RelL.one (sv_rel T h)
 | T::U::r,_,_,h=>by obtain⟨v,vs',rfl,h,h2⟩:=h;exact⟨_,_,rfl,sv_rel T h,EL.svL h2⟩
theorem decL_rel (I:XI X):∀{Ts:List Ty} {xs:List SV} {vs:List V} {y:HL Ts},decL Ts xs=some y→RelL X xs vs→(∀f∈SV.toksL xs,Ret X f)→EL X.np Ts y vs:=by
 intro Ts
 induction Ts with
 | nil =>
  intro xs vs y hd h ht
  cases xs with
  | nil=>exact h
  | cons x xs=>simp[decL] at hd
 | cons T r ih =>
  intro xs vs y hd h ht
  cases r with
  | nil =>
   match xs,h,ht,hd with
   | [],h,ht,hd=>simp[decL] at hd
   | [x],⟨v,vs',e,h1,h2⟩,ht,hd =>
    simp only[RelL] at h2;subst h2;subst e
    exact⟨v,rfl,decV_rel I hd h1 (by simpa[toksL_cons,SV.toksL] using ht)⟩
   | x::x2::xs,h,ht,hd=>simp[decL] at hd
  | cons U r =>
   cases xs with
   | nil=>simp[decL] at hd
   | cons x xs =>
    obtain⟨v,vs',rfl,h1,h2⟩:=h
    simp only[decL] at hd
    split at hd
    · rename_i a b ha hb
      simp only[Option.some.injEq] at hd;subst hd
      exact⟨v,vs',rfl,decV_rel I ha h1 (fun f hf=>ht f (by rw[toksL_cons];simp[hf])),ih hb h2 (fun f hf=>ht f (by rw[toksL_cons];simp[hf]))⟩
    · simp at hd
theorem decEs_rel (I:XI X) {T:Ty}:∀{xs:List SV} {vs:List V} {l:List T.den},decEs T xs=some l→RelL X xs vs→(∀f∈SV.toksL xs,Ret X f)→All2 (ERe X.np T) l vs
 | [],vs,l,hd,h,ht=>by
  simp only[decEs,Option.some.injEq] at hd;subst hd
  simp only[RelL] at h;subst h;trivial
 | x::xs,vs,l,hd,h,ht=>by
  obtain⟨v,vs',rfl,h1,h2⟩:=h
  simp only[decEs] at hd
  split at hd
  · rename_i a b ha hb
    simp only[Option.some.injEq] at hd;subst hd
    exact⟨decV_rel I ha h1 (fun f hf=>ht f (by rw[toksL_cons];simp[hf])),decEs_rel I hb h2 (fun f hf=>ht f (by rw[toksL_cons];simp[hf]))⟩
  · simp at hd
section
variable {f F m:Nat} {r:SRow} {g:Fam} {e':V}
theorem upd_list_ne {ep:Nat} {t:Tok} {off q:Nat} {xs:List V} (h:∀G ep',t=.own G ep'→G≠F):V.upd F ep m e' (.list t off q xs)=.list t off q (xs.map (V.upd F ep m e')):=by
 cases t with
 | own G ep'=>simp[V.upd,h G ep' rfl,upds_map]
 | _=>simp[V.upd,upds_map]
theorem upd_eptr_ne {ep:Nat} {t:Tok} {idx off:Nat} {e:V} (h:∀G ep',t=.own G ep'→G≠F):V.upd F ep m e' (.eptr t idx off e)=.eptr t idx off (V.upd F ep m e' e):=by
 cases t with
 | own G ep'=>simp[V.upd,h G ep' rfl]
 | _=>simp[V.upd]
variable (I:XI X) (hr:X.rows[f]? = some r) (hc:X.chi f=some F) (hg:X.fams[F]? = some g) (hW:¬X.np F) {y:r.T.den} (hy:ERe X.np r.T y e')
include I hr hc hg hW hy
mutual
theorem Rel.upd:∀{x:SV} {v:V},Rel X x v→Rel X (x.upd f r.cur m r.T y) (V.upd F g.ep m e' v)
 | .int k n,v,h=>by simp only[Rel] at h;subst h;simp[SV.upd,V.upd,Rel]
 | .bool b,v,h=>by simp only[Rel] at h;subst h;simp[SV.upd,V.upd,Rel]
 | .str s,v,h=>by simp only[Rel] at h;subst h;simp[SV.upd,V.upd,Rel]
 | .list T tk l,v,h=>by
  obtain⟨t,off,q,xs,rfl,h1,h2⟩:=h
  have hx:xs.map (V.upd F g.ep m e')=xs:=h2.fix fun a b r=>ERe.fix (inert_upd hW) r
  cases tk with
  | ro =>
   rw[upd_list_ne (F:=F) (fun G ep' e eq=>hW (eq▸h1.2 G ep' e)),hx]
   exact⟨t,off,q,xs,rfl,h1,h2⟩
  | clip =>
   obtain⟨rfl,h1⟩:=h1
   rw[upd_list_ne (by simp),hx]
   exact⟨_,off,q,xs,rfl,⟨rfl,h1⟩,h2⟩
  | own f' e z tip =>
   by_cases hf:f'=f
   · subst hf
     obtain⟨h0,r',hr',hT,hle,h4⟩:=h1
     rw[hr] at hr';cases hr'
     subst hT
     simp only[SV.upd,if_true,dite_true]
     by_cases hez:e=r.cur∧z=true
     · rw[if_pos hez]
       obtain⟨rfl,rfl⟩:=hez
       have h0':=h0 rfl
       subst h0'
       rcases h4 with ⟨_,_,c⟩ | ⟨G,ep,rfl,b,c,d⟩
       · rcases c with c | c
         · rw[hc] at c;simp at c
         · omega
       · rw[hc] at c;cases c
         obtain⟨g',d1,rfl,d3⟩:=d rfl
         rw[hg] at d1;cases d1
         refine⟨.own F g.ep,0,q,xs.set m e',?_,⟨fun _=>rfl,r,hr,rfl,Nat.le_refl _,.inr ⟨F,g.ep,rfl,b,hc,fun _=>⟨g,hg,rfl,fun ht=>by rw[List.length_set];exact d3 ht⟩⟩⟩,h2.set m hy⟩
         simp[V.upd,upds_map,hx]
     · rw[if_neg hez];trivial
   · have hne:∀G ep',t=.own G ep'→G≠F:=by
      rintro G ep' rfl rfl
      obtain⟨h0,r',hr',hT,hle,h4⟩:=h1
      rcases h4 with ⟨a,_⟩ | ⟨G',ep,a,b,c,d⟩
      · simp at a
      · cases a
        exact hf (I.inj _ _ _ _ _ hr' hr c hc)
     rw[upd_list_ne hne,hx]
     simp only[SV.upd,if_neg hf]
     exact⟨t,off,q,xs,rfl,h1,h2⟩
 | .nill,v,h=>by
  obtain⟨q,rfl⟩:=h
  exact⟨q,by simp[V.upd,upds_map]⟩
 | .agg cs,v,h=>by
  obtain⟨vs,rfl,h⟩:=h
  exact⟨_,by simp[V.upd],RelL.upd h⟩
 | .tup cs,v,h=>by
  obtain⟨vs,rfl,h⟩:=h
  exact⟨_,by simp[V.upd],RelL.upd h⟩
 | .ptr i o,v,h=>by
  obtain⟨h1,rfl⟩:=h
  exact⟨h1,by simp[V.upd]⟩
 | .adr i o,v,h=>by
  obtain⟨h1,rfl | rfl⟩:=h
  · exact⟨h1,by simp[V.upd]⟩
  · exact⟨h1,by simp[V.upd]⟩
 | .elem T tk m' off x,v,h=>by
  obtain⟨t,idx,e0,rfl,h1,h2⟩:=h
  have hx:V.upd F g.ep m e' e0=e0:=ERe.fix (inert_upd hW) h2
  cases tk with
  | ro =>
   rw[upd_eptr_ne (F:=F) (fun G ep' e eq=>hW (eq▸h1 G ep' e)),hx]
   exact⟨t,idx,e0,rfl,h1,h2⟩
  | clip =>
   obtain rfl:=h1
   rw[upd_eptr_ne (by simp),hx]
   exact⟨_,idx,e0,rfl,rfl,h2⟩
  | own f' e z tip =>
   by_cases hf:f'=f
   · subst hf
     obtain⟨h0,r',hr',hT,hle,h4⟩:=h1
     rw[hr] at hr';cases hr'
     subst hT
     simp only[SV.upd,if_true,dite_true]
     by_cases hez:e=r.cur∧z=true
     · rw[if_pos hez]
       obtain⟨rfl,rfl⟩:=hez
       have h0':=h0 rfl
       subst h0'
       obtain⟨G,ep,rfl,c,d⟩:=h4
       · rw[hc] at c;cases c
         obtain⟨g',d1,rfl⟩:=d rfl
         rw[hg] at d1;cases d1
         refine⟨.own F g.ep,idx,if idx=m then e' else e0,?_,⟨fun _=>rfl,r,hr,rfl,Nat.le_refl _,⟨F,g.ep,rfl,hc,fun _=>⟨g,hg,rfl⟩⟩⟩,?_⟩
         · simp[V.upd,hx]
         · split
           · exact hy
           · exact h2
     · rw[if_neg hez];trivial
   · have hne:∀G ep',t=.own G ep'→G≠F:=by
      rintro G ep' rfl rfl
      obtain⟨h0,r',hr',hT,hle,h4⟩:=h1
      obtain⟨G',ep,a,c,d⟩:=h4
      · cases a
        exact hf (I.inj _ _ _ _ _ hr' hr c hc)
     rw[upd_eptr_ne hne,hx]
     simp only[SV.upd,if_neg hf]
     exact⟨t,idx,e0,rfl,h1,h2⟩
 | .nilp,v,h=>by simp only[Rel] at h;subst h;simp[SV.upd,V.upd,Rel]
 | .func g' a b,v,h=>by
  obtain⟨va,vb,rfl,h1,h2⟩:=h
  exact⟨_,_,by simp[V.upd],RelL.upd h1,RelL.upd h2⟩
 | .nilf,v,h=>by simp only[Rel] at h;subst h;simp[SV.upd,V.upd,Rel]
 | .iface t x,v,h=>by
  obtain⟨w,rfl,h⟩:=h
  exact⟨_,by simp[V.upd],Rel.upd h⟩
 | .nili,v,h=>by simp only[Rel] at h;subst h;simp[SV.upd,V.upd,Rel]
 | .mapr i,v,h=>by
  obtain⟨h1,rfl⟩:=h
  exact⟨h1,by simp[V.upd]⟩
 | .nilm,v,h=>by simp only[Rel] at h;subst h;simp[SV.upd,V.upd,Rel]
 | .yld,v,h=>by
  obtain⟨k,h1,rfl⟩:=h
  exact⟨k,h1,by simp[V.upd,V.upds]⟩
 | .any,v,h=>by simp[SV.upd,Rel]
theorem RelL.upd:∀{xs:List SV} {vs:List V},RelL X xs vs→RelL X (SV.updL f r.cur m r.T y xs) (V.upds F g.ep m e' vs)
 | [],vs,h=>by simp only[RelL] at h;subst h;simp[SV.updL,V.upds,RelL]
 | x::xs,vs,h=>by
  obtain⟨v,vs',rfl,h1,h2⟩:=h
  exact⟨_,_,by simp[V.upds],Rel.upd h1,RelL.upd h2⟩
end
end
end
end Go.Abs

namespace Go.Abs
open Go
structure GE where
 mu:Nat→Nat
 chi:Nat→Option Nat
 N:Nat→Prop
 yk:Option Nat
@[reducible] def GE.X (E:GE) (ss:SS) (st:St):XC:=⟨E.mu,E.chi,E.N,ss.rows,st.fams,st.flo,ss.boxes.length,E.yk⟩
def SBox.live:SBox→Bool
 | .gone=>false
 | _=>true
def BR (X:XC) (lo:Nat) (heap:List Box) (b:Nat):SBox→Prop
 | .cells t w cs=>∃vs,heap[b]? = some (.cells t vs)∧RelL X cs vs∧(w=true→lo≤b)
 | .mapo K T w es=>∃vs,heap[b]? = some (.mapo vs)∧All2 (fun p q=>ERe X.np K p.1 q.1∧ERe X.np T p.2 q.2) es vs∧(w=true→lo≤b)
 | .gone=>True
structure XR (E:GE) (ss:SS) (st:St):Prop where
 I:XI (E.X ss st)
 box:∀i b,ss.boxes[i]? = some b→BR (E.X ss st) st.lo st.heap (E.mu i) b
 binj:∀i j b b',ss.boxes[i]? = some b→b.live=true→ss.boxes[j]? = some b'→b'.live=true→E.mu i=E.mu j→i=j
 lo:st.lo≤st.heap.length
 kill:∀F∈st.kills,F<st.fams.length∧∀f r,ss.rows[f]? = some r→E.chi f=some F→f∈ss.kills
 kill0:ss.kills=[]→st.kills=[]
structure Tr (E:GE) (ss:SS) (st:St) (E':GE) (ss':SS) (st':St):Prop where
 flo:st'.flo=st.flo
 lo:st'.lo=st.lo
 N:E'.N=E.N
 fams:st.fams.length≤st'.fams.length
 heap:st.heap.length≤st'.heap.length
 nb:ss.boxes.length≤ss'.boxes.length
 mu:∀i,i<ss.boxes.length→E'.mu i=E.mu i
 W:∀F,(E'.X ss' st').W F→(E.X ss st).W F∨st.fams.length≤F
 rows:∀f r,ss.rows[f]? = some r→∃r',ss'.rows[f]? = some r'∧r'.T=r.T∧r.cur≤r'.cur∧(E'.chi f=E.chi f∨(E.chi f=none∧r.cur<r'.cur)) ∧
  (r'.cur=r.cur→∀F g,E.chi f=some F→st.fams[F]? = some g→∃g',st'.fams[F]? = some g'∧g'.ep=g.ep∧g'.tip=g.tip)
 kill:∀F∈st'.kills,F∈st.kills∨(E.X ss st).W F∨st.fams.length≤F
 fresh:∀f r' F,ss'.rows[f]? = some r'→E'.chi f=some F→(∃r,ss.rows[f]? = some r∧E.chi f=some F)∨st.fams.length≤F
 yy:st'.y=st.y∧ss'.y=ss.y∧E'.yk=E.yk
section
variable {E E' E'':GE} {ss ss' ss'':SS} {st st' st'':St}
theorem Tr.refl:Tr E ss st E ss st where
 flo:=rfl
 lo:=rfl
 N:=rfl
 fams:=Nat.le_refl _
 heap:=Nat.le_refl _
 nb:=Nat.le_refl _
 mu _ _:=rfl
 W _ h:=.inl h
 rows f r h:=⟨r,h,rfl,Nat.le_refl _,.inl rfl,fun _ F g _ hg=>⟨g,hg,rfl,rfl⟩⟩
 kill _ h:=.inl h
 fresh f r' F h1 h2:=.inl ⟨r',h1,h2⟩
 yy:=⟨rfl,rfl,rfl⟩
theorem Tr.trans (a:Tr E ss st E' ss' st') (b:Tr E' ss' st' E'' ss'' st''):Tr E ss st E'' ss'' st'' where
 flo:=b.flo.trans a.flo
 lo:=b.lo.trans a.lo
 N:=b.N.trans a.N
 fams:=Nat.le_trans a.fams b.fams
 heap:=Nat.le_trans a.heap b.heap
 nb:=Nat.le_trans a.nb b.nb
 mu i h:=(b.mu i (Nat.lt_of_lt_of_le h a.nb)).trans (a.mu i h)
 W F h:=by
  rcases b.W F h with h | h
  · exact a.W F h
  · exact .inr (Nat.le_trans a.fams h)
 rows f r h:=by
  obtain⟨r',h1,h2,h3,h4,h5⟩:=a.rows f r h
  obtain⟨r'',g1,g2,g3,g4,g5⟩:=b.rows f r' h1
  refine⟨r'',g1,g2.trans h2,Nat.le_trans h3 g3,?_,fun hc F g hF hg=>?_⟩
  · rcases h4 with h4 | ⟨h4,h4'⟩
    · rcases g4 with g4 | ⟨g4,g4'⟩
      · exact .inl (g4.trans h4)
      · exact .inr ⟨h4▸g4,by omega⟩
    · exact .inr ⟨h4,by omega⟩
  · obtain⟨g',e1,e2,e3⟩:=h5 (by omega) F g hF hg
    have hF':E'.chi f=some F:=by
     rcases h4 with h4 | ⟨_,h4⟩
     · exact h4.trans hF
     · omega
    obtain⟨g'',e4,e5,e6⟩:=g5 (by omega) F g' hF' e1
    exact⟨g'',e4,e5.trans e2,e6.trans e3⟩
 kill F h:=by
  rcases b.kill F h with h | h | h
  · exact a.kill F h
  · rcases a.W F h with h | h
    · exact .inr (.inl h)
    · exact .inr (.inr h)
  · exact .inr (.inr (Nat.le_trans a.fams h))
 fresh f r'' F h1 h2:=by
  rcases b.fresh f r'' F h1 h2 with ⟨r',h3,h4⟩ | h
  · exact a.fresh f r' F h3 h4
  · exact .inr (Nat.le_trans a.fams h)
 yy:=⟨b.yy.1.trans a.yy.1,b.yy.2.1.trans a.yy.2.1,b.yy.2.2.trans a.yy.2.2⟩
theorem Tr.np (a:Tr E ss st E' ss' st') (F:Nat) (h:(E.X ss st).np F):(E'.X ss' st').np F:=by
 rcases h with h | ⟨h1,h2,h3⟩
 · exact .inl (by show E'.N F;rw[a.N];exact h)
 · refine .inr ⟨by show st'.flo≤F;rw[a.flo];exact h1,Nat.lt_of_lt_of_le h2 a.fams,fun hw=>?_⟩
   rcases a.W F hw with h | h
   · exact h3 h
   · exact absurd h2 (by show ¬F<st.fams.length;omega)
theorem Tr.stay0 (a:Tr E ss st E' ss' st'):Stay (E.X ss st) (E'.X ss' st') [] [] where
 np:=a.np
 dead _ h:=by simp at h
 nb:=a.nb
 mu:=a.mu
 rows f r h _:=a.rows f r h
 kill _ _ _ _ _ _:=by simp
 yk:=a.yy.2.2
theorem Tr.stay (a:Tr E ss st E' ss' st') (hI:XI (E.X ss st)) (hX:XR E' ss' st') (hk:st.kills=[]):Stay (E.X ss st) (E'.X ss' st') ss'.kills st'.kills where
 np:=a.np
 dead F h:=by
  rcases a.kill F h with h | h | h
  · rw[hk] at h;simp at h
  · exact hI.w_np h
  · exact hI.new_np h
 nb:=a.nb
 mu:=a.mu
 rows f r h _:=a.rows f r h
 kill f r F h hF hn hm:=by
  obtain⟨r',h1,_,_,h4,_⟩:=a.rows f r h
  have:E'.chi f=some F:=by
   rcases h4 with h4 | ⟨h4,_⟩
   · exact h4.trans hF
   · rw[show E.chi f=some F from hF] at h4;simp at h4
  exact hn ((hX.kill F hm).2 f r' h1 this)
 yk:=a.yy.2.2
end
theorem BR.stay0 {X X':XC} (S:Stay X X' [] []) {lo:Nat} {heap:List Box} {b:Nat} {x:SBox} (h:BR X lo heap b x):BR X' lo heap b x:=by
 cases x with
 | gone=>trivial
 | cells t w cs =>
  obtain⟨vs,h1,h2,h3⟩:=h
  exact⟨vs,h1,h2.stay0 S,h3⟩
 | mapo K T w es =>
  obtain⟨vs,h1,h2,h3⟩:=h
  exact⟨vs,h1,h2.mono fun p q r=>⟨r.1.mono S.np,r.2.mono S.np⟩,h3⟩
theorem BR.heap {X:XC} {lo:Nat} {heap heap':List Box} {b:Nat} {x:SBox} (h:BR X lo heap b x) (e:x.live=true→heap'[b]? = heap[b]?):BR X lo heap' b x:=by
 cases x with
 | gone=>trivial
 | cells t w cs =>
  obtain⟨vs,h1,h2,h3⟩:=h
  exact⟨vs,(e rfl).trans h1,h2,h3⟩
 | mapo K T w es =>
  obtain⟨vs,h1,h2,h3⟩:=h
  exact⟨vs,(e rfl).trans h1,h2,h3⟩
theorem BR.lt {X:XC} {lo:Nat} {heap:List Box} {b:Nat} {x:SBox} (h:BR X lo heap b x) (hl:x.live=true):b<heap.length:=by
 cases x with
 | gone=>simp[SBox.live] at hl
 | cells t w cs=>obtain⟨vs,h1,_⟩:=h;exact (List.getElem?_eq_some_iff.1 h1).1
 | mapo K T w es=>obtain⟨vs,h1,_⟩:=h;exact (List.getElem?_eq_some_iff.1 h1).1
end Go.Abs

namespace Go.Abs
open Go
section
variable {X:XC} {P:Program} {ρ:Type} {r:ρ}
theorem sofVal_rel:∀(n:Nat) (v:Value),Rel X (sofVal n v) (ofVal n v)
 | 0,v=>by simp[sofVal,Rel]
 | n+1,v=>by
  cases v with
  | agg cs =>
   simp only[sofVal,ofVal]
   split
   · exact⟨_,rfl,RelL.map (fun a=>sofVal_rel n a) _⟩
   · trivial
  | slice a l c =>
   cases a with
   | none =>
    cases l with
    | zero=>cases c with
     | zero=>exact⟨0,rfl⟩
     | succ c=>simp[sofVal,Rel]
    | succ l=>simp[sofVal,Rel]
   | some a=>simp[sofVal,Rel]
  | pointer a=>cases a<;>simp[sofVal,ofVal,Rel]
  | map a=>cases a<;>simp[sofVal,ofVal,Rel]
  | _=>simp[sofVal,ofVal,Rel]
theorem sev_rel {s:List SV} {S:List V} (h:RelL X s S) (x:Operand):Rel X (sev s x) (ev S x):=by
 cases x with
 | tmp t=>exact h.getD t
 | const v=>exact sofVal_rel 3 v
 | func f=>exact⟨[],[],rfl,rfl,rfl⟩
 | global g=>trivial
theorem szero_rel {t:TypeId} {z:SV} (h:szero P t=some z):∃v,zeroB P t=some v∧Rel X z v:=by
 unfold szero at h
 unfold zeroB
 cases hz:(P.info? t).bind (·.zero) with
 | none=>rw[hz] at h;simp at h
 | some w =>
  rw[hz] at h
  simp only[Option.map_some,Option.some.injEq] at h
  subst h
  exact⟨_,rfl,sofVal_rel 3 w⟩
theorem spart_rel {t:TypeId} {cs:List SV} {vs:List V} {off:Nat} {x:SV} (h:spart P t cs off=some x) (hr:RelL X cs vs):∃v,partB P t vs off=some v∧Rel X x v:=by
 unfold spart at h
 unfold partB
 split at h
 · rename_i n h1 h2
   rw[h1,h2]
   simp only[←hr.len]
   split at h
   · rename_i hle
     simp only[Option.some.injEq] at h;subst h
     exact⟨_,by simp[hle],_,rfl,(hr.drop off).take n⟩
   · simp at h
 · rename_i h1
   rw[h1]
   obtain⟨v,h2,h3⟩:=hr.get h
   exact⟨v,by cases sizeB P t<;>simpa using h2,h3⟩
 · simp at h
theorem ERc.nagg {N:Nat→Prop}:∀(T:Ty) {x:T.den} {vs:List V},ERc N T x vs→∀v∈vs,v.cells=[v]
 | .unit,_,_,q,v,hv=>by simp only[ERc] at q;subst q;simp at hv
 | .int _,_,_,q,v,hv=>by simp only[ERc] at q;subst q;simp at hv;subst hv;rfl
 | .bool,_,_,q,v,hv=>by simp only[ERc] at q;subst q;simp at hv;subst hv;rfl
 | .str,_,_,q,v,hv=>by simp only[ERc] at q;subst q;simp at hv;subst hv;rfl
 | .list t,l,vs,q,v,hv=>by obtain⟨tk,off,k,xs,rfl,_⟩:=q;simp at hv;subst hv;rfl
 | .cons a b,x,vs,q,v,hv=>by
  obtain⟨v1,v2,rfl,h2,h3⟩:=q
  rcases List.mem_append.1 hv with h | h
  · exact ERc.nagg a h2 v h
  · exact ERc.nagg b h3 v h
 | .agg a,x,vs,q,v,hv=>ERc.nagg a (x:=x) q v hv
theorem ERe.cells {N:Nat→Prop} {T:Ty} {x:T.den} {v:V} (h:ERe N T x v):ERc N T x v.cells:=by
 obtain⟨cs,h1,h2⟩:=h
 split at h2
 · subst h2;exact h1
 · subst h2;rw[ERc.nagg T h1 v (by simp)];exact h1
theorem sload_rel {E:GE} {ss:SS} {st:St} (hX:XR E ss st) {t:TypeId} {a x:SV} {v:V} (h:sload P ss t a=some x) (ha:Rel (E.X ss st) a v):∃w,loadB P st t v=some w∧Rel (E.X ss st) x w:=by
 cases a with
 | ptr i off =>
  obtain⟨h1,rfl⟩:=ha
  simp only[sload] at h
  split at h
  · rename_i t0 w0 cs hb
    obtain⟨vs,h2,h3,_⟩:=hX.box i _ hb
    obtain⟨w,h4,h5⟩:=spart_rel h h3
    exact⟨w,by simp only[loadB,h2];exact h4,h5⟩
  · simp at h
 | elem T tk m off y =>
  obtain⟨t0,idx,e,rfl,h1,h2⟩:=ha
  simp only[sload] at h
  obtain⟨w,h4,h5⟩:=spart_rel h (cells_rel T h2.cells)
  exact⟨w,h4,h5⟩
 | _=>simp[sload] at h
theorem seqv_rel:∀(d:Nat) {t:TypeId} {x y:SV} {v w:V} {b:Bool},seqv P d t x y=some b→Rel X x v→Rel X y w→eqB P d t v w=some b
 | 0,t,x,y,v,w,b,h,_,_=>by simp[seqv] at h
 | d+1,t,x,y,v,w,b,h,hx,hy=>by
  have hfold:∀(fs:List Field) (xs ys:List SV) (vs ws:List V),RelL X xs vs→RelL X ys ws→∀b,
   fs.foldr (fun f acc=>if f.name = "_" then acc else match spart P f.type xs f.offset,spart P f.type ys f.offset with
    | some a,some b=>(match seqv P d f.type a b,acc with | some p,some q=>some (p&&q) | _,_=>none)
    | _,_=>none) (some true)=some b →
   fs.foldr (fun f acc=>if f.name = "_" then acc else match partB P f.type vs f.offset,partB P f.type ws f.offset with
    | some a,some b=>(match eqB P d f.type a b,acc with | some p,some q=>some (p&&q) | _,_=>none)
    | _,_=>none) (some true)=some b:=by
   intro fs xs ys vs ws h1 h2
   induction fs with
   | nil=>intro b h;exact h
   | cons f fs ih =>
    intro b h
    simp only[List.foldr_cons] at h ⊢
    split at h
    · rename_i hn;rw[if_pos hn];exact ih b h
    · rename_i hn
      rw[if_neg hn]
      split at h
      · rename_i a c ha hc
        split at h
        · rename_i p q hp hq
          obtain⟨a',e1,e2⟩:=spart_rel ha h1
          obtain⟨c',e3,e4⟩:=spart_rel hc h2
          rw[e1,e3,ih q hq]
          simp only[seqv_rel d hp e2 e4]
          exact h
        · simp at h
      · simp at h
  have hfold2:∀(is:List Nat) (el:TypeId) (n:Nat) (xs ys:List SV) (vs ws:List V),RelL X xs vs→RelL X ys ws→∀b,
   is.foldr (fun i acc=>match spart P el xs (i*n),spart P el ys (i*n) with
    | some a,some b=>(match seqv P d el a b,acc with | some p,some q=>some (p&&q) | _,_=>none)
    | _,_=>none) (some true)=some b →
   is.foldr (fun i acc=>match partB P el vs (i*n),partB P el ws (i*n) with
    | some a,some b=>(match eqB P d el a b,acc with | some p,some q=>some (p&&q) | _,_=>none)
    | _,_=>none) (some true)=some b:=by
   intro is el n xs ys vs ws h1 h2
   induction is with
   | nil=>intro b h;exact h
   | cons f fs ih =>
    intro b h
    simp only[List.foldr_cons] at h ⊢
    split at h
    · rename_i a c ha hc
      split at h
      · rename_i p q hp hq
        obtain⟨a',e1,e2⟩:=spart_rel ha h1
        obtain⟨c',e3,e4⟩:=spart_rel hc h2
        rw[e1,e3,ih q hq]
        simp only[seqv_rel d hp e2 e4]
        exact h
      · simp at h
    · simp at h
  unfold seqv at h
  unfold eqB
  split at h
  · rename_i hu;rw[hu];simp only[Rel] at hx hy;subst hx hy;exact h
  · rename_i hu;rw[hu];simp only[Rel] at hx hy;subst hx hy;exact h
  · rename_i hu;rw[hu];simp only[Rel] at hx hy;subst hx hy;exact h
  · rename_i hu;rw[hu];simp only[Rel] at hx hy;subst hx hy;exact h
  · rename_i hu;rw[hu];simp only[Rel] at hx hy;subst hx;obtain⟨_,rfl⟩:=hy;exact h
  · rename_i hu;rw[hu];simp only[Rel] at hx hy;subst hy;obtain⟨_,rfl⟩:=hx;exact h
  · rename_i hu;rw[hu];obtain⟨q,rfl⟩:=hx;obtain⟨q',rfl⟩:=hy;exact h
  · rename_i hu;rw[hu];obtain⟨tk,off,q,xs,rfl,⟨rfl,_⟩,_⟩:=hx;obtain⟨q',rfl⟩:=hy;exact h
  · rename_i hu;rw[hu];simp only[Rel] at hx hy;subst hx hy;exact h
  · rename_i hu;rw[hu];obtain⟨_,_,rfl,_⟩:=hx;simp only[Rel] at hy;subst hy;exact h
  · rename_i hu;rw[hu];simp only[Rel] at hx hy;subst hx hy;exact h
  · rename_i hu;rw[hu];obtain⟨_,rfl⟩:=hx;simp only[Rel] at hy;subst hy;exact h
  · rename_i hu;rw[hu];simp only[Rel] at hx hy;subst hx hy;exact h
  · rename_i hu;rw[hu];simp only[Rel] at hx;subst hx;obtain⟨_,rfl,_⟩:=hy;exact h
  · rename_i hu;rw[hu];simp only[Rel] at hy;subst hy;obtain⟨_,rfl,_⟩:=hx;exact h
  · rename_i fields xs ys hu
    rw[hu]
    obtain⟨vs,rfl,h1⟩:=hx
    obtain⟨ws,rfl,h2⟩:=hy
    simp only
    split at h
    · simp at h
    · rename_i hs
      rw[if_neg hs]
      exact hfold _ _ _ _ _ h1 h2 _ h
  · rename_i len el xs ys hu
    rw[hu]
    obtain⟨vs,rfl,h1⟩:=hx
    obtain⟨ws,rfl,h2⟩:=hy
    simp only
    split at h
    · rename_i n hn
      rw[hn]
      exact hfold2 _ _ _ _ _ _ _ h1 h2 _ h
    · simp at h
  · simp at h
theorem seqOk_rel {t:TypeId} {xo yo:Operand} {x y:SV} {v w:V} {d:Nat} {b:Bool} (h:seqOk P t xo yo x y=true) (he:seqv P (d+1) t x y=some b) (hx:Rel X x v) (hy:Rel X y w):eqOk P t xo yo v w=true:=by
 cases x with
 | any=>unfold seqv at he;split at he<;>simp_all
 | nili =>
  simp only[Rel] at hx;subst hx
  cases y with
  | any=>unfold seqv at he;split at he<;>simp_all
  | nili=>simp only[Rel] at hy;subst hy;exact h
  | int k n=>simp only[Rel] at hy;subst hy;rfl
  | bool=>simp only[Rel] at hy;subst hy;rfl
  | str=>simp only[Rel] at hy;subst hy;rfl
  | list=>obtain⟨_,_,_,_,rfl,_⟩:=hy;rfl
  | nill=>obtain⟨_,rfl⟩:=hy;rfl
  | agg=>obtain⟨_,rfl,_⟩:=hy;rfl
  | tup=>obtain⟨_,rfl,_⟩:=hy;rfl
  | ptr=>obtain⟨_,rfl⟩:=hy;rfl
  | adr=>obtain⟨_,rfl | rfl⟩:=hy<;>rfl
  | elem=>obtain⟨_,_,_,rfl,_⟩:=hy;rfl
  | nilp=>simp only[Rel] at hy;subst hy;rfl
  | func=>obtain⟨_,_,rfl,_⟩:=hy;rfl
  | nilf=>simp only[Rel] at hy;subst hy;rfl
  | iface=>obtain⟨_,rfl,_⟩:=hy;rfl
  | mapr=>obtain⟨_,rfl⟩:=hy;rfl
  | nilm=>simp only[Rel] at hy;subst hy;rfl
  | yld=>obtain⟨_,_,rfl⟩:=hy;rfl
 | agg cs =>
  obtain⟨vs,rfl,_⟩:=hx
  cases y with
  | any=>unfold seqv at he;split at he<;>simp_all
  | nili=>simp only[Rel] at hy;subst hy;rfl
  | int k n=>simp only[Rel] at hy;subst hy;rfl
  | bool=>simp only[Rel] at hy;subst hy;rfl
  | str=>simp only[Rel] at hy;subst hy;rfl
  | list=>obtain⟨_,_,_,_,rfl,_⟩:=hy;rfl
  | nill=>obtain⟨_,rfl⟩:=hy;rfl
  | agg=>obtain⟨_,rfl,_⟩:=hy;exact h
  | tup=>obtain⟨_,rfl,_⟩:=hy;rfl
  | ptr=>obtain⟨_,rfl⟩:=hy;rfl
  | adr=>obtain⟨_,rfl | rfl⟩:=hy<;>rfl
  | elem=>obtain⟨_,_,_,rfl,_⟩:=hy;rfl
  | nilp=>simp only[Rel] at hy;subst hy;rfl
  | func=>obtain⟨_,_,rfl,_⟩:=hy;rfl
  | nilf=>simp only[Rel] at hy;subst hy;rfl
  | iface=>obtain⟨_,rfl,_⟩:=hy;rfl
  | mapr=>obtain⟨_,rfl⟩:=hy;rfl
  | nilm=>simp only[Rel] at hy;subst hy;rfl
  | yld=>obtain⟨_,_,rfl⟩:=hy;rfl
 | int k n=>simp only[Rel] at hx;subst hx;cases w<;>rfl
 | bool=>simp only[Rel] at hx;subst hx;cases w<;>rfl
 | str=>simp only[Rel] at hx;subst hx;cases w<;>rfl
 | list=>obtain⟨_,_,_,_,rfl,_⟩:=hx;cases w<;>rfl
 | nill=>obtain⟨_,rfl⟩:=hx;cases w<;>rfl
 | tup=>obtain⟨_,rfl,_⟩:=hx;cases w<;>rfl
 | ptr=>obtain⟨_,rfl⟩:=hx;cases w<;>rfl
 | adr=>obtain⟨_,rfl | rfl⟩:=hx<;>cases w<;>rfl
 | elem=>obtain⟨_,_,_,rfl,_⟩:=hx;cases w<;>rfl
 | nilp=>simp only[Rel] at hx;subst hx;cases w<;>rfl
 | func=>obtain⟨_,_,rfl,_⟩:=hx;cases w<;>rfl
 | nilf=>simp only[Rel] at hx;subst hx;cases w<;>rfl
 | iface=>obtain⟨_,rfl,_⟩:=hx;cases w<;>rfl
 | mapr=>obtain⟨_,rfl⟩:=hx;cases w<;>rfl
 | nilm=>simp only[Rel] at hx;subst hx;cases w<;>rfl
 | yld=>obtain⟨_,_,rfl⟩:=hx;cases w<;>rfl
theorem sbin_eq {t:TypeId} {xo yo:Operand} {x y:SV} {v w:V} {K:SV→Option ρ} (neg:Bool) (hx:Rel X x v) (hy:Rel X y w)
 (h:(if seqOk P t xo yo x y=true then (match seqv P 20 t x y with | some b=>K (.bool (if neg then !b else b)) | none=>none) else none)=some r) :
 ∃b,eqOk P t xo yo v w=true∧eqB P 20 t v w=some b∧K (.bool (if neg then !b else b))=some r:=by
 split at h
 · rename_i hok
   split at h
   · rename_i b hb
     exact⟨b,seqOk_rel hok hb hx hy,seqv_rel 20 hb hx hy,h⟩
   · simp at h
 · simp at h
theorem binB_eql {t:TypeId} {xo yo:Operand} {v w:V} {b:Bool} (h1:∀k a k' b',v=.int k a→w=.int k' b'→False) (h2:∀a b',v=.str a→w=.str b'→False)
 (e1:eqOk P t xo yo v w=true) (e2:eqB P 20 t v w=some b):binB P .eql t xo yo v w=some (.bool b):=by
 unfold binB
 split
 · simp at *
 · simp at *
 · exact (h1 _ _ _ _ rfl rfl).elim
 · exact (h2 _ _ rfl rfl).elim
 · rw[if_pos e1,e2];rfl
 · simp at *
 · simp at *
theorem binB_neq {t:TypeId} {xo yo:Operand} {v w:V} {b:Bool} (h1:∀k a k' b',v=.int k a→w=.int k' b'→False) (h2:∀a b',v=.str a→w=.str b'→False)
 (e1:eqOk P t xo yo v w=true) (e2:eqB P 20 t v w=some b):binB P .neq t xo yo v w=some (.bool !b):=by
 unfold binB
 split
 · simp at *
 · simp at *
 · exact (h1 _ _ _ _ rfl rfl).elim
 · exact (h2 _ _ rfl rfl).elim
 · simp at *
 · rw[if_pos e1,e2];rfl
 · simp at *
theorem Rel.int_inv {x:SV} {k:IntKind} {n:Int} (h:Rel X x (.int k n)):x=.int k n∨x=.any:=by
 cases x<;>simp[Rel] at h ⊢
 · exact⟨h.1.symm,h.2.symm⟩
theorem Rel.str_inv {x:SV} {s:List UInt8} (h:Rel X x (.str s)):x=.str s∨x=.any:=by
 cases x<;>simp[Rel] at h ⊢
 · exact h.symm
theorem seqv_any1 {d:Nat} {t:TypeId} {y:SV} {b:Bool} (h:seqv P d t .any y=some b):False:=by
 cases d with
 | zero=>simp[seqv] at h
 | succ d=>unfold seqv at h;split at h<;>simp_all
theorem seqv_any2 {d:Nat} {t:TypeId} {y:SV} {b:Bool} (h:seqv P d t y .any=some b):False:=by
 cases d with
 | zero=>simp[seqv] at h
 | succ d=>unfold seqv at h;split at h<;>simp_all
theorem selB_elim {c:Bool} {a b:Option ρ} (h:selB c a b=some r):b=some r∧(c=true→a=some r):=by
 unfold selB at h
 split at h
 · rename_i hc
   split at h
   · rename_i he
     exact⟨by rw[←he];exact h,fun _=>h⟩
   · simp at h
 · rename_i hc
   exact⟨h,fun e=>absurd e hc⟩
theorem eqB_nil {t elem:TypeId} (hu:P.underlying t=some (.slice elem)) {tk:Tok} {off q q':Nat} {xs:List V} {xo yo:Operand} :
 eqOk P t xo yo (.list tk off q xs) (.list .nil 0 q' [])=true∧∃b,eqB P 20 t (.list tk off q xs) (.list .nil 0 q' [])=some b∧(b=true→tk=.nil):=by
 refine⟨by simp[eqOk],?_⟩
 unfold eqB
 simp only[hu]
 cases tk with
 | nil=>exact⟨true,rfl,fun _=>rfl⟩
 | _=>exact⟨false,rfl,by simp⟩
theorem sbin_nil (neg:Bool) {t elem:TypeId} {xo yo:Operand} {v w:V} {K:SV→Option ρ} {l:Bool} (hu:P.underlying t=some (.slice elem))
 (h:selB l (K (.bool (if neg then false else true))) (K (.bool (if neg then true else false)))=some r) {tk:Tok} {off q q':Nat} {xs:List V} (hx:v=.list tk off q xs) (hn:tk=.nil→l=true) (hy:w=.list .nil 0 q' []) :
 ∃z u,Rel X z u∧K z=some r∧binB P (if neg then .neq else .eql) t xo yo v w=some u:=by
 subst hx hy
 obtain⟨h1,h2⟩:=selB_elim h
 obtain⟨e1,b,e2,e3⟩:=eqB_nil (xo:=xo) (yo:=yo) hu (tk:=tk) (off:=off) (q:=q) (q':=q') (xs:=xs)
 refine⟨.bool (if neg then !b else b),.bool (if neg then !b else b),rfl,?_,?_⟩
 · cases b with
   | true=>cases neg<;>exact h2 (hn (e3 rfl))
   | false=>cases neg<;>exact h1
 · cases neg with
   | true=>exact binB_neq (by simp) (by simp) e1 e2
   | false=>exact binB_eql (by simp) (by simp) e1 e2
theorem sbin_rel {op:BinOp} {t:TypeId} {xo yo:Operand} {x y:SV} {v w:V} {K:SV→Option ρ} (h:sbin P op t xo yo x y K=some r) (hx:Rel X x v) (hy:Rel X y w) :
 ∃z u,Rel X z u∧K z=some r∧binB P op t xo yo v w=some u:=by
 have ii:∀{k:IntKind} {n:Int},K (.int k n)=some r→binB P op t xo yo v w=some (.int k n)→∃z u,Rel X z u∧K z=some r∧binB P op t xo yo v w=some u:=fun {k n} a b=>⟨.int k n,.int k n,rfl,a,b⟩
 have bb:∀{b:Bool},K (.bool b)=some r→binB P op t xo yo v w=some (.bool b)→∃z u,Rel X z u∧K z=some r∧binB P op t xo yo v w=some u:=fun {b} x y=>⟨.bool b,.bool b,rfl,x,y⟩
 have ss:∀{s:List UInt8},K (.str s)=some r→binB P op t xo yo v w=some (.str s)→∃z u,Rel X z u∧K z=some r∧binB P op t xo yo v w=some u:=fun {s} a b=>⟨.str s,.str s,rfl,a,b⟩
 unfold sbin at h
 split at h
 · obtain⟨m,rfl,h'⟩:=natOf_elim h
   simp only[Rel] at hx hy;subst hx hy
   exact ii h' (by simp only[binB,Int.toNat_natCast];rw[if_pos (by omega)])
 · obtain⟨m,rfl,h'⟩:=natOf_elim h
   simp only[Rel] at hx hy;subst hx hy
   exact ii h' (by simp only[binB,Int.toNat_natCast];rw[if_pos (by omega)])
 · split at h
   · rename_i hk
     subst hk
     simp only[Rel] at hx hy;subst hx hy
     split at h
     · exact ii h (by simp[binB])
     · exact ii h (by simp[binB])
     · exact ii h (by simp[binB])
     · split at h
       · simp at h
       · rename_i hz;exact ii h (by simp[binB,hz])
     · split at h
       · simp at h
       · rename_i hz;exact ii h (by simp[binB,hz])
     · exact ii h (by simp[binB])
     · exact ii h (by simp[binB])
     · exact ii h (by simp[binB])
     · exact ii h (by simp[binB])
     · exact bb h (by simp[binB])
     · exact bb h (by simp[binB])
     · exact bb h (by simp[binB])
     · exact bb h (by simp[binB])
     · exact bb h (by simp[binB])
     · exact bb h (by simp[binB])
     · simp at h
   · simp at h
 · simp only[Rel] at hx hy;subst hx hy
   split at h
   · obtain⟨h1,h⟩:=grd_elim h
     exact ss h (by simp only[binB];rw[if_pos h1])
   · exact bb h (by simp[binB])
   · exact bb h (by simp[binB])
   · exact bb h (by simp[binB])
   · exact bb h (by simp[binB])
   · exact bb h (by simp[binB])
   · exact bb h (by simp[binB])
   · simp at h
 · split at h
   · rename_i hu
     obtain⟨tk,off,q,xs,e,hl,_⟩:=hx
     obtain⟨q',e'⟩:=hy
     exact sbin_nil false hu h e (fun e=>by have:=hl.1;simp[LOk,e] at this;simp[this]) e'
   · simp at h
 · split at h
   · rename_i hu
     obtain⟨tk,off,q,xs,e,hl,_⟩:=hx
     obtain⟨q',e'⟩:=hy
     exact sbin_nil true hu h e (fun e=>by have:=hl.1;simp[LOk,e] at this;simp[this]) e'
   · simp at h
 · split at h
   · rename_i hu
     obtain⟨tk,off,q,xs,e,hl,_⟩:=hx
     obtain⟨q',e'⟩:=hy
     exact sbin_nil false hu h e (by
      rintro rfl
      obtain⟨_,_,_,_,_,h4⟩:=hl
      rcases h4 with ⟨_,h5,_⟩ | ⟨_,_,h5,_⟩
      · simp[h5]
      · simp at h5) e'
   · simp at h
 · split at h
   · rename_i hu
     obtain⟨tk,off,q,xs,e,hl,_⟩:=hx
     obtain⟨q',e'⟩:=hy
     exact sbin_nil true hu h e (by
      rintro rfl
      obtain⟨_,_,_,_,_,h4⟩:=hl
      rcases h4 with ⟨_,h5,_⟩ | ⟨_,_,h5,_⟩
      · simp[h5]
      · simp at h5) e'
   · simp at h
 · rename_i hn1 hn2 _ _
   obtain⟨b,e1,e2,e3⟩:=sbin_eq false hx hy h
   have hb:∃b,seqv P 20 t x y=some b:=by
    split at h
    · split at h
      · rename_i b hb;exact⟨b,hb⟩
      · simp at h
    · simp at h
   obtain⟨b0,hb⟩:=hb
   refine bb e3 (binB_eql ?_ ?_ e1 e2)
   · rintro k a k' b' rfl rfl
     rcases hx.int_inv with rfl | rfl
     · rcases hy.int_inv with rfl | rfl
       · exact hn1 _ _ _ _ rfl rfl
       · exact seqv_any2 hb
     · exact seqv_any1 hb
   · rintro a b' rfl rfl
     rcases hx.str_inv with rfl | rfl
     · rcases hy.str_inv with rfl | rfl
       · exact hn2 _ _ rfl rfl
       · exact seqv_any2 hb
     · exact seqv_any1 hb
 · rename_i hn1 hn2 _ _
   obtain⟨b,e1,e2,e3⟩:=sbin_eq true hx hy h
   have hb:∃b,seqv P 20 t x y=some b:=by
    split at h
    · split at h
      · rename_i b hb;exact⟨b,hb⟩
      · simp at h
    · simp at h
   obtain⟨b0,hb⟩:=hb
   refine bb e3 (binB_neq ?_ ?_ e1 e2)
   · rintro k a k' b' rfl rfl
     rcases hx.int_inv with rfl | rfl
     · rcases hy.int_inv with rfl | rfl
       · exact hn1 _ _ _ _ rfl rfl
       · exact seqv_any2 hb
     · exact seqv_any1 hb
   · rintro a b' rfl rfl
     rcases hx.str_inv with rfl | rfl
     · rcases hy.str_inv with rfl | rfl
       · exact hn2 _ _ rfl rfl
       · exact seqv_any2 hb
     · exact seqv_any1 hb
 · simp at h
end
end Go.Abs

namespace Go.Abs
open Go
section
variable {X:XC} {P:Program} {ρ:Type} {r:ρ}
def OR (X:XC):Option SV→Option V→Prop
 | none,none=>True
 | some x,some v=>Rel X x v
 | _,_=>False
theorem OR.map {s:List SV} {S:List V} (h:RelL X s S) (o:Option Operand):OR X (o.map (sev s)) (o.map (ev S)):=by
 cases o with
 | none=>trivial
 | some o=>exact sev_rel h o
theorem sbnd_rel {x:Option SV} {v:Option V} {hi:Nat} {K:Option Nat→Option ρ} (h:sbnd x hi K=some r) (hx:OR X x v) :
 ∃m,K m=some r∧(∀d,boundB v d 0 hi=some (m.getD d))∧(∀q,m=some q→q≤hi):=by
 cases x with
 | none =>
  cases v with
  | none=>exact⟨none,h,fun d=>rfl,by simp⟩
  | some v=>simp[OR] at hx
 | some x =>
  cases v with
  | none=>simp[OR] at hx
  | some v =>
   cases x with
   | int k n =>
    simp only[OR,Rel] at hx;subst hx
    simp only[sbnd] at h
    obtain⟨m,rfl,h1⟩:=natOf_elim h
    obtain⟨h2,h3⟩:=grd_elim h1
    refine⟨some m,h3,fun d=>?_,by rintro q e;cases e;exact h2⟩
    simp only[boundB,Int.toNat_natCast,Option.getD_some]
    rw[if_pos ⟨by omega,by omega⟩]
   | _=>simp[sbnd] at h
theorem takeO_eq {α:Type} (h:Option Nat) (l:List α):takeO h l=l.take (h.getD l.length):=by
 cases h<;>simp[takeO]
theorem dropO_eq {α:Type} (h:Option Nat) (l:List α):dropO h l=l.drop (h.getD 0):=by
 cases h<;>simp[dropO]
theorem sslice_rel {t:TypeId} {x:SV} {v:V} {lo hi:Option SV} {lo' hi':Option V} {K:SV→Option ρ} (h:sslice P t x lo hi K=some r) (hx:Rel X x v) (hl:OR X lo lo') (hh:OR X hi hi') :
 ∃z u,Rel X z u∧K z=some r∧sliceB P t v lo' hi'=some u:=by
 unfold sslice at h
 split at h
 · rename_i s hu
   simp only[Rel] at hx;subst hx
   obtain⟨m,h1,h2,h3⟩:=sbnd_rel h hh
   obtain⟨n,h4,h5,h6⟩:=sbnd_rel h1 hl
   refine⟨_,.str ((s.take (m.getD s.length)).drop (n.getD 0)),?_,h4,?_⟩
   · rw[takeO_eq,dropO_eq];rfl
   · simp only[sliceB,hu,h2,h5]
 · rename_i elem T tk xs hu
   split at h
   · rename_i hs
     obtain⟨t0,off,q,vs,rfl,h1,h2⟩:=hx
     obtain⟨m,g1,g2,g3⟩:=sbnd_rel h hh
     obtain⟨n,g4,g5,g6⟩:=sbnd_rel g1 hl
     have hlen:=h2.len
     rw[hlen] at g2 g3 g5 g6
     have hq:t0=.nil∨q=T.size:=by
      cases tk with
      | ro=>exact h1.1.size
      | clip=>exact .inr h1.2.1
      | own f e z tip =>
       obtain⟨_,r,_,_,_,h4⟩:=h1
       rcases h4 with ⟨a | a,_⟩ | ⟨F,ep,_,b,_⟩
       · exact .inl a
       · exact .inr a.2.1
       · exact .inr b
     have hn:n.getD 0≤m.getD vs.length:=by
      cases n with
      | none=>simp
      | some n=>exact g6 n rfl
     have hm:m.getD vs.length≤vs.length:=by
      cases m with
      | none=>simp
      | some m=>exact g3 m rfl
     refine⟨_,.list (cutTok t0 (m.getD vs.length) vs.length) (off+n.getD 0) q ((vs.take (m.getD vs.length)).drop (n.getD 0)),?_,g4,?_⟩
     · refine⟨_,_,_,_,rfl,?_,?_⟩
       rotate_left
       · rw[takeO_eq,dropO_eq,hlen]
         exact (h2.take _).drop _
       rw[takeO_eq,dropO_eq,hlen]
       cases tk with
       | ro =>
        refine⟨h1.1.cut (by rintro rfl;simp) _ _,?_⟩
        intro F ep e
        cases t0 with
        | own F' ep'=>exact h1.2 F ep e
        | clip=>simp only[cutTok] at e;split at e<;>simp at e
        | _=>simp[cutTok] at e
       | clip =>
        obtain⟨rfl,h1⟩:=h1
        simp only[scutTok]
        split
        · rename_i hb
          simp only[Bool.and_eq_true,Option.isNone_iff_eq_none] at hb
          obtain⟨rfl,rfl⟩:=hb
          exact⟨by simp[cutTok],h1.1,by simp[h1.2]⟩
        · refine⟨.inr ⟨?_,h1.1⟩,?_⟩
          · simp only[cutTok];split<;>simp
          · intro F ep e;simp only[cutTok] at e;split at e<;>simp at e
       | own f e z tip =>
        obtain⟨h0,r,hr,hT,hle,h4⟩:=h1
        refine⟨fun hz=>?_,r,hr,hT,hle,?_⟩
        · simp only[Bool.and_eq_true,Option.isNone_iff_eq_none] at hz
          obtain⟨hz,rfl⟩:=hz
          simp[h0 hz]
        · rcases h4 with ⟨a,b,c⟩ | ⟨F,ep,rfl,b,c,d⟩
          · have hv0:vs.length=0:=by rw[←hlen,b];rfl
            refine .inl ⟨?_,by rw[b];simp,c⟩
            rcases a with rfl | ⟨rfl,a2⟩
            · exact .inl rfl
            · exact .inr ⟨by simp[cutTok];omega,a2⟩
          · refine .inr ⟨F,ep,rfl,b,c,fun he=>?_⟩
            obtain⟨g,d1,d2,d3⟩:=d he
            refine⟨g,d1,d2,fun ht=>?_⟩
            simp only[Bool.and_eq_true,Option.isNone_iff_eq_none] at ht
            obtain⟨ht,rfl⟩:=ht
            have:=d3 ht
            have hn':n.getD 0≤vs.length:=hn
            have e:(List.drop (n.getD 0) (List.take (Option.getD none vs.length) xs)).length=vs.length-n.getD 0:=by simp[hlen]
            rw[e]
            rw[hlen] at this
            omega
     · simp only[sliceB,hu,hs,Option.isSome_some,true_and,Option.some.injEq]
       rw[if_pos hq]
       simp only[g2,g5]
   · simp at h
 · rename_i elem hu
   split at h
   · rename_i hs
     obtain⟨q,rfl⟩:=hx
     obtain⟨m,g1,g2,g3⟩:=sbnd_rel h hh
     obtain⟨n,g4,g5,g6⟩:=sbnd_rel g1 hl
     have hm:m.getD 0=0:=by
      cases m with
      | none=>rfl
      | some m=>have:=g3 m rfl;simp;omega
     rw[hm] at g5 g6
     have hn:n.getD 0=0:=by
      cases n with
      | none=>rfl
      | some n=>have:=g6 n rfl;simp;omega
     refine⟨.nill,.list .nil 0 q [],⟨q,rfl⟩,g4,?_⟩
     simp only[sliceB,hu,hs,true_or,and_self,if_true,List.length_nil,g2,hm,g5,hn,cutTok,List.take_nil,List.drop_nil,Nat.add_zero]
   · simp at h
 · simp at h
theorem selI_elim {n:Int} {K:Nat→Option ρ}:∀{k i:Nat},selI n K k i=some r→∃m:Nat,n=m∧i≤m∧m<i+k∧K m=some r
 | 0,i,h=>by simp[selI] at h
 | k+1,i,h=>by
  unfold selI at h
  split at h
  · rename_i hc
    exact⟨i,by simpa using hc,Nat.le_refl _,by omega,h⟩
  · obtain⟨m,h1,h2,h3,h4⟩:=selI_elim h
    exact⟨m,h1,by omega,by omega,h4⟩
theorem sindex_rel {t:TypeId} {x:SV} {v:V} {n:Int} {K:SV→Option ρ} (h:sindex P t x n K=some r) (hx:Rel X x v) :
 ∃z u,Rel X z u∧K z=some r∧indexB P t v n=some u:=by
 unfold sindex at h
 split at h
 · rename_i s hu
   simp only[Rel] at hx;subst hx
   obtain⟨m,rfl,h1⟩:=natOf_elim h
   obtain⟨b,h2,h3⟩:=bnd_elim h1
   refine⟨.int .u8 b.toNat,.int .u8 b.toNat,rfl,h3,?_⟩
   simp only[indexB,hu]
   rw[if_pos (by omega)]
   simp[h2]
 · rename_i len elem cs hu
   obtain⟨vs,rfl,hx⟩:=hx
   split at h
   · rename_i sz hs
     obtain⟨m,rfl,_,hm,h⟩:=selI_elim h
     split at h
     · rename_i z hz
       obtain⟨u,h1,h2⟩:=spart_rel hz hx
       refine⟨z,u,h2,h,?_⟩
       simp only[indexB,hu]
       rw[if_pos (by omega),hs]
       simpa using h1
     · simp at h
   · simp at h
 · simp at h
theorem sindexAddr_rel {t:TypeId} {x:SV} {v:V} {n:Int} {K:SV→Option ρ} (h:sindexAddr P t x n K=some r) (hx:Rel X x v) :
 ∃z u,Rel X z u∧K z=some r∧indexAddrB P t v n=some u:=by
 unfold sindexAddr at h
 split at h
 · rename_i elem T tk xs hu
   split at h
   · rename_i hs
     obtain⟨t0,off,q,vs,rfl,h1,h2⟩:=hx
     obtain⟨m,rfl,h3⟩:=natOf_elim h
     obtain⟨e,h4,h5⟩:=bnd_elim h3
     obtain⟨w,h6,h7⟩:=h2.get h4
     have hne:xs≠[]:=by rintro rfl;simp at h4
     have hq:q=T.size∧TokE X T tk t0 (off+m) m:=by
      cases tk with
      | ro =>
       refine⟨?_,h1.2⟩
       rcases h1.1 with ⟨_,a⟩ | ⟨_,a⟩
       · exact absurd a hne
       · exact a
      | clip=>exact⟨h1.2.1,h1.1⟩
      | own f e z tip =>
       obtain⟨h0,r,hr,hT,hle,h4⟩:=h1
       rcases h4 with ⟨_,b,_⟩ | ⟨F,ep,a,b,c,d⟩
       · exact absurd b hne
       · refine⟨b,fun hz=>by rw[h0 hz];omega,r,hr,hT,hle,⟨F,ep,a,c,fun he=>?_⟩⟩
         obtain⟨g,d1,d2,_⟩:=d he
         exact⟨g,d1,d2⟩
     refine⟨.elem T tk m 0 e,.eptr t0 (off+m) 0 w,⟨t0,_,w,rfl,hq.2,h7⟩,h5,?_⟩
     simp only[indexAddrB,hu,hs,Int.toNat_natCast,h6]
     rw[if_pos ⟨by omega,by rw[hq.1]⟩]
     rfl
   · simp at h
 · rename_i len elem i off hu
   obtain⟨hi,rfl⟩:=hx
   split at h
   · rename_i hc
     split at h
     · rename_i sz hs
       refine⟨.ptr i (off+n.toNat*sz),_,⟨hi,rfl⟩,h,?_⟩
       simp only[indexAddrB,hu]
       rw[if_pos hc,hs];rfl
     · simp at h
   · simp at h
 · rename_i len elem T tk m off e hu
   obtain⟨t0,idx,w,rfl,h1,h2⟩:=hx
   split at h
   · rename_i hc
     split at h
     · rename_i sz hs
       refine⟨.elem T tk m (off+n.toNat*sz) e,_,⟨t0,idx,w,rfl,h1,h2⟩,h,?_⟩
       simp only[indexAddrB,hu]
       rw[if_pos hc,hs];rfl
     · simp at h
   · simp at h
 · simp at h
theorem sfieldAddr_rel {t:TypeId} {x z:SV} {v:V} {f:Nat} (h:sfieldAddr P t x f=some z) (hx:Rel X x v):∃u,Rel X z u∧fieldAddrB P t v f=some u:=by
 unfold sfieldAddr at h
 unfold fieldAddrB
 split at h
 · rename_i fields hu
   rw[hu]
   simp only
   split at h
   · rename_i fl hf
     rw[hf]
     simp only
     split at h
     · rename_i sz hs
       rw[hs]
       simp only
       split at h
       · simp only[Option.some.injEq] at h;subst h
         obtain⟨hi,rfl⟩:=hx
         exact⟨_,⟨hi,rfl⟩,rfl⟩
       · simp only[Option.some.injEq] at h;subst h
         obtain⟨t0,idx,w,rfl,h1,h2⟩:=hx
         exact⟨_,⟨t0,idx,w,rfl,h1,h2⟩,rfl⟩
       · simp at h
     · simp at h
   · simp at h
 · simp at h
theorem sfield_rel {t:TypeId} {x z:SV} {v:V} {f:Nat} (h:sfield P t x f=some z) (hx:Rel X x v):∃u,Rel X z u∧fieldB P t v f=some u:=by
 unfold sfield at h
 unfold fieldB
 split at h
 · rename_i fields cs hu
   rw[hu]
   obtain⟨vs,rfl,hx⟩:=hx
   simp only
   split at h
   · rename_i fl hf
     rw[hf]
     obtain⟨u,h1,h2⟩:=spart_rel h hx
     exact⟨u,h2,h1⟩
   · simp at h
 · simp at h
def PR (X:XC):List (Nat×SV)→List (Nat×V)→Prop:=All2 fun p q=>p.1=q.1∧Rel X p.2 q.2
theorem PR.of {s:List SV} {S:List V} (h:RelL X s S):∀l:List (Nat×Operand),PR X (l.map fun p=>(p.1,sev s p.2)) (l.map fun p=>(p.1,ev S p.2))
 | []=>trivial
 | p::l=>⟨⟨rfl,sev_rel h p.2⟩,PR.of h l⟩
theorem sfill_rel {place:Nat→Option (Nat×Nat)}:∀{parts:List (Nat×SV)} {parts':List (Nat×V)} {cs:List SV} {vs:List V} {z:List SV},
 sfill place cs parts=some z→PR X parts parts'→RelL X cs vs→∃u,RelL X z u∧fillB place vs parts'=some u
 | [],parts',cs,vs,z,h,hp,hc=>by
  simp only[sfill,Option.some.injEq] at h;subst h
  obtain rfl:=hp.nil_left
  exact⟨vs,hc,rfl⟩
 | (i,x)::parts,[],cs,vs,z,h,hp,hc=>by simp[PR,All2] at hp
 | (i,x)::parts,(j,v)::parts',cs,vs,z,h,hp,hc=>by
  obtain⟨⟨rfl,hx⟩,hp⟩:=hp
  simp only[sfill] at h
  split at h
  · simp at h
  · rename_i off size hpl
    split at h
    · rename_i vc hf
      obtain⟨vv,h1,h2⟩:=hx.flat hf
      split at h
      · rename_i hcond
        obtain⟨u,h3,h4⟩:=sfill_rel h hp (hc.spliced h2 off)
        refine⟨u,h3,?_⟩
        simp only[fillB,hpl,h1]
        rw[if_pos ⟨h2.len▸hcond.1,hc.len▸hcond.2⟩]
        exact h4
      · simp at h
    · simp at h
theorem sbuild_rel {t:TypeId} {parts:List (Nat×SV)} {parts':List (Nat×V)} {z:SV} (h:sbuild P t parts=some z) (hp:PR X parts parts'):∃u,Rel X z u∧buildB P t parts'=some u:=by
 unfold sbuild at h
 split at h
 · rename_i z0 fields hz hu
   obtain⟨v0,h1,h2⟩:=szero_rel (X:=X) hz
   obtain⟨vs,rfl,h2⟩:=h2
   split at h
   · rename_i hall
     simp only[Option.map_eq_some_iff] at h
     obtain⟨cs,h3,rfl⟩:=h
     obtain⟨u,h4,h5⟩:=sfill_rel h3 hp h2
     refine⟨.agg u,⟨u,rfl,h4⟩,?_⟩
     simp only[buildB,h1,hu,hall,if_true]
     rw[h5];rfl
   · simp at h
 · rename_i z0 n elem hz hu
   obtain⟨v0,h1,h2⟩:=szero_rel (X:=X) hz
   obtain⟨vs,rfl,h2⟩:=h2
   split at h
   · rename_i n hn
     simp only[Option.map_eq_some_iff] at h
     obtain⟨cs,h3,rfl⟩:=h
     obtain⟨u,h4,h5⟩:=sfill_rel h3 hp h2
     refine⟨.agg u,⟨u,rfl,h4⟩,?_⟩
     simp only[buildB,h1,hu,hn]
     rw[h5];rfl
   · simp at h
 · simp at h
theorem sminStep_rel {k:IntKind} {a b:Option SV} {y:SV} {va:Option V} {w:V} {z:SV} (h:sminStep k a y=some z) (ha:∀x,a=some x→∃v,va=some v∧Rel X x v) (hy:Rel X y w):∃u,minStep k va w=some u∧Rel X z u:=by
 unfold sminStep at h
 split at h
 · split at h
   · rename_i hk
     obtain⟨v,rfl,hv⟩:=ha _ rfl
     simp only[Rel] at hv hy;subst hv hy
     simp only[Option.some.injEq] at h;subst h
     exact⟨_,by simp only[minStep];rw[if_pos hk],rfl⟩
   · simp at h
 · simp at h
theorem smaxStep_rel {k:IntKind} {a b:Option SV} {y:SV} {va:Option V} {w:V} {z:SV} (h:smaxStep k a y=some z) (ha:∀x,a=some x→∃v,va=some v∧Rel X x v) (hy:Rel X y w):∃u,maxStep k va w=some u∧Rel X z u:=by
 unfold smaxStep at h
 split at h
 · split at h
   · rename_i hk
     obtain⟨v,rfl,hv⟩:=ha _ rfl
     simp only[Rel] at hv hy;subst hv hy
     simp only[Option.some.injEq] at h;subst h
     exact⟨_,by simp only[maxStep];rw[if_pos hk],rfl⟩
   · simp at h
 · simp at h
theorem smin_rel {k:IntKind}:∀{l:List SV} {m:List V} {a:Option SV} {va:Option V} {z:SV},l.foldl (sminStep k) a=some z→RelL X l m→(∀x,a=some x→∃v,va=some v∧Rel X x v)→∃u,m.foldl (minStep k) va=some u∧Rel X z u
 | [],m,a,va,z,h,hl,ha=>by
  simp only[RelL] at hl;subst hl
  exact ha z h
 | x::l,m,a,va,z,h,hl,ha=>by
  obtain⟨v,m,rfl,h1,h2⟩:=hl
  simp only[List.foldl_cons] at h ⊢
  refine smin_rel h h2 fun y hy=>?_
  obtain⟨u,e1,e2⟩:=sminStep_rel (b:=none) hy ha h1
  exact⟨u,e1,e2⟩
theorem smax_rel {k:IntKind}:∀{l:List SV} {m:List V} {a:Option SV} {va:Option V} {z:SV},l.foldl (smaxStep k) a=some z→RelL X l m→(∀x,a=some x→∃v,va=some v∧Rel X x v)→∃u,m.foldl (maxStep k) va=some u∧Rel X z u
 | [],m,a,va,z,h,hl,ha=>by
  simp only[RelL] at hl;subst hl
  exact ha z h
 | x::l,m,a,va,z,h,hl,ha=>by
  obtain⟨v,m,rfl,h1,h2⟩:=hl
  simp only[List.foldl_cons] at h ⊢
  refine smax_rel h h2 fun y hy=>?_
  obtain⟨u,e1,e2⟩:=smaxStep_rel (b:=none) hy ha h1
  exact⟨u,e1,e2⟩
end
end Go.Abs

namespace Go.Abs
open Go
section
variable {E E':GE} {ss ss':SS} {st st':St} {P:Program} {ρ:Type} {r:ρ}
theorem XR.fams (hX:XR E ss st) {rows':List SRow} {fams':List Fam} (hmu:E'.mu=E.mu) (tr:Tr E ss st E' { ss with rows:=rows' } { st with fams:=fams' })
 (I':XI (E'.X { ss with rows:=rows' } { st with fams:=fams' })) (hk:∀F∈st.kills,∀f r,rows'[f]? = some r→E'.chi f=some F→f∈ss.kills):XR E' { ss with rows:=rows' } { st with fams:=fams' } where
 I:=I'
 box i b hb:=by
  have:=(hX.box i b hb).stay0 tr.stay0
  rw[hmu]
  exact this
 binj i j b b' h1 h2 h3 h4 h5:=hX.binj i j b b' h1 h2 h3 h4 (by rwa [hmu] at h5)
 lo:=hX.lo
 kill F hF:=⟨Nat.lt_of_lt_of_le (hX.kill F hF).1 tr.fams,hk F hF⟩
 kill0 h:=hX.kill0 h
def RowsLe (rows' rows:List SRow):Prop:=∀i:Nat,match rows[i]?,rows'[i]? with
 | none,none=>True
 | some r,some r'=>r'.T=r.T∧r'.ty=r.ty∧r'.cur=r.cur∧(r'.wr=true→r.wr=true)∧r'.made=r.made
 | _,_=>False
theorem RowsLe.refl (rows:List SRow):RowsLe rows rows:=fun i=>by cases rows[i]?<;>simp
theorem RowsLe.trans {a b c:List SRow} (h:RowsLe b a) (h2:RowsLe c b):RowsLe c a:=fun i=>by
 have h1:=h i
 have h3:=h2 i
 cases ha:a[i]?<;>cases hb:b[i]?<;>cases hc:c[i]?<;>rw[ha,hb] at h1<;>rw[hb,hc] at h3<;>simp_all
theorem RowsLe.some {rows' rows:List SRow} (h:RowsLe rows' rows) {i:Nat} {r:SRow} (hr:rows[i]? = some r):∃r',rows'[i]? = some r'∧r'.T=r.T∧r'.ty=r.ty∧r'.cur=r.cur∧(r'.wr=true→r.wr=true)∧r'.made=r.made:=by
 have:=h i
 rw[hr] at this
 cases hc:rows'[i]? with
 | none=>rw[hc] at this;exact this.elim
 | some r'=>rw[hc] at this;exact⟨r',rfl,this⟩
theorem RowsLe.inv {rows' rows:List SRow} (h:RowsLe rows' rows) {i:Nat} {r':SRow} (hr:rows'[i]? = Option.some r'):∃r,rows[i]? = Option.some r∧r'.T=r.T∧r'.ty=r.ty∧r'.cur=r.cur∧(r'.wr=true→r.wr=true)∧r'.made=r.made:=by
 have:=h i
 rw[hr] at this
 cases hc:rows[i]? with
 | none=>rw[hc] at this;exact this.elim
 | some r=>rw[hc] at this;exact⟨r,rfl,this⟩
theorem setWr_le (rows:List SRow) (f:Nat):RowsLe (setWr rows f) rows:=by
 unfold setWr
 split
 · rename_i r hr
   split
   · intro i
     by_cases he:f=i
     · subst he
       have:=(List.getElem?_eq_some_iff.1 hr).1
       rw[List.getElem?_set,if_pos rfl,if_pos this,hr]
       simp
     · rw[List.getElem?_set,if_neg he]
       exact RowsLe.refl rows i
   · exact RowsLe.refl rows
 · exact RowsLe.refl rows
theorem setWr_wr (rows:List SRow) (f:Nat) (r':SRow) (h:(setWr rows f)[f]? = some r'):r'.wr=false:=by
 unfold setWr at h
 split at h
 · rename_i r hr
   split at h
   · have:=(List.getElem?_eq_some_iff.1 hr).1
     rw[List.getElem?_set] at h
     simp[this] at h
     subst h;rfl
   · rename_i hw
     rw[hr] at h;cases h
     simpa using hw
 · rename_i hr;rw[hr] at h;simp at h
theorem foldWr_le:∀(l:List Nat) (rows:List SRow),RowsLe (l.foldl setWr rows) rows
 | [],rows=>RowsLe.refl rows
 | f::l,rows=>(setWr_le rows f).trans (foldWr_le l _)
theorem foldWr_wr:∀(l:List Nat) (rows:List SRow) (f:Nat),f∈l→∀r',(l.foldl setWr rows)[f]? = some r'→r'.wr=false
 | g::l,rows,f,hf,r',h=>by
  rcases List.mem_cons.1 hf with rfl | hf
  · obtain⟨r,h1,_,_,_,h2,_⟩:=(foldWr_le l (setWr rows f)).inv h
    have:=setWr_wr rows f r h1
    cases hw:r'.wr with
    | false=>rfl
    | true=>rw[h2 hw] at this;simp at this
  · exact foldWr_wr l _ f hf r' h
theorem retire_le (ss:SS) (l:List Nat):RowsLe (ss.retire l).rows ss.rows:=by
 cases l with
 | nil=>exact RowsLe.refl _
 | cons f l=>exact foldWr_le (f::l) ss.rows
theorem retire_eq (ss:SS) (l:List Nat):ss.retire l={ ss with rows:=(ss.retire l).rows }:=by
 cases l<;>rfl
theorem retire_wr (ss:SS) (l:List Nat) (f:Nat) (hf:f∈l) (r':SRow) (h:(ss.retire l).rows[f]? = some r'):r'.wr=false:=by
 cases l with
 | nil=>simp at hf
 | cons g l=>exact foldWr_wr (g::l) ss.rows f hf r' h
theorem Tr.le {rows':List SRow} (h:RowsLe rows' ss.rows):Tr E ss st E { ss with rows:=rows' } st where
 yy:=⟨rfl,rfl,rfl⟩
 flo:=rfl
 lo:=rfl
 N:=rfl
 fams:=Nat.le_refl _
 heap:=Nat.le_refl _
 nb:=Nat.le_refl _
 mu _ _:=rfl
 W F hw:=by
  obtain⟨f,r',h1,h2,h3⟩:=hw
  obtain⟨r,g1,_,_,_,g2,_⟩:=h.inv h1
  exact .inl ⟨f,r,g1,g2 h2,h3⟩
 rows f r hr:=by
  obtain⟨r',h1,h2,_,h4,_⟩:=h.some hr
  exact⟨r',h1,h2,Nat.le_of_eq h4.symm,.inl rfl,fun _ F g _ hg=>⟨g,hg,rfl,rfl⟩⟩
 kill _ h:=.inl h
 fresh f r' F h1 h2:=by
  obtain⟨r,g1,_⟩:=h.inv h1
  exact .inl ⟨r,g1,h2⟩
theorem XI.le {X:XC} {rows':List SRow} (I:XI X) (h:RowsLe rows' X.rows):XI { X with rows:=rows' } where
 rows f r' F hr hc:=by
  obtain⟨r,g1,g2,g3,_,g4,g5⟩:=h.inv hr
  obtain⟨g,h1,h2,h3,h4,h5,h6,h7⟩:=I.rows f r F g1 hc
  exact⟨g,h1,h2,by rw[g2];exact h3,by rw[g3];exact h4,fun hw=>h5 (g4 hw),h6.trans g5.symm,h7⟩
 inj f f' r r' F h1 h2 h3 h4:=by
  obtain⟨q,g1,_⟩:=h.inv h1
  obtain⟨q',g2,_⟩:=h.inv h2
  exact I.inj f f' q q' F g1 g2 h3 h4
 nwr f r' hr hc:=by
  obtain⟨r,g1,_,_,_,g4,g5⟩:=h.inv hr
  intro hw
  rw[g5]
  exact I.nwr f r g1 hc (g4 hw)
 nmk f r' hr hc:=by
  obtain⟨r,g1,g2,_,_,_,g5⟩:=h.inv hr
  rw[g5,g2];exact I.nmk f r g1 hc
 nlo:=I.nlo
 flo:=I.flo
theorem XR.retire (hX:XR E ss st) (l:List Nat):XR E (ss.retire l) st:=by
 rw[retire_eq]
 exact hX.fams (st:=st) (fams':=st.fams) rfl (Tr.le (retire_le ss l)) (hX.I.le (retire_le ss l)) fun F hF f r hr hc=>by
  obtain⟨q,g1,_⟩:=(retire_le ss l).inv hr
  exact (hX.kill F hF).2 f q g1 hc
theorem Tr.retire (l:List Nat):Tr E ss st E (ss.retire l) st:=by
 rw[retire_eq];exact Tr.le (retire_le ss l)
theorem ret_of (l:List Nat):∀f∈l,Ret (E.X (ss.retire l) st) f:=fun f hf r hr=>retire_wr ss l f hf r hr
def GE.box (E:GE) (n h:Nat):GE:={ E with mu:=fun i=>if i=n then h else E.mu i }
theorem Tr.alloc (b:SBox) (bx:Box):Tr E ss st (E.box ss.boxes.length st.heap.length) { ss with boxes:=ss.boxes++[b] } { st with heap:=st.heap++[bx] } where
 yy:=⟨rfl,rfl,rfl⟩
 flo:=rfl
 lo:=rfl
 N:=rfl
 fams:=Nat.le_refl _
 heap:=by simp
 nb:=by simp
 mu i hi:=by simp[GE.box];omega
 W _ h:=.inl h
 rows f r h:=⟨r,h,rfl,Nat.le_refl _,.inl rfl,fun _ F g _ hg=>⟨g,hg,rfl,rfl⟩⟩
 kill _ h:=.inl h
 fresh f r' F h1 h2:=.inl ⟨r',h1,h2⟩
theorem XR.alloc (hX:XR E ss st) {b:SBox} {bx:Box} (hb:BR ((E.box ss.boxes.length st.heap.length).X { ss with boxes:=ss.boxes++[b] } { st with heap:=st.heap++[bx] }) st.lo (st.heap++[bx]) st.heap.length b) :
 XR (E.box ss.boxes.length st.heap.length) { ss with boxes:=ss.boxes++[b] } { st with heap:=st.heap++[bx] } where
 I:=⟨hX.I.rows,hX.I.inj,hX.I.nwr,hX.I.nmk,hX.I.nlo,hX.I.flo⟩
 box i c hc:=by
  by_cases hi:i<ss.boxes.length
  · have hc':ss.boxes[i]? = some c:=by rwa [List.getElem?_append_left hi] at hc
    have h1:=(hX.box i c hc').stay0 (Tr.alloc (E:=E) (ss:=ss) (st:=st) b bx).stay0
    have hmu:(E.box ss.boxes.length st.heap.length).mu i=E.mu i:=by simp[GE.box];omega
    rw[hmu]
    exact h1.heap fun hl=>List.getElem?_append_left ((hX.box i c hc').lt hl)
  · have hi':i=ss.boxes.length:=by
     have:=(List.getElem?_eq_some_iff.1 hc).1
     simp at this;omega
    subst hi'
    simp at hc;subst hc
    have hmu:(E.box ss.boxes.length st.heap.length).mu ss.boxes.length=st.heap.length:=by simp[GE.box]
    rw[hmu]
    exact hb
 binj i j c c' h1 h2 h3 h4 h5:=by
  have key:∀(i:Nat) (c:SBox),(ss.boxes++[b])[i]? = some c→c.live=true→(i<ss.boxes.length∧(E.box ss.boxes.length st.heap.length).mu i=E.mu i∧E.mu i<st.heap.length∧ss.boxes[i]? = some c)∨(i=ss.boxes.length∧(E.box ss.boxes.length st.heap.length).mu i=st.heap.length):=by
   intro i c hc hl
   by_cases hi:i<ss.boxes.length
   · have hc':ss.boxes[i]? = some c:=by rwa [List.getElem?_append_left hi] at hc
     exact .inl ⟨hi,by simp[GE.box];omega,(hX.box i c hc').lt hl,hc'⟩
   · have hi':i=ss.boxes.length:=by
      have:=(List.getElem?_eq_some_iff.1 hc).1
      simp at this;omega
     exact .inr ⟨hi',by simp[GE.box,hi']⟩
  rcases key i c h1 h2 with ⟨a1,a2,a3,a4⟩ | ⟨a1,a2⟩<;>rcases key j c' h3 h4 with ⟨b1,b2,b3,b4⟩ | ⟨b1,b2⟩
  · exact hX.binj i j c c' a4 h2 b4 h4 (by rw[a2,b2] at h5;exact h5)
  · rw[a2,b2] at h5;omega
  · rw[a2,b2] at h5;omega
  · omega
 lo:=by have:=hX.lo;simp;omega
 kill:=hX.kill
 kill0:=hX.kill0
theorem boxes_set {X:XC} (hX:XR E ss st) {i:Nat} {b b':SBox} {bx:Box} (hi:ss.boxes[i]? = some b) (hl:b.live=true) (hl':b'.live=true)
 (hb:BR (E.X ss st) st.lo (st.heap.set (E.mu i) bx) (E.mu i) b'):XR E { ss with boxes:=ss.boxes.set i b' } { st with heap:=st.heap.set (E.mu i) bx } ∧
  Tr E ss st E { ss with boxes:=ss.boxes.set i b' } { st with heap:=st.heap.set (E.mu i) bx }:=by
 have hX':E.X { ss with boxes:=ss.boxes.set i b' } { st with heap:=st.heap.set (E.mu i) bx }=E.X ss st:=by simp[GE.X]
 refine⟨⟨by rw[hX'];exact hX.I,?_,?_,by simpa using hX.lo,hX.kill,hX.kill0⟩,⟨rfl,rfl,rfl,Nat.le_refl _,by simp,by simp,fun _ _=>rfl,fun F h=>.inl h,fun f r h=>⟨r,h,rfl,Nat.le_refl _,.inl rfl,fun _ F g _ hg=>⟨g,hg,rfl,rfl⟩⟩,fun _ h=>.inl h,fun f r' F h1 h2=>.inl ⟨r',h1,h2⟩,⟨rfl,rfl,rfl⟩⟩⟩
 · intro j c hc
   rw[hX']
   simp only[List.getElem?_set] at hc
   split at hc
   · rename_i he
     subst he
     split at hc
     · cases hc;exact hb
     · simp at hc
   · rename_i hne
     refine (hX.box j c hc).heap fun hcl=>?_
     rw[List.getElem?_set]
     rw[if_neg]
     intro e
     exact hne (hX.binj i j b c hi hl hc hcl e)
 · intro j k c c' h1 h2 h3 h4 h5
   have key:∀(j:Nat) (c:SBox),(ss.boxes.set i b')[j]? = some c→c.live=true→∃c',ss.boxes[j]? = some c'∧c'.live=true:=by
    intro j c hc hcl
    simp only[List.getElem?_set] at hc
    split at hc
    · rename_i he;subst he;exact⟨b,hi,hl⟩
    · exact⟨c,hc,hcl⟩
   obtain⟨d,d1,d2⟩:=key j c h1 h2
   obtain⟨d',d3,d4⟩:=key k c' h3 h4
   exact hX.binj j k d d' d1 d2 d3 d4 h5
theorem ERe.flat {N:Nat→Prop} {T:Ty} {x:T.den} {v:V} (h:ERe N T x v):v.flat=some v.cells:=by
 obtain⟨cs,h1,h2⟩:=h
 split at h2
 · subst h2;rfl
 · subst h2
   have:=ERc.nagg T h1 v (by simp)
   have key:∀(T:Ty) {x:T.den} {vs:List V},ERc N T x vs→∀v∈vs,v.flat=some [v]:=by
    intro T
    induction T with
    | unit=>intro x vs q v hv;simp only[ERc] at q;subst q;simp at hv
    | int k=>intro x vs q v hv;simp only[ERc] at q;subst q;simp at hv;subst hv;rfl
    | bool=>intro x vs q v hv;simp only[ERc] at q;subst q;simp at hv;subst hv;rfl
    | str=>intro x vs q v hv;simp only[ERc] at q;subst q;simp at hv;subst hv;rfl
    | list t _=>intro x vs q v hv;obtain⟨tk,off,k,xs,rfl,_⟩:=q;simp at hv;subst hv;rfl
    | cons a b iha ihb =>
     intro x vs q v hv
     obtain⟨v1,v2,rfl,h2,h3⟩:=q
     rcases List.mem_append.1 hv with h | h
     · exact iha h2 v h
     · exact ihb h3 v h
    | agg a iha=>intro x vs q v hv;exact iha (x:=x) q v hv
   rw[this]
   exact key T h1 v (by simp)
theorem free_flat {F:Nat} {v:V} {vs:List V} (hf:v.flat=some vs) (h:vs.all (V.free F)=true):v.free F=true:=by
 cases v with
 | agg cs=>simp only[V.flat,Option.some.injEq] at hf;subst hf;simpa[V.free,frees_all] using h
 | any=>simp[V.flat] at hf
 | tup=>simp[V.flat] at hf
 | _=>simp only[V.flat,Option.some.injEq] at hf;subst hf;simpa using h
theorem sstore_rel (hX:XR E ss st) {s:List SV} {S:List V} (hs:RelL (E.X ss st) s S) {t:TypeId} {p v:SV} {p' v':V} {K:SV→List SV→SS→Option ρ} (h:sstore P s ss t p v K=some r)
 (hp:Rel (E.X ss st) p p') (hv:Rel (E.X ss st) v v') :
 ∃s' ss' S' st',storeB P S st t p' v'=some (S',st')∧RelL (E.X ss' st') s' S'∧XR E ss' st'∧Tr E ss st E ss' st'∧(ss'.kills.length=ss.kills.length→st'.kills.length=st.kills.length)∧K (.tup []) s' ss'=some r:=by
 unfold sstore at h
 split at h
 · rename_i vc hf
   obtain⟨vv,hf',hvc⟩:=hv.flat hf
   split at h
   · rename_i hsz
     split at h
     · rename_i i off
       obtain⟨hi,rfl⟩:=hp
       split at h
       · rename_i t0 cs hb
         split at h
         · rename_i hle
           obtain⟨vs,h1,h2,h3⟩:=hX.box i _ hb
           have hlen:E.mu i<st.heap.length:=(List.getElem?_eq_some_iff.1 h1).1
           obtain⟨g1,g2⟩:=boxes_set (X:=E.X ss st) hX (b':=.cells t0 true (ssplice cs off vc)) (bx:=.cells t0 (splice vs off vv)) hb rfl rfl
            ⟨_,by simp[hlen],h2.spliced hvc off,h3⟩
           refine⟨s,_,S,_,?_,hs.stay0 g2.stay0,g1,g2,fun _=>rfl,h⟩
           simp only[storeB,hf',←hvc.len,hsz,if_true]
           rw[if_pos (h3 rfl),h1]
           simp only[←h2.len,if_pos hle]
         · simp at h
       · simp at h
     · rename_i T f e tip m off x
       obtain⟨tk,idx,w,rfl,h1,h2⟩:=hp
       split at h
       · rename_i r0 hr0
         obtain⟨c0,T0,ty0,w0,m0⟩:=r0
         simp only at h
         split at h
         · rename_i hc
           obtain⟨hc1,hc2,hc3,hc4⟩:=hc
           split at h
           · rename_i y hy
             subst hc3
             have hX2:=hX.retire (SV.toksL vc)
             have tr2:Tr E ss st E (ss.retire (SV.toksL vc)) st:=Tr.retire (SV.toksL vc)
             have hs2:=hs.stay0 tr2.stay0
             have hvc2:=hvc.stay0 tr2.stay0
             obtain⟨q,hq,hwr⟩:∃q,(ss.retire (SV.toksL vc)).rows[f]? = some q∧q.wr=true:=by
              cases hq:(ss.retire (SV.toksL vc)).rows[f]? with
              | none=>rw[hq] at hc2;simp at hc2
              | some q=>rw[hq] at hc2;exact⟨q,rfl,by simpa using hc2⟩
             obtain⟨qc,qT,qty,qw,qm⟩:=q
             obtain⟨r1,e1,e2,e3,e4,e5,_⟩:=(retire_le ss (SV.toksL vc)).inv hq
             rw[hr0] at e1;cases e1
             simp only at e2 e3 e4 e5 hwr hc1
             subst e2 e4 hc1
             obtain⟨hz,r2,hr2,hT,hle,h4⟩:=h1
             rw[show (E.X ss st).rows[f]? = some _ from hr0] at hr2;cases hr2
             have hidx:=hz rfl
             subst hidx
             have hchi:∃F ep,tk=.own F ep∧E.chi f=some F∧∃g,st.fams[F]? = some g∧ep=g.ep:=by
              obtain⟨F,ep,a,c,d⟩:=h4
              · obtain⟨g,d1,d2⟩:=d rfl
                exact⟨F,ep,a,c,g,d1,d2⟩
             obtain⟨F,ep,rfl,hF,g,hg,rfl⟩:=hchi
             obtain⟨g',j1,j2,j3,j4,j5,_⟩:=hX2.I.rows f _ F hq hF
             rw[show (E.X (ss.retire (SV.toksL vc)) st).fams[F]? = some g from hg] at j1;cases j1
             have hW:(E.X (ss.retire (SV.toksL vc)) st).W F:=⟨f,_,hq,hwr,hF⟩
             have hnp:=hX2.I.w_np hW
             have h2':ERe (E.X (ss.retire (SV.toksL vc)) st).np qT x w:=h2.mono (Tr.np tr2)
             have hcells:=cells_rel qT h2'.cells
             have hspl:=hcells.spliced hvc2 off
             have htoks:∀f'∈SV.toksL (ssplice (qT.cells x) off vc),Ret (E.X (ss.retire (SV.toksL vc)) st) f':=by
              intro f' hf'
              have hsub:∀(l l':List SV),SV.toksL (l++l')=SV.toksL l++SV.toksL l':=by
               intro l l'
               induction l with
               | nil=>simp[SV.toksL]
               | cons a l ih=>simp[SV.toksL,ih]
              have hnone:∀(T:Ty) (x:T.den),SV.toksL (T.cells x)=[]:=by
               intro T
               induction T with
               | cons a b iha ihb=>intro x;simp[Ty.cells,hsub,iha,ihb]
               | agg a ih=>intro x;exact ih x
               | _=>intro x;simp[Ty.cells,SV.toksL,SV.toks]
              have htake:∀(l:List SV) n,SV.toksL l=[]→SV.toksL (l.take n)=[]:=by
               intro l
               induction l with
               | nil=>intro n _;simp[SV.toksL]
               | cons a l ih =>
                intro n hn
                cases n with
                | zero=>simp[SV.toksL]
                | succ n =>
                 simp only[SV.toksL,List.append_eq_nil_iff] at hn
                 simp[SV.toksL,hn.1,ih n hn.2]
              have hdrop:∀(l:List SV) n,SV.toksL l=[]→SV.toksL (l.drop n)=[]:=by
               intro l
               induction l with
               | nil=>intro n _;simp[SV.toksL]
               | cons a l ih =>
                intro n hn
                cases n with
                | zero=>simpa using hn
                | succ n =>
                 simp only[SV.toksL,List.append_eq_nil_iff] at hn
                 simpa using ih n hn.2
              simp only[ssplice,hsub,htake _ _ (hnone qT x),hdrop _ _ (hnone qT x),List.nil_append,List.append_nil] at hf'
              exact ret_of (SV.toksL vc) f' hf'
             have hyE:=decE_rel hX2.I hy hspl htoks
             have hwlen:w.cells.length=qT.size:=ERc.len qT h2.cells
             have hfree:(splice w.cells off vv).all (V.free F)=true:=ERc.holds (holds_free hnp) qT hyE
             have hfv:v'.free F=true:=by
              refine free_flat hf' ?_
              simp only[Go.Abs.splice,List.all_append,Bool.and_eq_true] at hfree
              exact hfree.1.2
             have hfw:w.free F=true:=ERe.holds (holds_free hnp) h2'
             have hnew:ERe (E.X (ss.retire (SV.toksL vc)) st).np qT y (reElem w (splice w.cells off vv)):=by
              obtain⟨cs0,k1,k2⟩:=h2'
              split at k2
              · rename_i ha
                subst k2
                exact⟨_,hyE,by simp[ha,reElem]⟩
              · rename_i ha
                subst k2
                have hwc:w.cells=[w]:=ERc.nagg qT k1 w (by simp)
                have hlen1:(splice w.cells off vv).length=1:=by rw[ERc.len qT hyE,←hwlen,hwc];rfl
                obtain⟨c,hc⟩:=List.length_eq_one_iff.1 hlen1
                refine⟨_,hyE,?_⟩
                rw[if_neg ha,hc]
                have:reElem w [c]=c:=by
                 unfold reElem
                 split
                 · rename_i cs0;simp only[V.cells] at hwc;have:=congrArg (fun l:List V=>SizeOf.sizeOf l) hwc;simp at this;omega
                 · rfl
                rw[this]
             have hupd:∀{xs:List SV} {vs:List V},RelL (E.X (ss.retire (SV.toksL vc)) st) xs vs→RelL (E.X (ss.retire (SV.toksL vc)) st) (SV.updL f qc idx qT y xs) (V.upds F g.ep idx (reElem w (splice w.cells off vv)) vs) :=
              fun hx=>RelL.upd (r:=⟨qc,qT,qty,qw,qm⟩) hX2.I hq hF hg hnp hnew hx
             have hXe:E.X { (ss.retire (SV.toksL vc)) with boxes:=(ss.retire (SV.toksL vc)).boxes.map (supdBox f qc idx qT y),kills:=f::(ss.retire (SV.toksL vc)).kills }
              { st with heap:=updHeap F g.ep idx (reElem w (splice w.cells off vv)) st.heap,kills:=F::st.kills }=E.X (ss.retire (SV.toksL vc)) st:=by simp[GE.X]
             have hinert:∀{T:Ty} {x:T.den} {v:V},ERe (E.X (ss.retire (SV.toksL vc)) st).np T x v→V.upd F g.ep idx (reElem w (splice w.cells off vv)) v=v:=fun hv=>ERe.fix (inert_upd hnp) hv
             have hbox:∀(i:Nat) (b:SBox),(ss.retire (SV.toksL vc)).boxes[i]? = some b→BR (E.X (ss.retire (SV.toksL vc)) st) st.lo (updHeap F g.ep idx (reElem w (splice w.cells off vv)) st.heap) (E.mu i) (supdBox f qc idx qT y b):=by
              intro i b hb
              have:=hX2.box i b hb
              cases b with
              | gone=>trivial
              | cells t w' cs =>
               obtain⟨vs,k1,k2,k3⟩:=this
               exact⟨_,by simp[updHeap,k1],hupd k2,k3⟩
              | mapo K T w' es =>
               obtain⟨vs,k1,k2,k3⟩:=this
               refine⟨vs,?_,k2,k3⟩
               have:vs.map (fun x=>(V.upd F g.ep idx (reElem w (splice w.cells off vv)) x.1,V.upd F g.ep idx (reElem w (splice w.cells off vv)) x.2))=vs:=k2.fix fun p q r=>by
                rw[hinert r.1,hinert r.2]
               simp only[updHeap,List.getElem?_map,k1,Option.map_some]
               rw[this]
             refine⟨_,{ (ss.retire (SV.toksL vc)) with boxes:=(ss.retire (SV.toksL vc)).boxes.map (supdBox f qc idx qT y),kills:=f::(ss.retire (SV.toksL vc)).kills },V.upds F g.ep idx (reElem w (splice w.cells off vv)) S,
              { st with heap:=updHeap F g.ep idx (reElem w (splice w.cells off vv)) st.heap,kills:=F::st.kills },?_,?_,?_,?_,?_,h⟩
             · simp only[storeB,hf',←hvc.len,hsz,if_true]
               rw[if_pos j2,hg,h2.flat]
               simp only
               rw[if_pos ⟨trivial,j5 hwr,by rw[hwlen];exact hc4,hfv,hfw⟩]
             · rw[hXe];exact hupd hs2
             · have hlive:∀b:SBox,(supdBox f qc idx qT y b).live=b.live:=fun b=>by cases b<;>rfl
               refine⟨by rw[hXe];exact hX2.I,fun i b hb=>?_,fun i j b b' a1 a2 a3 a4 a5=>?_,by have:=hX2.lo;simpa[updHeap] using this,?_,by simp⟩
               · rw[hXe]
                 simp only[List.getElem?_map,Option.map_eq_some_iff] at hb
                 obtain⟨b0,hb0,rfl⟩:=hb
                 exact hbox i b0 hb0
               · simp only[List.getElem?_map,Option.map_eq_some_iff] at a1 a3
                 obtain⟨c,c1,rfl⟩:=a1
                 obtain⟨c',c2,rfl⟩:=a3
                 exact hX2.binj i j c c' c1 (by rw[←hlive];exact a2) c2 (by rw[←hlive];exact a4) a5
               · intro G hG
                 rcases List.mem_cons.1 hG with rfl | hG
                 · refine⟨(List.getElem?_eq_some_iff.1 hg).1,fun f' r' hr' hc'=>?_⟩
                   have:=hX2.I.inj f' f r' _ G hr' hq hc' hF
                   simp[this]
                 · refine⟨(hX2.kill G hG).1,fun f' r' hr' hc'=>?_⟩
                   have:=(hX2.kill G hG).2 f' r' hr' hc'
                   simp[this]
             · refine⟨rfl,rfl,rfl,Nat.le_refl _,by simp[updHeap],by rw[retire_eq];simp,fun _ _=>rfl,fun G hG=>?_,fun f' r' hr'=>?_,fun G hG=>?_,fun f' r' G h1 h2=>tr2.fresh f' r' G h1 h2,⟨rfl,tr2.yy.2.1,rfl⟩⟩
               · rw[hXe] at hG;exact tr2.W G hG
               · exact tr2.rows f' r' hr'
               · rcases List.mem_cons.1 hG with rfl | hG
                 · rcases tr2.W G hW with h | h
                   · exact .inr (.inl h)
                   · exact .inr (.inr h)
                 · exact .inl hG
             · intro hk
               rw[retire_eq] at hk
               simp at hk
           · simp at h
         · simp at h
       · simp at h
     · simp at h
   · simp at h
 · simp at h
end
end Go.Abs
