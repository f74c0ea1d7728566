/- Part of a proof. -/
import Derived.Tactics
import Derived.Orders
import Derived.Laws.IdiomCopy
import Derived.Laws.Cells
import Derived.Laws.Append
import Derived.Laws.StructEq
import Derived.ChangeKeysEq
set_option linter.unusedSimpArgs false
set_option linter.unusedVariables false
set_option linter.unusedSectionVars false
namespace Go.Abs
inductive Tok where
 | nil | clip | ro | own (F ep:Nat)
 deriving DecidableEq,Repr,Inhabited
inductive V where
 | int (k:IntKind) (n:Int)
 | bool (b:Bool)
 | str (s:List UInt8)
 | list (t:Tok) (off sz:Nat) (xs:List V)
 | agg (cs:List V)
 | tup (vs:List V)
 | ptr (i off:Nat)
 | eptr (t:Tok) (idx off:Nat) (e:V)
 | nilp
 | func (fn:Fn) (first cap:List V)
 | nilf
 | iface (t:TypeId) (v:V)
 | nili
 | mapr (i:Nat)
 | nilm
 | dead
 | any
 deriving Inhabited,Repr
def V.cells:V→List V
 | .agg cs=>cs
 | v=>[v]
def V.flat:V→Option (List V)
 | .agg cs=>some cs
 | .any=>none
 | .tup _=>none
 | v=>some [v]
def ofVal:Nat→Value→V
 | 0,_=>.any
 | n+1,v=>match v with
  | .int k m=>.int k m
  | .bool b=>.bool b
  | .string s=>.str s.data.toList
  | .slice none 0 0=>.list .nil 0 0 []
  | .pointer none=>.nilp
  | .agg cs=>if cs.toList.all (·.oneCell') then .agg (cs.toList.map (ofVal n)) else .any
  | .nilFunc=>.nilf
  | .nilIface=>.nili
  | .map none=>.nilm
  | _=>.any
structure Fam where
 ep:Nat
 tip:Nat
 sz:Nat
 ty:TypeId
 wr:Bool
 deriving Repr,Inhabited
inductive Box where
 | cells (t:TypeId) (cs:List V)
 | mapo (es:List (V×V))
 deriving Repr,Inhabited
structure YC where
 k:Nat
 ps:Array Tmp
 assign:Code
 body:Code
 s0:List V
 deriving Inhabited
structure St where
 heap:List Box
 fams:List Fam
 lo:Nat
 flo:Nat
 kills:List Nat
 ny:Nat:=0
 y:Option YC:=none
 deriving Inhabited
mutual
def V.kill (ks:List Nat):V→V
 | .list t off sz xs=>match t with
  | .own F _=>if ks.contains F then .dead else .list t off sz (V.kills ks xs)
  | _=>.list t off sz (V.kills ks xs)
 | .agg cs=>.agg (V.kills ks cs)
 | .tup vs=>.tup (V.kills ks vs)
 | .eptr t idx off e=>match t with
  | .own F _=>if ks.contains F then .dead else .eptr t idx off (V.kill ks e)
  | _=>.eptr t idx off (V.kill ks e)
 | .func fn first cap=>.func fn (V.kills ks first) (V.kills ks cap)
 | .iface t v=>.iface t (V.kill ks v)
 | v=>v
def V.kills (ks:List Nat):List V→List V
 | []=>[]
 | v::vs=>V.kill ks v::V.kills ks vs
end
mutual
def V.upd (F ep idx:Nat) (e:V):V→V
 | .list t off sz xs=>match t with
  | .own F' ep' =>
   if F'=F then
    if ep'=ep then .list t off sz (if off≤idx then (V.upds F ep idx e xs).set (idx-off) e else V.upds F ep idx e xs) else .dead
   else .list t off sz (V.upds F ep idx e xs)
  | _=>.list t off sz (V.upds F ep idx e xs)
 | .agg cs=>.agg (V.upds F ep idx e cs)
 | .tup vs=>.tup (V.upds F ep idx e vs)
 | .eptr t idx' off e0=>match t with
  | .own F' ep' =>
   if F'=F then
    if ep'=ep then .eptr t idx' off (if idx'=idx then e else V.upd F ep idx e e0) else .dead
   else .eptr t idx' off (V.upd F ep idx e e0)
  | _=>.eptr t idx' off (V.upd F ep idx e e0)
 | .func fn first cap=>.func fn (V.upds F ep idx e first) (V.upds F ep idx e cap)
 | .iface t v=>.iface t (V.upd F ep idx e v)
 | v=>v
def V.upds (F ep idx:Nat) (e:V):List V→List V
 | []=>[]
 | v::vs=>V.upd F ep idx e v::V.upds F ep idx e vs
end
mutual
def V.free (F:Nat):V→Bool
 | .list t _ _ xs=>(match t with | .own F' _=>F' != F | _=>true)&&V.frees F xs
 | .agg cs=>V.frees F cs
 | .tup vs=>V.frees F vs
 | .eptr t _ _ e=>(match t with | .own F' _=>F' != F | _=>true)&&V.free F e
 | .func _ first cap=>V.frees F first&&V.frees F cap
 | .iface _ v=>V.free F v
 | _=>true
def V.frees (F:Nat):List V→Bool
 | []=>true
 | v::vs=>V.free F v&&V.frees F vs
end
mutual
def V.under (h:Nat):V→Bool
 | .list _ _ _ xs=>V.unders h xs
 | .agg cs=>V.unders h cs
 | .tup vs=>V.unders h vs
 | .ptr i _=>i<h
 | .eptr _ _ _ e=>V.under h e
 | .func fn first cap=>(match fn with | .yield _=>false | _=>true)&&(V.unders h first&&V.unders h cap)
 | .iface _ v=>V.under h v
 | .mapr i=>i<h
 | _=>true
def V.unders (h:Nat):List V→Bool
 | []=>true
 | v::vs=>V.under h v&&V.unders h vs
end
mutual
def V.freeze (f:Nat):V→V
 | .list t off sz xs=>match t with
  | .own F ep=>if F<f then .list (.own F ep) off sz (V.freezes f xs) else .list .ro 0 sz (V.freezes f xs)
  | t=>.list t off sz (V.freezes f xs)
 | .agg cs=>.agg (V.freezes f cs)
 | .tup vs=>.tup (V.freezes f vs)
 | .eptr t idx off e=>match t with
  | .own F ep=>if F<f then .eptr (.own F ep) idx off (V.freeze f e) else .eptr .ro idx off (V.freeze f e)
  | t=>.eptr t idx off (V.freeze f e)
 | .func fn first cap=>.func fn (V.freezes f first) (V.freezes f cap)
 | .iface t v=>.iface t (V.freeze f v)
 | v=>v
def V.freezes (f:Nat):List V→List V
 | []=>[]
 | v::vs=>V.freeze f v::V.freezes f vs
end
def isAggB (P:Program) (t:TypeId):Option Bool :=
 match P.underlying t with
 | some (.struct _)=>some true
 | some (.array _ _)=>some true
 | some _=>some false
 | none=>none
def sizeB (P:Program) (t:TypeId):Option Nat:=(P.info? t).map (·.size)
def bytesB (P:Program) (t:TypeId):Option Nat:=(P.info? t).map (·.bytes)
def zeroB (P:Program) (t:TypeId):Option V:=((P.info? t).bind (·.zero)).map (ofVal 3)
def partB (P:Program) (t:TypeId) (cs:List V) (off:Nat):Option V :=
 match isAggB P t,sizeB P t with
 | some true,some n=>if off+n≤cs.length then some (.agg ((cs.drop off).take n)) else none
 | some false,_=>cs[off]?
 | _,_=>none
def splice (cs:List V) (off:Nat) (new:List V):List V:=cs.take off++new++cs.drop (off+new.length)
def loadB (P:Program) (st:St) (t:TypeId):V→Option V
 | .ptr i off=>match st.heap[i]? with
  | some (.cells _ cs)=>partB P t cs off
  | _=>none
 | .eptr _ _ off e=>partB P t e.cells off
 | _=>none
def reElem (e:V) (cs:List V):V :=
 match e with
 | .agg _=>.agg cs
 | _=>cs.headD .dead
def updHeap (F ep idx:Nat) (e:V):List Box→List Box :=
 List.map fun
  | .cells t cs=>.cells t (V.upds F ep idx e cs)
  | .mapo es=>.mapo (es.map fun (k,v)=>(V.upd F ep idx e k,V.upd F ep idx e v))
def killHeap (ks:List Nat):List Box→List Box :=
 List.map fun
  | .cells t cs=>.cells t (V.kills ks cs)
  | .mapo es=>.mapo (es.map fun (k,v)=>(V.kill ks k,V.kill ks v))
def storeB (P:Program) (s:List V) (st:St) (t:TypeId) (p v:V):Option (List V×St) :=
 match v.flat with
 | some vc =>
  if some vc.length=sizeB P t then
   match p with
   | .ptr i off =>
    if st.lo≤i then
     match st.heap[i]? with
     | some (.cells t0 cs) =>
      if off+vc.length≤cs.length then some (s,{ st with heap:=st.heap.set i (.cells t0 (splice cs off vc)) }) else none
     | _=>none
    else none
   | .eptr (.own F ep) idx off e =>
    if st.flo≤F then
     match st.fams[F]?,e.flat with
     | some f,some ec =>
      if f.ep=ep∧f.wr=true∧off+vc.length≤ec.length∧v.free F=true∧e.free F=true then
       let e':=reElem e (splice ec off vc)
       some (V.upds F ep idx e' s,{ st with heap:=updHeap F ep idx e' st.heap,kills:=F::st.kills })
      else none
     | _,_=>none
    else none
   | _=>none
  else none
 | none=>none
def eqB (P:Program):Nat→TypeId→V→V→Option Bool
 | 0,_,_,_=>none
 | d+1,t,x,y =>
  match P.underlying t,x,y with
  | some .bool,.bool a,.bool b=>some (a==b)
  | some (.int _),.int k a,.int k' b=>if k=k' then some (a==b) else none
  | some .string,.str a,.str b=>some (a==b)
  | some (.pointer _),.nilp,.nilp=>some true
  | some (.pointer _),.nilp,.ptr _ _=>some false
  | some (.pointer _),.ptr _ _,.nilp=>some false
  | some (.slice _),.list t1 _ _ _,.list .nil _ _ _=>some (match t1 with | .nil=>true | _=>false)
  | some (.func _ _ _),.nilf,.nilf=>some true
  | some (.func _ _ _),.func ..,.nilf=>some false
  | some (.map _ _),.nilm,.nilm=>some true
  | some (.map _ _),.mapr _,.nilm=>some false
  | some (.interface _),.nili,.nili=>some true
  | some (.interface _),.nili,.iface _ _=>some false
  | some (.interface _),.iface _ _,.nili=>some false
  | some (.struct fields),.agg xs,.agg ys =>
   if P.stoodInHeld t then none else
   fields.toList.foldr (fun f acc =>
    if f.name = "_" then acc else
    match partB P f.type xs f.offset,partB P f.type ys f.offset with
    | some a,some b=>(match eqB P d f.type a b,acc with | some p,some q=>some (p&&q) | _,_=>none)
    | _,_=>none) (some true)
  | some (.array len elem),.agg xs,.agg ys =>
   match sizeB P elem with
   | some n=>(List.range len).foldr (fun i acc =>
    match partB P elem xs (i*n),partB P elem ys (i*n) with
    | some a,some b=>(match eqB P d elem a b,acc with | some p,some q=>some (p&&q) | _,_=>none)
    | _,_=>none) (some true)
   | none=>none
  | _,_,_=>none
def eqOk (P:Program) (t:TypeId) (x y:Operand) (a b:V):Bool :=
 match a,b with
 | .nili,.nili=>(match x with | .const _=>true | _=>false) || (match y with | .const _=>true | _=>false)
 | .agg _,.agg _=>!(P.eqGuardType P.depth t)
 | _,_=>true
def bytesLessB:List UInt8→List UInt8→Bool:=Op.bytesLess
def maxStr:Nat:=9223372036854775807
def binB (P:Program) (op:BinOp) (t:TypeId) (xo yo:Operand) (x y:V):Option V :=
 match op,x,y with
 | .shl,.int k a,.int _ b=>if 0≤b then some (.int k (k.wrap (a*2 ^ (min b.toNat k.bits)))) else none
 | .shr,.int k a,.int _ b=>if 0≤b then some (.int k (a.fdiv (2 ^ (min b.toNat k.bits)))) else none
 | op,.int k a,.int k' b =>
  if k=k' then
   match op with
   | .add=>some (.int k (k.wrap (a+b)))
   | .sub=>some (.int k (k.wrap (a-b)))
   | .mul=>some (.int k (k.wrap (a*b)))
   | .quo=>if b=0 then none else some (.int k (k.wrap (a.tdiv b)))
   | .rem=>if b=0 then none else some (.int k (a.tmod b))
   | .and=>some (.int k (bits .and k a b))
   | .or=>some (.int k (bits .or k a b))
   | .xor=>some (.int k (bits .xor k a b))
   | .andNot=>some (.int k (bits .andNot k a b))
   | .eql=>some (.bool (a==b))
   | .neq=>some (.bool (a != b))
   | .lss=>some (.bool (a<b))
   | .leq=>some (.bool (a≤b))
   | .gtr=>some (.bool (a > b))
   | .geq=>some (.bool (a≥b))
   | _=>none
  else none
 | op,.str a,.str b =>
  match op with
  | .add=>if a.length+b.length≤maxStr then some (.str (a++b)) else none
  | .eql=>some (.bool (a==b))
  | .neq=>some (.bool !(a==b))
  | .lss=>some (.bool (bytesLessB a b))
  | .leq=>some (.bool (bytesLessB a b || a==b))
  | .gtr=>some (.bool !(bytesLessB a b || a==b))
  | .geq=>some (.bool !(bytesLessB a b))
  | _=>none
 | .eql,x,y=>if eqOk P t xo yo x y then (eqB P 20 t x y).map .bool else none
 | .neq,x,y=>if eqOk P t xo yo x y then (eqB P 20 t x y).map fun b=>.bool !b else none
 | _,_,_=>none
def byteB:V→Option UInt8
 | .int .u8 n=>some (UInt8.ofNat n.toNat)
 | _=>none
def convB (P:Program) (src dst:TypeId) (x:V) (st:St):Option (V×St) :=
 match P.underlying src,P.underlying dst,x with
 | some (.int _),some (.int k),.int _ n=>some (.int k (k.wrap n),st)
 | some .string,some .string,.str s=>some (.str s,st)
 | some .string,some (.slice e),.str s =>
  match P.underlying e with
  | some (.int .u8)=>some (.list (.own st.fams.length 0) 0 1 (s.map fun b=>V.int .u8 b.toNat),{ st with fams:=st.fams++[⟨0,s.length,1,e,true⟩] })
  | _=>none
 | some (.slice e),some .string,.list t _ sz xs =>
  match P.underlying e with
  | some (.int .u8)=>if t=.nil∨sz=1 then (xs.mapM byteB).map fun s=>(.str s,st) else none
  | _=>none
 | _,_,_=>none
def boundB (v:Option V) (dflt:Nat) (lo hi:Nat):Option Nat :=
 match v with
 | none=>some dflt
 | some (.int _ n)=>if (lo:Int)≤n∧n≤hi then some n.toNat else none
 | some _=>none
def cutTok (t:Tok) (hi len:Nat):Tok :=
 match t with
 | .own F ep=>.own F ep
 | .nil=>.nil
 | .clip=>if hi=len then .clip else .ro
 | .ro=>.ro
def sliceB (P:Program) (t:TypeId) (x:V) (lo hi:Option V):Option V :=
 match P.underlying t,x with
 | some .string,.str s =>
  match boundB hi s.length 0 s.length with
  | some h=>match boundB lo 0 0 h with
   | some l=>some (.str ((s.take h).drop l))
   | none=>none
  | none=>none
 | some (.slice elem),.list tk off sz xs =>
  if (sizeB P elem).isSome∧(tk=.nil∨some sz=sizeB P elem) then
  match boundB hi xs.length 0 xs.length with
  | some h=>match boundB lo 0 0 h with
   | some l=>some (.list (cutTok tk h xs.length) (off+l) sz ((xs.take h).drop l))
   | none=>none
  | none=>none
  else none
 | _,_=>none
def indexB (P:Program) (t:TypeId) (x:V) (n:Int):Option V :=
 match P.underlying t,x with
 | some .string,.str s=>if 0≤n then (s[n.toNat]?).map fun b=>.int .u8 b.toNat else none
 | some (.array len elem),.agg cs =>
  if 0≤n∧n<len then
   match sizeB P elem with
   | some sz=>partB P elem cs (n.toNat*sz)
   | none=>none
  else none
 | _,_=>none
def indexAddrB (P:Program) (t:TypeId) (x:V) (n:Int):Option V :=
 match P.underlying t,x with
 | some (.slice elem),.list tk off sz xs=>if 0≤n∧some sz=sizeB P elem then (xs[n.toNat]?).map fun e=>.eptr tk (off+n.toNat) 0 e else none
 | some (.array len elem),.ptr i off =>
  if 0≤n∧n<len then (sizeB P elem).map fun sz=>.ptr i (off+n.toNat*sz) else none
 | some (.array len elem),.eptr tk idx off e =>
  if 0≤n∧n<len then (sizeB P elem).map fun sz=>.eptr tk idx (off+n.toNat*sz) e else none
 | _,_=>none
def fieldAddrB (P:Program) (t:TypeId) (x:V) (f:Nat):Option V :=
 match P.underlying t with
 | some (.struct fields) =>
  match fields[f]? with
  | some fl =>
   match sizeB P fl.type with
   | some (_+1)=>match x with
    | .ptr i off=>some (.ptr i (off+fl.offset))
    | .eptr tk idx off e=>some (.eptr tk idx (off+fl.offset) e)
    | _=>none
   | _=>none
  | none=>none
 | _=>none
def fieldB (P:Program) (t:TypeId) (x:V) (f:Nat):Option V :=
 match P.underlying t,x with
 | some (.struct fields),.agg cs=>match fields[f]? with
  | some fl=>partB P fl.type cs fl.offset
  | none=>none
 | _,_=>none
def fillB (place:Nat→Option (Nat×Nat)):List V→List (Nat×V)→Option (List V)
 | cs,[]=>some cs
 | cs,(i,v)::rest =>
  match place i with
  | none=>none
  | some (off,size) =>
   match v.flat with
   | some vc=>if vc.length=size∧off+size≤cs.length then fillB place (splice cs off vc) rest else none
   | none=>none
def buildB (P:Program) (t:TypeId) (parts:List (Nat×V)):Option V :=
 match zeroB P t,P.underlying t with
 | some (.agg z),some (.struct fields) =>
  if fields.toList.all fun f=>(sizeB P f.type).isSome then
   (fillB (fun i=>(fields[i]?).bind fun f=>(sizeB P f.type).map fun n=>(f.offset,n)) z parts).map .agg
  else none
 | some (.agg z),some (.array _ elem) =>
  match sizeB P elem with
  | some n=>(fillB (fun i=>some (i*n,n)) z parts).map .agg
  | none=>none
 | _,_=>none
def buildSliceB (P:Program) (t:TypeId) (len:Nat) (parts:List (Nat×V)):Option V :=
 match P.underlying t with
 | some (.slice elem) =>
  match sizeB P elem with
  | some n =>
   if n≠0∧len*n≤2 ^ 24∧(zeroB P elem).isSome∧parts.map (·.1)=List.range len∧(parts.all fun p=>match p.2.flat with | some c=>c.length==n | none=>false) then some (.list .clip 0 n (parts.map (·.2))) else none
  | none=>none
 | _=>none
def roomLim:Nat:=140737488355328
def wrOf (P:Program) (t:TypeId):Bool:=match P.underlying t with | some (.int .u8)=>false | _=>true
def appendB (P:Program) (t:TypeId) (x:V) (szy:Nat) (ys:List V) (s:List V) (st:St):Option (V×List V×St) :=
 match P.underlying t with
 | some (.slice elem) =>
  match sizeB P elem,bytesB P elem,x with
  | some (n+1),some (b+1),.list tk off sz xs =>
   if (xs.length+ys.length)*(b+1)≤roomLim∧(szy=n+1∨ys=[])∧((zeroB P elem).bind V.flat).map List.length=some (n+1) then
    match tk with
    | .nil =>
     if ys=[] then some (x,s,st) else
     some (.list (.own st.fams.length 0) 0 (n+1) ys,s,{ st with fams:=st.fams++[⟨0,ys.length,n+1,elem,wrOf P elem⟩] })
    | .clip =>
     if sz=n+1 then
      if ys=[] then some (x,s,st) else
      some (.list (.own st.fams.length 0) 0 (n+1) (xs++ys),s,{ st with fams:=st.fams++[⟨0,xs.length+ys.length,n+1,elem,wrOf P elem⟩] })
     else none
    | .own F ep =>
     if st.flo≤F∧sz=n+1 then
      match st.fams[F]? with
      | some f =>
       if f.ep=ep∧f.ty=elem then
        if off+xs.length=f.tip then
         some (.list (.own F (ep+1)) off sz (xs++ys),s,{ st with fams:=st.fams.set F ⟨ep+1,f.tip+ys.length,sz,elem,f.wr⟩ })
        else if f.wr&&(V.frees F xs&&V.frees F ys) then
         some (.list (.own F (ep+1)) off sz (xs++ys),V.kills [F] s,
          { st with heap:=killHeap [F] st.heap,fams:=st.fams.set F ⟨ep+1,off+xs.length+ys.length,sz,elem,f.wr⟩,kills:=F::st.kills })
        else none
       else none
      | none=>none
     else none
    | .ro=>none
   else none
  | _,_,_=>none
 | _=>none
def zapV (F ep:Nat) (e:V) (a:Nat):Nat→V→V
 | 0,v=>v
 | k+1,v=>V.upd F ep (a+k) e (zapV F ep e a k v)
def zapVs (F ep:Nat) (e:V) (a:Nat):Nat→List V→List V
 | 0,v=>v
 | k+1,v=>V.upds F ep (a+k) e (zapVs F ep e a k v)
def zapL {α:Type} (e:α) (a:Nat):Nat→List α→List α
 | 0,l=>l
 | k+1,l=>(zapL e a k l).set (a+k) e
def zapH (F ep:Nat) (e:V) (a:Nat):Nat→List Box→List Box
 | 0,v=>v
 | k+1,v=>updHeap F ep (a+k) e (zapH F ep e a k v)
def aggV:V→Bool
 | .agg _=>true
 | _=>false
def clearB (P:Program) (t:TypeId) (x:V) (s:List V) (st:St):Option (List V×St) :=
 match P.underlying t,x with
 | some (.slice _),.list _ _ _ []=>some (s,st)
 | some (.slice elem),.list (.own F ep) off sz (x::xs) =>
  match zeroB P elem,st.fams[F]? with
  | some z,some g =>
   match z.flat with
   | some zc =>
    if some sz=sizeB P elem∧zc.length=sz∧st.flo≤F∧g.ep=ep∧g.wr=true∧z.free F=true∧((x::xs).all fun v=>v.free F&&aggV v==aggV z&&v.flat.isSome)=true then
     some (zapVs F ep z off (xs.length+1) s,{ st with heap:=zapH F ep z off (xs.length+1) st.heap,kills:=List.replicate (xs.length+1) F++st.kills })
    else none
   | none=>none
  | _,_=>none
 | _,_=>none
def notIntB (P:Program) (ts:Array TypeId):Bool :=
 match ts[1]? with
 | some t=>(match P.underlying t with
  | some (.int _)=>false
  | some _=>true
  | none=>false)
 | none=>true
def newsB (P:Program) (ts:Array TypeId):V→Option (Nat×List V)
 | .str s=>if notIntB P ts then some (1,s.map fun b=>V.int .u8 b.toNat) else none
 | .list _ _ sz xs=>if notIntB P ts then some (sz,xs) else none
 | .int .i64 n =>
  match (ts[0]?).bind P.underlying,(ts[1]?).bind P.underlying with
  | some (.slice elem),some (.int _) =>
   match zeroB P elem,bytesB P elem with
   | some z,some by_=>if 0≤n∧n≤9223372036854775807∧n*by_≤2 ^ 48 then (z.flat).map fun c=>(c.length,List.replicate n.toNat z) else none
   | _,_=>none
  | _,_=>none
 | _=>none
def entriesB (st:St):V→Option (List (V×V))
 | .nilm=>some []
 | .mapr i=>match st.heap[i]? with
  | some (.mapo es)=>some es
  | _=>none
 | _=>none
def setMapB (st:St) (i:Nat) (es:List (V×V)):Option St :=
 if st.lo≤i then some { st with heap:=st.heap.set i (.mapo es) } else none
inductive AExit where
 | normal
 | exit (id:Nat)
 | ret
 deriving Repr,DecidableEq,Inhabited
inductive Task where
 | code (c:Code) (s:List V) (st:St)
 | call (f:FuncId) (args:List V) (st:St)
inductive Res where
 | out (e:AExit) (s:List V) (st:St)
 | ret (v:V) (st:St)
 deriving Inhabited
structure Cfg where
 keep:FuncId→Bool
 ext:FuncId→Option (List V→St→Option (V×St))
def ev (s:List V):Operand→V
 | .tmp t=>s.getD t .any
 | .const v=>ofVal 3 v
 | .func f=>.func (.func f) [] []
 | .global _=>.any
def putS (s:List V) (dst:Option Tmp) (v:V):List V :=
 match dst with
 | some d=>s.set d v
 | none=>s
inductive Out where
 | val (v:V) (s:List V) (st:St)
 | call (f:FuncId) (args:List V)
def mk (s:List V) (st:St) (v:Option V):Option Out:=v.map fun v=>.val v s st
def mk3 (v:Option (V×List V×St)):Option Out:=v.map fun p=>.val p.1 p.2.1 p.2.2
def mkS (s:List V) (v:Option (V×St)):Option Out:=v.map fun p=>.val p.1 s p.2
def minStep (k:IntKind) (acc:Option V) (y:V):Option V :=
 match acc,y with
 | some (.int k' x),.int k'' y=>if k'=k∧k''=k then some (.int k (if y<x then y else x)) else none
 | _,_=>none
def maxStep (k:IntKind) (acc:Option V) (y:V):Option V :=
 match acc,y with
 | some (.int k' x),.int k'' y=>if k'=k∧k''=k then some (.int k (if y > x then y else x)) else none
 | _,_=>none
def builtinB (P:Program) (b:Builtin) (ts:Array TypeId) (args:List V) (s:List V) (st:St):Option Out :=
 match b,args with
 | .len,[.str x]=>match ts[0]? with
  | some t=>(match P.underlying t with | some .string=>mk s st (some (.int .i64 x.length)) | _=>none)
  | none=>none
 | .len,[.list _ _ _ xs]=>match ts[0]? with
  | some t=>(match P.underlying t with | some (.slice _)=>mk s st (some (.int .i64 xs.length)) | _=>none)
  | none=>none
 | .append,[x,y] =>
  match ts[0]?,newsB P ts y with
  | some t,some ys=>mk3 (appendB P t x ys.1 ys.2 s st)
  | _,_=>none
 | .cap,[.list .nil _ _ _]=>match ts[0]? with
  | some t=>(match P.underlying t with | some (.slice _)=>mk s st (some (.int .i64 0)) | _=>none)
  | none=>none
 | .cap,[.list .clip _ _ xs]=>match ts[0]? with
  | some t=>(match P.underlying t with | some (.slice _)=>mk s st (some (.int .i64 xs.length)) | _=>none)
  | none=>none
 | .clear,[x]=>match ts[0]? with
  | some t=>(clearB P t x s st).map fun p=>.val (.tup []) p.1 p.2
  | none=>none
 | .min,.int k a::rest=>mk s st (rest.foldl (minStep k) (some (.int k a)))
 | .max,.int k a::rest=>mk s st (rest.foldl (maxStep k) (some (.int k a)))
 | _,_=>none
def callableB (P:Program) (g:FuncId):Bool :=
 match P.funcs[g]? with
 | some fn=>fn.body.isSome&&fn.name != "runtime.NumGoroutine"
 | none=>false
def keyB (P:Program) (kt:TypeId):V→Bool
 | .int k _=>match P.underlying kt with
  | some (.int k')=>k'==k
  | _=>false
 | .str _=>match P.underlying kt with
  | some .string=>true
  | _=>false
 | _=>false
def sameB:V→V→Option Bool
 | .int k a,.int k' b=>if k=k' then some (a==b) else none
 | .str a,.str b=>some (a==b)
 | _,_=>none
def findK (k:V):List (V×V)→Option (Option V)
 | []=>some none
 | p::es =>
  match sameB k p.1 with
  | some true=>some (some p.2)
  | some false=>findK k es
  | none=>none
def putK (k v:V):List (V×V)→Option (List (V×V))
 | []=>some [(k,v)]
 | p::es =>
  match sameB k p.1 with
  | some true=>some ((k,v)::es)
  | some false=>(putK k v es).map (p::·)
  | none=>none
def lookupK (P:Program) (st:St) (t:TypeId) (m k:V) (ok:Bool):Option V :=
 match P.underlying t with
 | some (.map kt et) =>
  if keyB P kt k=true then
   match entriesB st m with
   | some es =>
    match findK k es with
    | some (some v)=>some (if ok then .tup [v,.bool true] else v)
    | some none=>(zeroB P et).map fun z=>if ok then .tup [z,.bool false] else z
    | none=>none
   | none=>none
  else none
 | _=>none
def updateK (P:Program) (st:St) (t:TypeId) (m k v:V):Option St :=
 match P.underlying t,m with
 | some (.map kt _),.mapr i =>
  if keyB P kt k=true then
   match st.heap[i]? with
   | some (.mapo es)=>match putK k v es with
    | some es'=>setMapB st i es'
    | none=>none
   | _=>none
  else none
 | _,_=>none
def aop (P:Program) (s:List V) (o:Oper) (st:St):Option Out :=
 match o.op with
 | .move x | .assign x=>mk s st (some (ev s x))
 | .pick c a b=>match ev s c with
  | .bool true=>mk s st (some (ev s a))
  | .bool false=>mk s st (some (ev s b))
  | _=>none
 | .alloc t=>((zeroB P t).bind V.flat).map fun cs=>.val (.ptr st.heap.length 0) s { st with heap:=st.heap++[.cells t cs] }
 | .box t x=>(ev s x).flat.map fun cs=>.val (.ptr st.heap.length 0) s { st with heap:=st.heap++[.cells t cs] }
 | .build t parts=>mk s st (buildB P t (parts.toList.map fun p=>(p.1,ev s p.2)))
 | .buildSlice t n parts=>mk s st (buildSliceB P t n (parts.toList.map fun p=>(p.1,ev s p.2)))
 | .load t a=>mk s st (loadB P st t (ev s a))
 | .store t a x=>(storeB P s st t (ev s a) (ev s x)).map fun p=>.val (.tup []) p.1 p.2
 | .nilCheck x=>match ev s x with
  | .ptr i off=>mk s st (some (.ptr i off))
  | .eptr t i off e=>mk s st (some (.eptr t i off e))
  | .func (.func f) a b=>mk s st (some (.func (.func f) a b))
  | _=>none
 | .binOp op t x y _=>mk s st (binB P op t x y (ev s x) (ev s y))
 | .unOp op _ x=>match op,ev s x with
  | .not,.bool b=>mk s st (some (.bool !b))
  | .neg,.int k n=>mk s st (some (.int k (k.wrap (0-n))))
  | _,_=>none
 | .convert a b x=>mkS s (convB P a b (ev s x) st)
 | .makeInterface t x=>match P.underlying t with
  | some (.interface _)=>none
  | some _=>mk s st (some (.iface t (ev s x)))
  | none=>none
 | .makeFunc (.func g) first cap=>mk s st (some (.func (.func g) (first.toList.map (ev s)) (cap.toList.map (ev s))))
 | .makeSlice t l c=>match ev s l,ev s c,P.underlying t with
  | .int .i64 n,.int .i64 m,some (.slice elem) =>
   match bytesB P elem,sizeB P elem,zeroB P elem with
   | some by_,some (q+1),some z =>
    if 0≤n∧n≤m∧m≤9223372036854775807∧by_*m≤2 ^ 48∧(z.flat.map List.length)=some (q+1) then
     some (.val (.list (.own st.fams.length 0) 0 (q+1) (List.replicate n.toNat z)) s { st with fams:=st.fams++[⟨0,n.toNat,q+1,elem,true⟩] })
    else none
   | _,_,_=>none
  | _,_,_=>none
 | .slice t x lo hi mx=>match mx with
  | none=>mk s st (sliceB P t (ev s x) (lo.map (ev s)) (hi.map (ev s)))
  | some _=>none
 | .fieldAddr t x f=>mk s st (fieldAddrB P t (ev s x) f)
 | .field t x f=>mk s st (fieldB P t (ev s x) f)
 | .indexAddr t x i=>match ev s i with
  | .int _ n=>mk s st (indexAddrB P t (ev s x) n)
  | _=>none
 | .index t x i=>match ev s i with
  | .int _ n=>mk s st (indexB P t (ev s x) n)
  | _=>none
 | .typeAssert x _ t ok=>match ev s x,P.underlying t,ok with
  | _,none,_=>none
  | _,some (.interface _),_=>none
  | .nili,_,true=>mk s st ((zeroB P t).map fun z=>.tup [z,.bool false])
  | .iface t' v,_,true=>if t'=t then mk s st (some (.tup [v,.bool true])) else mk s st ((zeroB P t).map fun z=>.tup [z,.bool false])
  | _,_,_=>none
 | .extract x i=>match ev s x with
  | .tup vs=>mk s st vs[i]?
  | _=>none
 | .makeMap _ none=>some (.val (.mapr st.heap.length) s { st with heap:=st.heap++[.mapo []] })
 | .lookup t m k ok=>mk s st (lookupK P st t (ev s m) (ev s k) ok)
 | .mapUpdate t m k x | .insert t m k x=>(updateK P st t (ev s m) (ev s k) (ev s x)).map fun st'=>.val (.tup []) s st'
 | .call c=>match c.callee with
  | .builtin b=>builtinB P b c.argTypes (c.args.toList.map (ev s)) s st
  | .value f=>match ev s f with
   | .func (.func g) first cap=>if callableB P g then some (.call g (first++c.args.toList.map (ev s)++cap)) else none
   | .func (.yield k) [] []=>some (.call (P.funcs.size+k) (c.args.toList.map (ev s)))
   | _=>none
  | .invoke ..=>none
 | _=>none
def resB (P:Program) (st:St) (s:List V) (r:Array ResultVar):Option V :=
 match (r.toList.mapM fun
  | .tmp t=>some (s.getD t .any)
  | .cell a t=>loadB P st t (s.getD a .any)) with
 | some [v]=>some v
 | some vs=>some (.tup vs)
 | none=>none
def wantedB (all:Array Oper) (s:List V) (o:Oper):Option Bool :=
 match o.guard with
 | none=>some true
 | some (j,want)=>match (all[j]?).bind (·.dst) with
  | some d=>match s[d]? with
   | some (.bool b)=>some (b==want)
   | some (.tup [])=>some false
   | _=>none
  | none=>none
def killAll (ks:List Nat) (s:List V):List V :=
 match ks with
 | []=>s
 | ks=>V.kills ks s
def opRun (P:Program) (call:FuncId→List V→St→Option (V×St)) (all:Array Oper) (o:Oper) (s:List V) (st:St):Option (List V×St) :=
 match wantedB all s o with
 | some false=>some (putS s o.dst (.tup []),st)
 | some true=>match aop P s o st with
  | some (.val v s' st')=>some (putS s' o.dst v,st')
  | some (.call f args)=>match call f args (if P.funcs.size≤f then st else { st with kills:=[],y:=none }) with
   | some (v,st')=>some (putS (killAll st'.kills s) o.dst v,{ st' with kills:=st'.kills++st.kills,y:=st.y })
   | none=>none
  | none=>none
 | none=>none
def storeOp (o:Oper):Bool:=match o.op with | .store ..=>true | _=>false
def allocOp (o:Oper):Bool:=match o.op with | .alloc _=>true | _=>false
def lastB (all:Array Oper) (o:Oper):Bool :=
 storeOp o&&((List.range (all.size-1)).all fun j=>o.after.toList.any fun e=>Region.binds .any e&&e.on==j) &&
 (all.toList.all (fun q=>!allocOp q))&&(all.toList.filter storeOp).length==1
def noLast (ops:Array Oper):Bool:=ops.toList.all fun o=>!lastB ops o
def opsRun (P:Program) (call:FuncId→List V→St→Option (V×St)) (d:Bool) (all:Array Oper):List Oper→List V→St→Option (List V×St)
 | [],s,st=>some (s,st)
 | o::l,s,st =>
  match opRun P call all o s st with
  | some (s',st')=>if d&&st'.kills.length != st.kills.length&&!lastB all o then none else opsRun P call d all l s' st'
  | none=>none
def clsB (C:Cfg) (P:Program) (o:Oper):Nat :=
 match o.op with
 | .move _ | .assign _ | .pick .. | .build .. | .buildSlice .. | .nilCheck _ | .binOp .. | .unOp .. | .makeInterface .. | .makeFunc .. | .slice .. | .fieldAddr .. | .field ..
 | .indexAddr .. | .index .. | .typeAssert .. | .extract ..=>0
 | .convert _ b _=>(match P.underlying b with | some (.slice _)=>2 | _=>0)
 | .load ..=>1
 | .call c=>(match c.callee with
  | .builtin b=>(match b with | .len | .min | .max | .cap=>0 | _=>2)
  | .value (.func f)=>if C.keep f then 2 else 1
  | _=>2)
 | _=>2
def ancB (ops:Array Oper):List (List Nat) :=
 ops.toList.foldl (fun acc o=>acc++[(o.after.toList.filter (Region.binds .any)).foldl (fun l e=>(e.on::(acc.getD e.on [])++l).eraseDups) []]) []
def maskOf (o:Oper) (A:List Nat):Nat:=o.after.toList.foldl (fun m e=>if Region.binds .any e=true then m ||| (1 <<< e.on ||| A.getD e.on 0) else m) 0
def masksR:List Oper→List Nat→List Nat
 | [],acc=>acc.reverse
 | o::l,acc=>masksR l (maskOf o acc.reverse::acc)
def pairsQ (ops:Array Oper) (o:Oper) (c m:Nat):List (Oper×Nat)→Nat→Nat→Bool
 | _,_,0=>true
 | [],_,_=>true
 | q::r,j,k+1=>(m.testBit j || (q.1.apart ops o&&(q.2==0 || c==0 || (q.2==1&&c==1))))&&pairsQ ops o c m r (j+1) k
def rowsQ (ops:Array Oper) (tab:List (Oper×Nat)):List (Oper×Nat)→List Nat→Nat→Bool
 | o::r,m::ms,i=>(o.1.after.toList.all fun e=>!Region.binds .any e || e.on<i)&&pairsQ ops o.1 o.2 m tab 0 i&&rowsQ ops tab r ms (i+1)
 | [],_,_=>true
 | _::_,[],_=>false
def drawB (C:Cfg) (P:Program) (ops:Array Oper):Bool :=
 rowsQ ops (ops.toList.map fun o=>(o,clsB C P o)) (ops.toList.map fun o=>(o,clsB C P o)) (masksR ops.toList []) 0
def addrB (o:Oper):Option (Bool×Nat) :=
 match o.op with
 | .load _ (.tmp t)=>some (false,t)
 | .store _ (.tmp t) _=>some (true,t)
 | _=>none
def farB (s:List V) (x y:Nat):Bool :=
 match s.getD x .any,s.getD y .any with
 | .ptr i _,.ptr j _=>i != j
 | _,_=>true
def ownsB (ops:Array Oper) (as:List Nat) (x:Nat):Bool :=
 (List.range ops.size).all fun r=>(ops.getD r default).dst != some x || as.contains r
def isAlloc (o:Oper):Bool:=match o.op with
 | .alloc _=>true
 | _=>false
def allocsOf (ops:Array Oper):List Oper:=ops.toList.filter isAlloc
def hoist (ops:Array Oper):List Oper:=allocsOf ops++ops.toList.filter fun o=>!isAlloc o
def allocIx (ops:Array Oper) (o:Oper):Nat:=(allocsOf ops).findIdx fun q=>q.dst==o.dst
def simpleV:V→Bool
 | .int _ _ | .bool _ | .str _ | .nilp | .nilf | .nili | .nilm=>true
 | .list .nil _ _ []=>true
 | _=>false
def simpleZ (P:Program) (o:Oper):Bool:=match o.op with
 | .alloc t=>(match (zeroB P t).bind V.flat with | some cs=>cs.all simpleV | none=>false)
 | _=>false
def keepCall (C:Cfg) (P:Program) (o:Oper):Bool:=match o.op with
 | .call c=>(match c.callee with | .value (.func f)=>C.keep f&&decide (f<P.funcs.size) | _=>false)
 | _=>false
def easyB (C:Cfg) (P:Program) (ops:Array Oper) (o:Oper):Bool:=isAlloc o || decide (clsB C P o≤1) || (match addrB o with | some (true,_)=>true | _=>false) || (keepCall C P o&&(allocsOf ops).all (simpleZ P))
def drawG (C:Cfg) (P:Program) (ops:Array Oper) (far:Nat→Nat→Bool):Bool :=
 let anc:=ancB ops
 let n:=ops.size
 noLast ops&&((allocsOf ops).isEmpty || ((allocsOf ops).all (fun o=>o.guard.isNone&&o.dst.isSome)&&decide (((allocsOf ops).map (·.dst)).Nodup)&&ops.toList.all (easyB C P ops))) &&
 (List.range n).all fun i =>
  let o:=ops.getD i default
  (o.after.toList.all fun e=>!Region.binds .any e || e.on<i) &&
  ((anc.getD i []).all fun j=>o.after.toList.any fun e=>Region.binds .any e&&(e.on==j || (anc.getD e.on []).contains j)) &&
  (List.range i).all fun j =>
   (let q:=ops.getD j default
    (!isAlloc o || isAlloc q || (o.apart ops q))&&(!isAlloc o || !isAlloc q || allocIx ops o != allocIx ops q)) &&
   ((anc.getD i []).contains j ||
   (let q:=ops.getD j default
    q.apart ops o&&((isAlloc q || isAlloc o || clsB C P q==0 || clsB C P o==0 || (clsB C P q==1&&clsB C P o==1)) ||
     (match addrB q,addrB o with
      | some (a,x),some (b,y)=>a != b&&far x y&&ownsB ops (anc.getD j []) x&&ownsB ops (anc.getD i []) y
      | _,_=>false))))
def noRange:Code→Bool
 | .seq a b=>noRange a&&noRange b
 | .cond _ a b=>noRange a&&noRange b
 | .block _ c=>noRange c
 | .loop c=>noRange c
 | .scope _=>false
 | .rangeFunc ..=>false
 | _=>true
def roundS (s:List V) (ps:Array Tmp) (args:List V):List V:=(ps.toList.zip args).foldl (fun s p=>s.set p.1 p.2) s
def retOf:Option Res→Option (V×St)
 | some (.ret v st)=>some (v,st)
 | _=>none
def St.leave (st st':St):St:={ st' with kills:=st'.kills.filter fun F=>decide (F<st.fams.length) || st.kills.contains F }
def callL (C:Cfg) (P:Program) (call:FuncId→List V→St→Option (V×St)):FuncId→List V→St→Option (V×St):=fun f args st =>
 if (C.keep f&&decide (f<P.funcs.size))=true then (call f args { st with lo:=st.heap.length,y:=none }).map fun p=>(p.1,{ p.2 with lo:=st.lo,y:=st.y }) else call f args st
def run (C:Cfg) (P:Program):Nat→Task→Option Res
 | 0,_=>none
 | k+1,.code c s st=>match c with
  | .skip=>some (.out .normal s st)
  | .label _=>some (.out .normal s st)
  | .ret=>some (.out .ret s st)
  | .exit id=>some (.out (.exit id) s st)
  | .seq a b=>match run C P k (.code a s st) with
   | some (.out .normal s' st')=>run C P k (.code b s' st')
   | r=>r
  | .cond c x y=>match ev s c with
   | .bool b=>run C P k (.code (if b then x else y) s st)
   | _=>none
  | .scope c=>run C P k (.code c s st)
  | .block id c=>match run C P k (.code c s st) with
   | some (.out (.exit id') s' st')=>some (.out (if id'=id then .normal else .exit id') s' st')
   | r=>r
  | .loop c=>match run C P k (.code c s st) with
   | some (.out .normal s' st')=>run C P k (.code (.loop c) s' st')
   | r=>r
  | .region _ ops d =>
   if d&&!drawB C P ops then
    (match opsRun P (callL C P fun f args st=>retOf (run C P k (.call f args st))) d ops (hoist ops) s st with
    | some (s',st')=>if drawG C P ops (farB s')=true then some (.out .normal s' st') else none
    | none=>none)
   else
   match opsRun P (fun f args st=>retOf (run C P k (.call f args st))) d ops ops.toList s st with
   | some (s',st')=>some (.out .normal s' st')
   | none=>none
  | .rangeFunc f ps assign body=>match ev s f with
   | .func (.func g) first cap =>
    if callableB P g&&C.keep g&&noRange assign&&noRange body then
     match run C P k (.call g (first++[.func (.yield st.ny) [] []]++cap) { st with kills:=[],ny:=st.ny+1,y:=some ⟨st.ny,ps,assign,body,s⟩ }) with
     | some (.ret _ st')=>some (.out .normal (killAll st'.kills s) { st' with kills:=st'.kills++st.kills,y:=st.y })
     | _=>none
    else none
   | _=>none
  | _=>none
 | k+1,.call f args st =>
  if P.funcs.size≤f then
   match st.y with
   | some y =>
    if P.funcs.size+y.k=f∧args.length=y.ps.size then
     match run C P k (.code y.assign (roundS (killAll st.kills y.s0) y.ps args) { st with kills:=[],y:=none }) with
     | some (.out .normal s1 st1)=>match run C P k (.code y.body s1 st1) with
      | some (.out .normal _ st2)=>some (.ret (.bool true) st2)
      | _=>none
     | _=>none
    else none
   | none=>none
  else
  match C.ext f with
  | some A=>(A args st).map fun p=>.ret p.1 p.2
  | none=>match P.funcs[f]? with
   | some fn=>match fn.body with
    | some c =>
     if args.length≤fn.ntmps then
      let s:=args++List.replicate (fn.ntmps-args.length) (.tup [])
      if C.keep f then
       match run C P k (.code c s st) with
       | some (.out (.exit _) _ _)=>none
       | some (.out _ s' st')=>(resB P st' s' fn.results).map fun v=>.ret v (st.leave st')
       | _=>none
      else
       match run C P k (.code c s { st with lo:=st.heap.length,flo:=st.fams.length,kills:=[],y:=none }) with
       | some (.out (.exit _) _ _)=>none
       | some (.out _ s' st')=>match resB P st' s' fn.results with
        | some v=>if v.under st.heap.length then some (.ret (v.freeze st.fams.length) st) else none
        | none=>none
       | _=>none
     else none
    | none=>none
   | none=>none
end Go.Abs

namespace Go.Abs
structure Env where
 box:Nat→Option Nat
 fam:Nat→Nat
 sh:Nat→Nat
 lp:Nat→Option Nat
abbrev adr (b o:Nat):Addr:=⟨b,o,none⟩
def Rd (E:Env) (st:St) (t:Tok) (b hi:Nat):Prop :=
 (∀i,i<st.heap.length→E.box i≠some b) ∧
 (∀F f,st.fams[F]? = some f→E.fam F=b→(∃ep,t=.own F ep)∧hi+E.sh F≤f.tip*f.sz)
def rowSize (w:World) (b:Nat):Nat :=
 match w.heap[b]? with
 | some (.cells c _ _)=>c.size
 | _=>0
def TokOK (E:Env) (st:St) (w:World) (t:Tok) (off sz:Nat) (a:Addr) (n cap:Nat):Prop :=
 match t with
 | .nil=>False
 | .clip=>cap=n
 | .ro=>True
 | .own F ep=>∃f,st.fams[F]? = some f∧ep≤f.ep ∧
  (ep=f.ep→a.block=E.fam F∧f.sz=sz∧(0<cap→a.off+E.sh F=off*sz∧a.spot=none)∧off+n≤f.tip∧(off+cap)*sz≤rowSize w a.block+E.sh F)
inductive VR (E:Env) (st:St) (w:World):Value→V→Prop where
 | dead (v:Value) (h:v.oneCell'=true):VR E st w v .dead
 | any (v:Value):VR E st w v .any
 | int (k:IntKind) (n:Int):VR E st w (.int k n) (.int k n)
 | bool (b:Bool):VR E st w (.bool b) (.bool b)
 | str (s:ByteArray):VR E st w (.string s) (.str s.data.toList)
 | nil (off sz:Nat):VR E st w (.slice none 0 0) (.list .nil off sz [])
 | list (t:Tok) (off sz:Nat) (xs:List V) (a:Addr) (cap:Nat) (vs:Nat→Value) (ht:t≠.nil) (hcap:xs.length≤cap)
  (hsp:0<xs.length→a.spot=none) (hz:0<xs.length→0<sz)
  (hel:∀j,j<xs.length→(xs.getD j .dead).cells.length=sz)
  (hcell:∀j,j<xs.length*sz→w.cell? (adr a.block (a.off+j))=some (vs j))
  (hrd:0<xs.length→Rd E st t a.block (a.off+xs.length*sz))
  (htok:TokOK E st w t off sz a xs.length cap)
  (hone:∀j,j<xs.length*sz→(vs j).oneCell'=true)
  (hv:∀j k,j<xs.length→k<sz→VR E st w (vs (j*sz+k)) ((xs.getD j .dead).cells.getD k .dead)) :
  VR E st w (.slice (some a) xs.length cap) (.list t off sz xs)
 | agg (cs:Array Value) (ds:List V) (hl:cs.size=ds.length) (hone:∀k,k<ds.length→(cs.getD k undef).oneCell'=true) (hv:∀k,k<ds.length→VR E st w (cs.getD k undef) (ds.getD k .dead)) :
  VR E st w (.agg cs) (.agg ds)
 | tup (cs:Array Value) (ds:List V) (hl:cs.size=ds.length) (hv:∀k,k<ds.length→VR E st w (cs.getD k undef) (ds.getD k .dead)) :
  VR E st w (.tuple cs) (.tup ds)
 | ptr (i off b:Nat) (hi:i<st.heap.length) (hb:E.box i=some b):VR E st w (.pointer (some (adr b off))) (.ptr i off)
 | eptr (t:Tok) (idx off:Nat) (e:V) (b o:Nat) (vs:Nat→Value) (ht:t≠.nil) (hz:0<e.cells.length)
  (hcell:∀k,k<e.cells.length→w.cell? (adr b (o+k))=some (vs k))
  (hrd:Rd E st t b (o+e.cells.length))
  (htok:TokOK E st w t idx e.cells.length (adr b o) 1 1)
  (hone:∀k,k<e.cells.length→(vs k).oneCell'=true)
  (hv:∀k,k<e.cells.length→VR E st w (vs k) (e.cells.getD k .dead)) :
  VR E st w (.pointer (some (adr b (o+off)))) (.eptr t idx off e)
 | nilp:VR E st w (.pointer none) .nilp
 | func (fn:Fn) (first cap:Array Value) (df dc:List V) (hy:∀l,fn≠.yield l) (hf:first.size=df.length) (hc:cap.size=dc.length)
  (hvf:∀k,k<df.length→VR E st w (first.getD k undef) (df.getD k .dead))
  (hvc:∀k,k<dc.length→VR E st w (cap.getD k undef) (dc.getD k .dead)):VR E st w (.func fn first cap) (.func fn df dc)
 | yld (k l:Nat) (hk:k<st.ny) (hl:E.lp k=some l):VR E st w (.func (.yield l) #[] #[]) (.func (.yield k) [] [])
 | nilf:VR E st w .nilFunc .nilf
 | iface (t:TypeId) (v:Value) (d:V) (h:VR E st w v d):VR E st w (.iface t v) (.iface t d)
 | nili:VR E st w .nilIface .nili
 | mapr (i b:Nat) (hi:i<st.heap.length) (hb:E.box i=some b):VR E st w (.map (some b)) (.mapr i)
 | nilm:VR E st w (.map none) .nilm
def Tok.dies (ks:List Nat):Tok→Bool
 | .own F _=>ks.contains F
 | _=>false
theorem kills_map (ks:List Nat):∀l,V.kills ks l=l.map (V.kill ks)
 | []=>by simp[V.kills]
 | v::l=>by simp[V.kills,kills_map ks l]
theorem kill_list (ks:List Nat) (t:Tok) (off sz:Nat) (xs:List V) :
 V.kill ks (.list t off sz xs)=if t.dies ks then .dead else .list t off sz (xs.map (V.kill ks)):=by
 cases t<;>simp[V.kill,Tok.dies,kills_map]
theorem kill_eptr (ks:List Nat) (t:Tok) (idx off:Nat) (e:V) :
 V.kill ks (.eptr t idx off e)=if t.dies ks then .dead else .eptr t idx off (V.kill ks e):=by
 cases t<;>simp[V.kill,Tok.dies]
theorem kill_dead (ks:List Nat):V.kill ks .dead=.dead:=by simp[V.kill]
theorem kill_cells (ks:List Nat) (v:V):(V.kill ks v).cells=v.cells.map (V.kill ks):=by
 cases v with
 | list t off sz xs=>rw[kill_list];by_cases h:t.dies ks=true<;>simp[h,V.cells,kill_list]
 | eptr t idx off e=>rw[kill_eptr];by_cases h:t.dies ks=true<;>simp[h,V.cells,kill_eptr]
 | agg cs=>simp[V.kill,V.cells,kills_map]
 | _=>simp[V.kill,V.cells]
theorem getD_map_any (f:V→V) (hf:f .any=.any) (l:List V) (j:Nat):(l.map f).getD j .any=f (l.getD j .any):=by
 simp only[List.getD_eq_getElem?_getD,List.getElem?_map]
 cases l[j]?<;>simp[hf]
theorem kill_any (ks:List Nat):V.kill ks .any=.any:=by simp[V.kill]
theorem getD_map_dead (f:V→V) (hf:f .dead=.dead) (l:List V) (j:Nat):(l.map f).getD j .dead=f (l.getD j .dead):=by
 simp only[List.getD_eq_getElem?_getD,List.getElem?_map]
 cases l[j]?<;>simp[hf]
mutual
theorem kill_nil:∀v:V,V.kill [] v=v
 | .list t off sz xs=>by
  rw[kill_list,←kills_map,kills_nil xs]
  cases t<;>simp[Tok.dies]
 | .eptr t idx off e=>by
  rw[kill_eptr,kill_nil e]
  cases t<;>simp[Tok.dies]
 | .agg cs=>by simp[V.kill,kills_nil cs]
 | .tup cs=>by simp[V.kill,kills_nil cs]
 | .func fn a b=>by simp[V.kill,kills_nil a,kills_nil b]
 | .iface t v=>by simp[V.kill,kill_nil v]
 | .int .. | .bool .. | .str .. | .ptr .. | .nilp | .nilf | .nili | .mapr .. | .nilm | .dead | .any=>by simp[V.kill]
theorem kills_nil:∀l:List V,V.kills [] l=l
 | []=>by simp[V.kills]
 | v::l=>by simp[V.kills,kill_nil v,kills_nil l]
end
def okTok (ks:List Nat) (t:Tok):Prop:=t.dies ks=false
structure Step (ks:List Nat) (E:Env) (st:St) (w:World) (E':Env) (st':St) (w':World):Prop where
 box:∀i b,i<st.heap.length→E.box i=some b→i<st'.heap.length∧E'.box i=some b
 cell:∀t b off v,okTok ks t→Rd E st t b (off+1)→w.cell? (adr b off)=some v→w'.cell? (adr b off)=some v
 rd:∀t b hi,okTok ks t→b<w.heap.size→Rd E st t b hi→Rd E' st' t b hi
 tok:∀t off sz a n cap,okTok ks t→(0<n→a.block<w.heap.size)→TokOK E st w t off sz a n cap→TokOK E' st' w' t off sz a n cap
 lp:∀k l,k<st.ny→E.lp k=some l→k<st'.ny∧E'.lp k=some l
theorem cell_lt {w:World} {b o:Nat} {v:Value} (h:w.cell? (adr b o)=some v):b<w.heap.size:=by
 rcases Nat.lt_or_ge b w.heap.size with h1 | h1
 · exact h1
 · simp only[World.cell?,adr] at h
   rw[Array.getElem?_eq_none h1] at h
   simp at h
theorem Rd.mono {E:Env} {st:St} {t:Tok} {b hi hi':Nat} (h:Rd E st t b hi) (hle:hi'≤hi):Rd E st t b hi' :=
 ⟨h.1,fun F f hf hb=>⟨(h.2 F f hf hb).1,Nat.le_trans (Nat.add_le_add_right hle _) (h.2 F f hf hb).2⟩⟩
theorem VR.step {ks:List Nat} {E E':Env} {st st':St} {w w':World} (S:Step ks E st w E' st' w') {v:Value} {d:V} (h:VR E st w v d) :
 VR E' st' w' v (d.kill ks):=by
 induction h with
 | dead v h=>rw[kill_dead];exact .dead v h
 | any v=>simpa[V.kill] using VR.any v
 | int k n=>simpa[V.kill] using VR.int k n
 | bool b=>simpa[V.kill] using VR.bool b
 | str s=>simpa[V.kill] using VR.str s
 | nil off sz=>simpa[kill_list,Tok.dies] using VR.nil off sz
 | list t off sz xs a cap vs ht hcap hsp hz hel hcell hrd htok hone hv ih =>
  rw[kill_list]
  by_cases hd:t.dies ks=true
  · rw[if_pos hd];exact .dead _ rfl
  · rw[if_neg hd]
    have hok:okTok ks t:=by simpa[okTok] using hd
    have hlen:(xs.map (V.kill ks)).length=xs.length:=by simp
    have hgd:=getD_map_dead (V.kill ks) (kill_dead ks) xs
    have hblk:0<xs.length→a.block<w.heap.size:=fun hpos=>cell_lt (hcell 0 (Nat.mul_pos hpos (hz hpos)))
    have key:VR E' st' w' (.slice (some a) (xs.map (V.kill ks)).length cap) (.list t off sz (xs.map (V.kill ks))):=by
     refine .list t off sz _ a cap vs ht (by omega) (by rw[hlen];exact hsp) (by rw[hlen];exact hz) ?_ ?_ ?_ ?_ (by rw[hlen];exact hone) ?_
     · intro j hj
       rw[hgd,kill_cells,List.length_map]
       exact hel j (by omega)
     · intro j hj
       rw[hlen] at hj
       have hpos:0<xs.length:=by rcases Nat.eq_zero_or_pos xs.length with h0 | h0;· rw[h0] at hj;omega
                                 · exact h0
       exact S.cell t _ _ _ hok ((hrd hpos).mono (by omega)) (hcell j hj)
     · intro hpos
       rw[hlen] at hpos ⊢
       exact S.rd t _ _ hok (hblk hpos) (hrd hpos)
     · rw[hlen];exact S.tok _ _ _ _ _ _ hok hblk htok
     · intro j k hj hk
       rw[hlen] at hj
       rw[hgd,kill_cells,getD_map_dead _ (kill_dead ks)]
       exact ih j k hj hk
    simpa[hlen] using key
 | agg cs ds hl hone hv ih =>
  simp only[V.kill,kills_map]
  exact .agg cs _ (by simpa using hl) (by simpa using hone) fun k hk=>by rw[getD_map_dead _ (kill_dead ks)];exact ih k (by simpa using hk)
 | tup cs ds hl hv ih =>
  simp only[V.kill,kills_map]
  exact .tup cs _ (by simpa using hl) fun k hk=>by rw[getD_map_dead _ (kill_dead ks)];exact ih k (by simpa using hk)
 | ptr i off b hi hb=>obtain⟨h1,h2⟩:=S.box i b hi hb;simpa[V.kill] using VR.ptr i off b h1 h2
 | eptr t idx off e b o vs ht hz hcell hrd htok hone hv ih =>
  rw[kill_eptr]
  by_cases hd:t.dies ks=true
  · rw[if_pos hd];exact .dead _ rfl
  · rw[if_neg hd]
    have hok:okTok ks t:=by simpa[okTok] using hd
    have hlen:(V.kill ks e).cells.length=e.cells.length:=by rw[kill_cells,List.length_map]
    have hblk:b<w.heap.size:=cell_lt (hcell 0 hz)
    refine .eptr t idx off _ b o vs ht (by omega) ?_ ?_ ?_ (by rw[hlen];exact hone) ?_
    · intro k hk
      rw[hlen] at hk
      exact S.cell t _ _ _ hok (hrd.mono (by omega)) (hcell k hk)
    · rw[hlen];exact S.rd t _ _ hok hblk hrd
    · rw[hlen];exact S.tok _ _ _ _ _ _ hok (fun _=>hblk) htok
    · intro k hk
      rw[hlen] at hk
      rw[kill_cells,getD_map_dead _ (kill_dead ks)]
      exact ih k hk
 | nilp=>simpa[V.kill] using VR.nilp
 | yld k l hk hl=>obtain⟨h1,h2⟩:=S.lp k l hk hl;simpa[V.kill,V.kills] using VR.yld k l h1 h2
 | func fn first cap df dc hy hf hc hvf hvc ihf ihc =>
  simp only[V.kill,kills_map]
  exact .func fn first cap _ _ hy (by simpa using hf) (by simpa using hc)
   (fun k hk=>by rw[getD_map_dead _ (kill_dead ks)];exact ihf k (by simpa using hk))
   (fun k hk=>by rw[getD_map_dead _ (kill_dead ks)];exact ihc k (by simpa using hk))
 | nilf=>simpa[V.kill] using VR.nilf
 | iface t v d h ih=>simp only[V.kill];exact .iface t v _ ih
 | nili=>simpa[V.kill] using VR.nili
 | mapr i b hi hb=>obtain⟨h1,h2⟩:=S.box i b hi hb;simpa[V.kill] using VR.mapr i b h1 h2
 | nilm=>simpa[V.kill] using VR.nilm
end Go.Abs

namespace Go.Abs
def BoxR (E:Env) (st:St) (w:World) (b:Nat):Box→Prop
 | .cells t cs=>∃c,w.heap[b]? = some (.cells c t (0,0))∧c.size=cs.length∧(∀k,k<cs.length→(c.getD k undef).oneCell'=true)∧∀k,k<cs.length→VR E st w (c.getD k undef) (cs.getD k .dead)
 | .mapo es=>∃(ents:Array MapEntry) (clock:Nat),w.heap[b]? = some (.map ents clock)∧ents.size=es.length ∧
  ∀k,k<es.length→VR E st w (ents.getD k default).key (es.getD k (.dead,.dead)).1∧VR E st w (ents.getD k default).val (es.getD k (.dead,.dead)).2
structure WR (E:Env) (st:St) (w:World):Prop where
 box:∀i bx b,st.heap[i]? = some bx→E.box i=some b→BoxR E st w b bx
 inj:∀i j b,i<st.heap.length→j<st.heap.length→E.box i=some b→E.box j=some b→i=j
 fam:∀F f,st.fams[F]? = some f→∃c t z,w.heap[E.fam F]? = some (.cells c t z)∧f.tip*f.sz≤c.size+E.sh F∧(0<f.sz→t=f.ty∧(f.wr=false→z.1=0)∧∀o,o<c.size→(f.wr=false→f.tip*f.sz≤o+E.sh F)→¬(z.1≤o∧o<z.2))
 famBox:∀F i,F<st.fams.length→i<st.heap.length→E.box i≠some (E.fam F)
 famInj:∀F G,F<st.fams.length→G<st.fams.length→E.fam F=E.fam G→F=G
def Mut (E:Env) (st:St) (b:Nat):Prop :=
 (∃i,st.lo≤i∧i<st.heap.length∧E.box i=some b)∨(∃F,st.flo≤F∧F<st.fams.length∧E.fam F=b)
structure Quiet (w w':World):Prop where
 os:w'.os=w.os
 output:w'.output=w.output
theorem Quiet.refl (w:World):Quiet w w:=⟨rfl,rfl⟩
theorem Quiet.trans {w w1 w2:World} (h:Quiet w w1) (h2:Quiet w1 w2):Quiet w w2:=⟨h2.os.trans h.os,h2.output.trans h.output⟩
structure Seg (E:Env) (st:St) (w:World) (E':Env) (st':St) (w':World):Prop where
 step:Step st'.kills E st w E' st' w'
 size:w.heap.size≤w'.heap.size
 keep:∀b,b<w.heap.size→¬Mut E st b→w'.heap[b]? = w.heap[b]?
 muts:∀b,b<w.heap.size→Mut E' st' b→Mut E st b
 lo:st'.lo=st.lo
 flo:st'.flo=st.flo
 hlen:st.heap.length≤st'.heap.length
 flen:st.fams.length≤st'.fams.length
 fams:∀F,F<st.flo→st'.fams[F]? = st.fams[F]?∧E'.fam F=E.fam F∧E'.sh F=E.sh F
 kills:∀F,F∈st.kills→F∈st'.kills
 boxE:∀i,i<st.heap.length→E'.box i=E.box i
 quiet:Quiet w w'
 y:st'.y=st.y
theorem okTok.mono {ks ks':List Nat} {t:Tok} (hk:∀F,F∈ks→F∈ks') (h:okTok ks' t):okTok ks t:=by
 cases t with
 | own F ep =>
  simp only[okTok,Tok.dies,List.contains_eq_mem,decide_eq_false_iff_not] at h ⊢
  exact fun hm=>h (hk _ hm)
 | _=>rfl
theorem Step.refl (ks:List Nat) (E:Env) (st:St) (w:World):Step ks E st w E st w :=
 ⟨fun _ _ h1 h2=>⟨h1,h2⟩,fun _ _ _ _ _ _ h=>h,fun _ _ _ _ _ h=>h,fun _ _ _ _ _ _ _ _ h=>h,fun _ _ h1 h2=>⟨h1,h2⟩⟩
theorem Step.more {ks ks':List Nat} {E E':Env} {st st':St} {w w':World} (h:Step ks E st w E' st' w') (hk:∀F,F∈ks→F∈ks'):Step ks' E st w E' st' w' :=
 ⟨h.box,fun t b off v ho=>h.cell t b off v (ho.mono hk),fun t b hi ho=>h.rd t b hi (ho.mono hk),fun t off sz a n cap ho=>h.tok t off sz a n cap (ho.mono hk),h.lp⟩
theorem Step.trans {ks:List Nat} {E E1 E2:Env} {st st1 st2:St} {w w1 w2:World} (h:Step ks E st w E1 st1 w1) (hs:w.heap.size≤w1.heap.size)
 (h2:Step ks E1 st1 w1 E2 st2 w2):Step ks E st w E2 st2 w2 where
 box i b hi hb:=let ⟨a1,a2⟩:=h.box i b hi hb;h2.box i b a1 a2
 cell t b off v ho hr hc:=h2.cell t b off v ho (h.rd t b _ ho (cell_lt hc) hr) (h.cell t b off v ho hr hc)
 rd t b hi ho hb hr:=h2.rd t b hi ho (Nat.lt_of_lt_of_le hb hs) (h.rd t b hi ho hb hr)
 tok t off sz a n cap ho hb hr:=h2.tok t off sz a n cap ho (fun hn=>Nat.lt_of_lt_of_le (hb hn) hs) (h.tok t off sz a n cap ho hb hr)
 lp k l h1 h3:=let ⟨a1,a2⟩:=h.lp k l h1 h3;h2.lp k l a1 a2
theorem Seg.refl (E:Env) (st:St) (w:World):Seg E st w E st w :=
 ⟨.refl _ _ _ _,Nat.le_refl _,fun _ _ _=>rfl,fun _ _ h=>h,rfl,rfl,Nat.le_refl _,Nat.le_refl _,fun _ _=>⟨rfl,rfl,rfl⟩,fun _ h=>h,fun _ _=>rfl,.refl _,rfl⟩
theorem Seg.trans {E E1 E2:Env} {st st1 st2:St} {w w1 w2:World} (h:Seg E st w E1 st1 w1) (h2:Seg E1 st1 w1 E2 st2 w2):Seg E st w E2 st2 w2 where
 step:=(h.step.more h2.kills).trans h.size h2.step
 size:=Nat.le_trans h.size h2.size
 keep b hb hm:=(h2.keep b (Nat.lt_of_lt_of_le hb h.size) (fun hm2=>hm (h.muts b hb hm2))).trans (h.keep b hb hm)
 muts b hb hm:=h.muts b hb (h2.muts b (Nat.lt_of_lt_of_le hb h.size) hm)
 lo:=h2.lo.trans h.lo
 flo:=h2.flo.trans h.flo
 hlen:=Nat.le_trans h.hlen h2.hlen
 flen:=Nat.le_trans h.flen h2.flen
 fams F hF:=by
  obtain⟨a,b,b'⟩:=h.fams F hF
  obtain⟨c,d,d'⟩:=h2.fams F (by rw[h.flo];exact hF)
  exact⟨c.trans a,d.trans b,d'.trans b'⟩
 kills F hF:=h2.kills F (h.kills F hF)
 y:=h2.y.trans h.y
 boxE i hi:=(h2.boxE i (Nat.lt_of_lt_of_le hi h.hlen)).trans (h.boxE i hi)
 quiet:=h.quiet.trans h2.quiet
structure SR (E:Env) (st:St) (w:World) (ts:Array Value) (s:List V):Prop where
 size:ts.size=s.length
 val:∀i,i<s.length→VR E st w (ts.getD i undef) (s.getD i .any)
theorem SR.step {ks:List Nat} {E E':Env} {st st':St} {w w':World} {ts:Array Value} {s:List V} (h:SR E st w ts s) (S:Step ks E st w E' st' w') :
 SR E' st' w' ts (V.kills ks s) :=
 ⟨by rw[kills_map,List.length_map];exact h.size,fun i hi=>by
  rw[kills_map,getD_map_any _ (kill_any ks)]
  rw[kills_map,List.length_map] at hi
  exact (h.val i hi).step S⟩
theorem SR.step0 {E E':Env} {st st':St} {w w':World} {ts:Array Value} {s:List V} (h:SR E st w ts s) (S:Step [] E st w E' st' w') :
 SR E' st' w' ts s:=by simpa[kills_nil] using h.step S
theorem VR.step0 {E E':Env} {st st':St} {w w':World} {v:Value} {d:V} (h:VR E st w v d) (S:Step [] E st w E' st' w'):VR E' st' w' v d:=by
 simpa[kill_nil] using h.step S
theorem SR.get {E:Env} {st:St} {w:World} {ts:Array Value} {s:List V} (h:SR E st w ts s) (i:Nat):VR E st w (ts.getD i undef) (s.getD i .any):=by
 rcases Nat.lt_or_ge i s.length with hi | hi
 · exact h.val i hi
 · have:s.getD i .any=.any:=by simp[List.getD_eq_getElem?_getD,List.getElem?_eq_none hi]
   rw[this];exact .any _
theorem SR.put {E:Env} {st:St} {w:World} {ts:Array Value} {s:List V} {v:Value} {d:V} (h:SR E st w ts s) (hv:VR E st w v d) (dst:Option Tmp) (ds:List Deferred) :
 SR E st w ((Act.mk ts ds).put dst v).tmps (putS s dst d):=by
 cases dst with
 | none=>exact h
 | some t =>
  refine⟨by simp[Act.put,putS,h.size],fun i hi=>?_⟩
  simp only[putS,List.length_set] at hi
  simp only[Act.put,putS]
  by_cases hit:t=i
  · subst hit
    have h1:(ts.setIfInBounds t v).getD t undef=v:=by
     simp[Array.getD_eq_getD_getElem?,Array.getElem?_setIfInBounds_self_of_lt (by rw[h.size];exact hi)]
    have h2:(s.set t d).getD t .any=d:=by simp[List.getD_eq_getElem?_getD,hi]
    rw[h1,h2];exact hv
  · have h1:(ts.setIfInBounds t v).getD i undef=ts.getD i undef:=by
     simp[Array.getD_eq_getD_getElem?,Array.getElem?_setIfInBounds_ne hit]
    have h2:(s.set t d).getD i .any=s.getD i .any:=by simp[List.getD_eq_getElem?_getD,hit]
    rw[h1,h2];exact h.val i hi
theorem ofVal_VR (E:Env) (st:St) (w:World):∀n v,VR E st w v (ofVal n v)
 | 0,v=>by simp[ofVal];exact .any v
 | n+1,v=>by
  cases v with
  | int k m=>simp[ofVal];exact .int k m
  | bool b=>simp[ofVal];exact .bool b
  | string s=>simp[ofVal];exact .str s
  | slice a len cap =>
   rcases a with _ | a
   · rcases len with _ | len
     · rcases cap with _ | cap
       · simp[ofVal];exact .nil 0 0
       · simp[ofVal];exact .any _
     · simp[ofVal];exact .any _
   · simp[ofVal];exact .any _
  | pointer a =>
   rcases a with _ | a
   · simp[ofVal];exact .nilp
   · simp[ofVal];exact .any _
  | agg cs =>
   simp only[ofVal]
   split
   rotate_left
   · exact .any _
   rename_i hall
   rw[List.all_eq_true] at hall
   refine .agg cs _ (by simp) (fun k hk=>?_) fun k hk=>?_
   · have hk':k<cs.size:=by simpa using hk
     have e:cs.getD k undef=cs[k]:=by simp[Array.getD_eq_getD_getElem?,Array.getElem?_eq_getElem hk']
     rw[e];exact hall _ (by simp)
   have hk':k<cs.size:=by simpa using hk
   have h1:(cs.toList.map (ofVal n)).getD k .dead=ofVal n (cs.getD k undef):=by
    simp[List.getD_eq_getElem?_getD,hk',Array.getD_eq_getD_getElem?]
   rw[h1];exact ofVal_VR E st w n _
  | nilFunc=>simp[ofVal];exact .nilf
  | nilIface=>simp[ofVal];exact .nili
  | map r =>
   rcases r with _ | r
   · simp[ofVal];exact .nilm
   · simp[ofVal];exact .any _
  | _=>simp[ofVal];exact .any _
theorem ev_VR {E:Env} {st:St} {w:World} {a:Act} {s:List V} (h:SR E st w a.tmps s) (x:Operand):VR E st w (a.eval x) (ev s x):=by
 cases x with
 | tmp t=>exact h.get t
 | const v=>exact ofVal_VR E st w 3 v
 | global g=>exact .any _
 | func f=>exact .func _ _ _ _ _ (fun l h=>by cases h) rfl rfl (fun k hk=>by simp at hk) (fun k hk=>by simp at hk)
theorem VR.flat' {E:Env} {st:St} {w:World} {v:Value} {d:V} (h:VR E st w v d) {cs:List V} (hf:d.flat=some cs) :
 v.cells.size=cs.length∧(∀k,k<cs.length→(v.cells.getD k undef).oneCell'=true)∧∀k,k<cs.length→VR E st w (v.cells.getD k undef) (cs.getD k .dead):=by
 cases h with
 | any=>simp[V.flat] at hf
 | dead _ h1 =>
  simp only[V.flat,Option.some.injEq] at hf
  subst hf
  have hc:v.cells=#[v]:=by cases v<;>simp[Value.oneCell',Value.cells] at h1 ⊢
  refine⟨by rw[hc];rfl,fun k hk=>?_,fun k hk=>?_⟩
  · have:k=0:=by simpa using hk
    subst this
    rw[hc]
    exact h1
  have:k=0:=by simpa using hk
  subst this
  rw[hc]
  exact .dead _ h1
 | agg c ds hl hone hv=>simp only[V.flat,Option.some.injEq] at hf;subst hf;exact⟨hl,hone,hv⟩
 | tup=>simp[V.flat] at hf
 | _ =>
  simp only[V.flat,Option.some.injEq] at hf
  subst hf
  refine⟨rfl,fun k hk=>?_,fun k hk=>?_⟩
  · have:k=0:=by simpa using hk
    subst this
    rfl
  have:k=0:=by simpa using hk
  subst this
  first
   | exact .dead _ ‹_› | exact .int _ _ | exact .bool _ | exact .str _ | exact .nil _ _ | exact .nilp | exact .nilf | exact .nili | exact .nilm
   | exact .list _ _ _ _ _ _ _ ‹_› ‹_› ‹_› ‹_› ‹_› ‹_› ‹_› ‹_› ‹_› ‹_›
   | exact .ptr _ _ _ ‹_› ‹_›
   | exact .eptr _ _ _ _ _ _ _ ‹_› ‹_› ‹_› ‹_› ‹_› ‹_› ‹_›
   | exact .func _ _ _ _ _ ‹_› ‹_› ‹_› ‹_› ‹_›
   | exact .yld _ _ ‹_› ‹_›
   | exact .iface _ _ _ ‹_›
   | exact .mapr _ _ ‹_› ‹_›
theorem VR.flat {E:Env} {st:St} {w:World} {v:Value} {d:V} (h:VR E st w v d) {cs:List V} (hf:d.flat=some cs) :
 v.cells.size=cs.length∧∀k,k<cs.length→VR E st w (v.cells.getD k undef) (cs.getD k .dead):=⟨(h.flat' hf).1,(h.flat' hf).2.2⟩
theorem flat_cells {d:V} {cs:List V} (hf:d.flat=some cs):d.cells=cs:=by
 cases d<;>simp[V.flat,V.cells] at hf ⊢<;>exact hf
end Go.Abs

namespace Go.Abs
def killBox (ks:List Nat):Box→Box
 | .cells t cs=>.cells t (V.kills ks cs)
 | .mapo es=>.mapo (es.map fun (k,v)=>(V.kill ks k,V.kill ks v))
theorem killHeap_map (ks:List Nat) (h:List Box):killHeap ks h=h.map (killBox ks):=rfl
theorem killBox_nil (b:Box):killBox [] b=b:=by
 cases b with
 | cells t cs=>simp[killBox,kills_nil]
 | mapo es=>simp[killBox,kill_nil]
theorem killHeap_nil (h:List Box):killHeap [] h=h:=by
 rw[killHeap_map]
 have:killBox []=id:=funext killBox_nil
 rw[this,List.map_id]
theorem BoxR.step {ks:List Nat} {E E':Env} {st st':St} {w w':World} {b:Nat} {bx:Box} (h:BoxR E st w b bx) (S:Step ks E st w E' st' w')
 (hb:w'.heap[b]? = w.heap[b]?):BoxR E' st' w' b (killBox ks bx):=by
 cases bx with
 | cells t cs =>
  obtain⟨c,h1,h2,h0,h3⟩:=h
  refine⟨c,hb.trans h1,by simpa[kills_map] using h2,by simpa[kills_map] using h0,fun k hk=>?_⟩
  rw[kills_map,getD_map_dead _ (kill_dead ks)]
  exact (h3 k (by simpa[kills_map] using hk)).step S
 | mapo es =>
  obtain⟨ents,clock,h1,h2,h3⟩:=h
  refine⟨ents,clock,hb.trans h1,by simpa using h2,fun k hk=>?_⟩
  have hk':k<es.length:=by simpa using hk
  obtain⟨h4,h5⟩:=h3 k hk'
  have e1:(es.map fun (k,v)=>(V.kill ks k,V.kill ks v)).getD k (.dead,.dead)=(V.kill ks (es.getD k (.dead,.dead)).1,V.kill ks (es.getD k (.dead,.dead)).2):=by
   simp[List.getD_eq_getElem?_getD,hk']
  rw[e1]
  exact⟨h4.step S,h5.step S⟩
theorem BoxR.step0 {E E':Env} {st st':St} {w w':World} {b:Nat} {bx:Box} (h:BoxR E st w b bx) (S:Step [] E st w E' st' w')
 (hb:w'.heap[b]? = w.heap[b]?):BoxR E' st' w' b bx:=by simpa[killBox_nil] using h.step S hb
theorem BoxR.lt {E:Env} {st:St} {w:World} {b:Nat} {bx:Box} (h:BoxR E st w b bx):b<w.heap.size:=by
 rcases Nat.lt_or_ge b w.heap.size with h1 | h1
 · exact h1
 · cases bx with
   | cells t cs=>obtain⟨c,h2,_⟩:=h;rw[Array.getElem?_eq_none h1] at h2;simp at h2
   | mapo es=>obtain⟨c,t,h2,_⟩:=h;rw[Array.getElem?_eq_none h1] at h2;simp at h2
theorem WR.famLt {E:Env} {st:St} {w:World} (h:WR E st w) {F:Nat} {f:Fam} (hF:st.fams[F]? = some f):E.fam F<w.heap.size:=by
 obtain⟨c,t,z,h2,_⟩:=h.fam F f hF
 rcases Nat.lt_or_ge (E.fam F) w.heap.size with h1 | h1
 · exact h1
 · rw[Array.getElem?_eq_none h1] at h2;simp at h2
theorem WR.boxLt {E:Env} {st:St} {w:World} (h:WR E st w) {i b:Nat} (hi:i<st.heap.length) (hb:E.box i=some b):b<w.heap.size :=
 (h.box i _ b (List.getElem?_eq_getElem hi) hb).lt
theorem cell_of_heap {w w':World} {b:Nat} (h:w'.heap[b]? = w.heap[b]?) (o:Nat):w'.cell? (adr b o)=w.cell? (adr b o):=by
 simp only[World.cell?,h]
theorem rowSize_of_heap {w w':World} {b:Nat} (h:w'.heap[b]? = w.heap[b]?):rowSize w' b=rowSize w b:=by
 simp only[rowSize,h]
theorem rowSize_none {w:World} {b:Nat} (h:w.heap.size≤b):rowSize w b=0:=by
 simp only[rowSize,Array.getElem?_eq_none h]
theorem TokOK.of_rows {E E':Env} {st st':St} {w w':World} {t:Tok} {off sz:Nat} {a:Addr} {n cap:Nat} (h:TokOK E st w t off sz a n cap)
 (hf:∀F f,st.fams[F]? = some f→st'.fams[F]? = some f∧E'.fam F=E.fam F∧E'.sh F=E.sh F) (hr:rowSize w a.block≤rowSize w' a.block):TokOK E' st' w' t off sz a n cap:=by
 cases t with
 | nil=>exact h
 | clip=>exact h
 | ro=>trivial
 | own F ep =>
  obtain⟨f,h1,h2,h3⟩:=h
  obtain⟨g1,g2,g3⟩:=hf F f h1
  refine⟨f,g1,h2,fun he=>?_⟩
  obtain⟨a1,a2,a3,a4,a5⟩:=h3 he
  exact⟨a1.trans g2.symm,a2,by rw[g3];exact a3,a4,by rw[g3];omega⟩
structure Blw (w w':World):Prop where
 size:w.heap.size≤w'.heap.size
 same:∀b,b<w.heap.size→w'.heap[b]? = w.heap[b]?
 quiet:Quiet w w'
theorem Blw.refl (w:World):Blw w w:=⟨Nat.le_refl _,fun _ _=>rfl,.refl _⟩
theorem Blw.trans {w w1 w2:World} (h:Blw w w1) (h2:Blw w1 w2):Blw w w2 :=
 ⟨Nat.le_trans h.size h2.size,fun b hb=>(h2.same b (Nat.lt_of_lt_of_le hb h.size)).trans (h.same b hb),h.quiet.trans h2.quiet⟩
theorem Blw.of_heap {w w':World} (h:w'.heap=w.heap) (hq:Quiet w w'):Blw w w':=⟨by rw[h];exact Nat.le_refl _,fun b _=>by rw[h],hq⟩
theorem Blw.push (w:World) (o:Obj):Blw w { w with heap:=w.heap.push o } :=
 ⟨by simp,fun b hb=>by simp[Array.getElem?_push,Nat.ne_of_lt hb],⟨rfl,rfl⟩⟩
theorem Blw.rows {w w':World} (h:Blw w w') (b:Nat):rowSize w b≤rowSize w' b:=by
 rcases Nat.lt_or_ge b w.heap.size with h1 | h1
 · exact Nat.le_of_eq (rowSize_of_heap (h.same b h1)).symm
 · rw[rowSize_none h1];exact Nat.zero_le _
theorem step_grow {E E':Env} {st st':St} {w w':World} (hB:Blw w w')
 (hbox:∀i,i<st.heap.length→i<st'.heap.length∧E'.box i=E.box i)
 (hnew:∀i b,st.heap.length≤i→i<st'.heap.length→E'.box i=some b→w.heap.size≤b)
 (hfam:∀F f,st.fams[F]? = some f→st'.fams[F]? = some f∧E'.fam F=E.fam F∧E'.sh F=E.sh F)
 (hnewF:∀F,st.fams.length≤F→F<st'.fams.length→w.heap.size≤E'.fam F) (hny:st.ny≤st'.ny∧E'.lp=E.lp:=by exact⟨Nat.le_refl _,rfl⟩):Step [] E st w E' st' w' where
 lp k l h1 h2:=⟨Nat.lt_of_lt_of_le h1 hny.1,by rw[hny.2];exact h2⟩
 box i b hi hb:=⟨(hbox i hi).1,(hbox i hi).2.trans hb⟩
 cell t b off v _ _ hc:=(cell_of_heap (hB.same b (cell_lt hc)) off).trans hc
 rd t b hi _ hb hr:=by
  refine⟨fun i hi he=>?_,fun F f hf he=>?_⟩
  · rcases Nat.lt_or_ge i st.heap.length with h1 | h1
    · exact hr.1 i h1 ((hbox i h1).2.symm.trans he)
    · have:=hnew i b h1 hi he;omega
  · rcases Nat.lt_or_ge F st.fams.length with h1 | h1
    · have hg:=List.getElem?_eq_getElem h1
      obtain⟨g1,g2,g3⟩:=hfam F _ hg
      rw[g1] at hf
      injection hf with hf
      subst hf
      rw[g3]
      exact hr.2 F _ hg (g2.symm.trans he)
    · have h2:F<st'.fams.length:=(List.getElem?_eq_some_iff.1 hf).1
      have:=hnewF F h1 h2
      omega
 tok t off sz a n cap _ _ h:=h.of_rows hfam (hB.rows _)
theorem seg_grow {E E':Env} {st st':St} {w w':World} (hB:Blw w w')
 (hbox:∀i,i<st.heap.length→i<st'.heap.length∧E'.box i=E.box i)
 (hnew:∀i b,st.heap.length≤i→i<st'.heap.length→E'.box i=some b→w.heap.size≤b)
 (hfam:∀F f,st.fams[F]? = some f→st'.fams[F]? = some f∧E'.fam F=E.fam F∧E'.sh F=E.sh F)
 (hnewF:∀F,st.fams.length≤F→F<st'.fams.length→w.heap.size≤E'.fam F)
 (hlo:st'.lo=st.lo) (hflo:st'.flo=st.flo) (hks:st'.kills=st.kills) (hfl:st.flo≤st.fams.length) (hhl:st.heap.length≤st'.heap.length) (hffl:st.fams.length≤st'.fams.length) (hyy:st'.y=st.y:=by rfl) (hny:st.ny≤st'.ny∧E'.lp=E.lp:=by exact⟨Nat.le_refl _,rfl⟩):Seg E st w E' st' w' where
 y:=hyy
 step:=(step_grow hB hbox hnew hfam hnewF hny).more (fun F hF=>by simp at hF)
 size:=hB.size
 keep b hb _:=hB.same b hb
 muts b hb hm:=by
  rcases hm with ⟨i,h1,h2,h3⟩ | ⟨F,h1,h2,h3⟩
  · rcases Nat.lt_or_ge i st.heap.length with h4 | h4
    · exact .inl ⟨i,by omega,h4,(hbox i h4).2.symm.trans h3⟩
    · have:=hnew i b h4 h2 h3;omega
  · rcases Nat.lt_or_ge F st.fams.length with h4 | h4
    · obtain⟨g1,g2,g3⟩:=hfam F _ (List.getElem?_eq_getElem h4)
      exact .inr ⟨F,by omega,h4,g2.symm.trans h3⟩
    · have:=hnewF F h4 h2;omega
 lo:=hlo
 flo:=hflo
 hlen:=hhl
 flen:=hffl
 fams F hF:=by
  have h4:F<st.fams.length:=by omega
  obtain⟨g1,g2,g3⟩:=hfam F _ (List.getElem?_eq_getElem h4)
  exact⟨g1.trans (List.getElem?_eq_getElem h4).symm,g2,g3⟩
 kills F hF:=by rw[hks];exact hF
 boxE i hi:=(hbox i hi).2
 quiet:=hB.quiet
theorem WR.blw {E:Env} {st:St} {w w':World} (h:WR E st w) (hB:Blw w w'):WR E st w':=by
 have S:Step [] E st w E st w':=step_grow hB (fun i hi=>⟨hi,rfl⟩) (fun i b h1 h2=>by omega) (fun F f hf=>⟨hf,rfl,rfl⟩) (fun F h1 h2=>by omega)
 refine⟨fun i bx b hi hb=>?_,h.inj,fun F f hf=>?_,h.famBox,h.famInj⟩
 · have:=h.box i bx b hi hb
   exact this.step0 S (hB.same b this.lt)
 · obtain⟨c,t,z,h2,h3⟩:=h.fam F f hf
   exact⟨c,t,z,(hB.same _ (h.famLt hf)).trans h2,h3⟩
theorem seg_blw {E:Env} {st:St} {w w':World} (hB:Blw w w') (hfl:st.flo≤st.fams.length):Seg E st w E st w' :=
 seg_grow hB (fun i hi=>⟨hi,rfl⟩) (fun i b h1 h2=>by omega) (fun F f hf=>⟨hf,rfl,rfl⟩) (fun F h1 h2=>by omega) rfl rfl rfl hfl (Nat.le_refl _) (Nat.le_refl _)
def Env.addBox (E:Env) (i b:Nat):Env:={ E with box:=fun j=>if j=i then some b else E.box j }
def Env.setFam (E:Env) (F b sh:Nat):Env:={ E with fam:=fun G=>if G=F then b else E.fam G,sh:=fun G=>if G=F then sh else E.sh G }
theorem new_box {E:Env} {st:St} {w w':World} (h:WR E st w) (hB:Blw w w') (bx:Box) (nb:Nat) (hnb:w.heap.size≤nb) (hfl:st.flo≤st.fams.length)
 (hbx:∀E' st',Step [] E st w E' st' w'→BoxR E' st' w' nb bx) :
 WR (E.addBox st.heap.length nb) { st with heap:=st.heap++[bx] } w'∧Seg E st w (E.addBox st.heap.length nb) { st with heap:=st.heap++[bx] } w':=by
 have e1:∀i,i<st.heap.length→(E.addBox st.heap.length nb).box i=E.box i:=fun i hi=>by simp[Env.addBox,Nat.ne_of_lt hi]
 have e2:∀i b,st.heap.length≤i→i<(st.heap++[bx]).length→(E.addBox st.heap.length nb).box i=some b→w.heap.size≤b:=by
  intro i b h1 h2 h3
  have:i=st.heap.length:=by simp at h2;omega
  subst this
  simp[Env.addBox] at h3
  omega
 have S:Step [] E st w (E.addBox st.heap.length nb) { st with heap:=st.heap++[bx] } w' :=
  step_grow hB (fun i hi=>⟨by simp;omega,e1 i hi⟩) e2 (fun F f hf=>⟨hf,rfl,rfl⟩) (fun F h1 h2=>by simp at h2;omega)
 refine⟨⟨?_,?_,?_,?_,h.famInj⟩,seg_grow hB (fun i hi=>⟨by simp;omega,e1 i hi⟩) e2 (fun F f hf=>⟨hf,rfl,rfl⟩) (fun F h1 h2=>by simp at h2;omega) rfl rfl rfl hfl (by simp) (Nat.le_refl _)⟩
 · intro i bx' b hi hb
   rcases Nat.lt_or_ge i st.heap.length with h1 | h1
   · rw[List.getElem?_append_left h1] at hi
     rw[e1 i h1] at hb
     have:=h.box i bx' b hi hb
     exact this.step0 S (hB.same b this.lt)
   · have hil:i=st.heap.length:=by
      have:=(List.getElem?_eq_some_iff.1 hi).1
      simp at this;omega
     subst hil
     simp at hi
     subst hi
     simp[Env.addBox] at hb
     subst hb
     exact hbx _ _ S
 · intro i j b hi hj hbi hbj
   simp at hi hj
   rcases Nat.lt_or_ge i st.heap.length with h1 | h1<;>rcases Nat.lt_or_ge j st.heap.length with h2 | h2
   · rw[e1 i h1] at hbi;rw[e1 j h2] at hbj;exact h.inj i j b h1 h2 hbi hbj
   · rw[e1 i h1] at hbi
     have hlt:=h.boxLt h1 hbi
     have:=e2 j b h2 (by simp;omega) hbj
     omega
   · rw[e1 j h2] at hbj
     have hlt:=h.boxLt h2 hbj
     have:=e2 i b h1 (by simp;omega) hbi
     omega
   · omega
 · intro F f hf
   obtain⟨c,t,z,h2,h3⟩:=h.fam F f hf
   exact⟨c,t,z,(hB.same _ (h.famLt hf)).trans h2,h3⟩
 · intro F i hF hi hb
   have hlt:=h.famLt (List.getElem?_eq_getElem hF)
   rcases Nat.lt_or_ge i st.heap.length with h1 | h1
   · rw[e1 i h1] at hb;exact h.famBox F i hF h1 hb
   · have:=e2 i _ h1 hi hb
     have e3:(E.addBox st.heap.length nb).fam F=E.fam F:=rfl
     omega
theorem new_fam {E:Env} {st:St} {w w':World} (h:WR E st w) (hB:Blw w w') (f:Fam) (nb:Nat) (hnb:w.heap.size≤nb) (hfl:st.flo≤st.fams.length)
 (hrow:∃c t z,w'.heap[nb]? = some (.cells c t z)∧f.tip*f.sz≤c.size∧(0<f.sz→t=f.ty∧(f.wr=false→z.1=0)∧∀o,o<c.size→(f.wr=false→f.tip*f.sz≤o)→¬(z.1≤o∧o<z.2))) :
 WR (E.setFam st.fams.length nb 0) { st with fams:=st.fams++[f] } w'∧Seg E st w (E.setFam st.fams.length nb 0) { st with fams:=st.fams++[f] } w':=by
 have e1:∀F,F<st.fams.length→(E.setFam st.fams.length nb 0).fam F=E.fam F:=fun i hi=>by simp[Env.setFam,Nat.ne_of_lt hi]
 have e3:(E.setFam st.fams.length nb 0).fam st.fams.length=nb:=by simp[Env.setFam]
 have e2:∀F,st.fams.length≤F→F<(st.fams++[f]).length→w.heap.size≤(E.setFam st.fams.length nb 0).fam F:=by
  intro F h1 h2
  have:F=st.fams.length:=by simp at h2;omega
  subst this
  rw[e3];exact hnb
 have e4:∀F g,st.fams[F]? = some g→(st.fams++[f])[F]? = some g∧(E.setFam st.fams.length nb 0).fam F=E.fam F∧(E.setFam st.fams.length nb 0).sh F=E.sh F:=fun F g hF=>by
  have hlt:F<st.fams.length:=(List.getElem?_eq_some_iff.1 hF).1
  exact⟨by rw[List.getElem?_append_left hlt];exact hF,e1 F hlt,by simp[Env.setFam,Nat.ne_of_lt hlt]⟩
 have S:Step [] E st w (E.setFam st.fams.length nb 0) { st with fams:=st.fams++[f] } w' :=
  step_grow hB (fun i hi=>⟨hi,rfl⟩) (fun i b h1 h2=>by simp at h2;omega) e4 e2
 refine⟨⟨?_,h.inj,?_,?_,?_⟩,seg_grow hB (fun i hi=>⟨hi,rfl⟩) (fun i b h1 h2=>by simp at h2;omega) e4 e2 rfl rfl rfl hfl (Nat.le_refl _) (by simp)⟩
 · intro i bx b hi hb
   have:=h.box i bx b hi hb
   exact this.step0 S (hB.same b this.lt)
 · intro F g hF
   rcases Nat.lt_or_ge F st.fams.length with h1 | h1
   · have hF':st.fams[F]? = some g:=by rwa [List.getElem?_append_left h1] at hF
     obtain⟨c,t,z,h2,h3⟩:=h.fam F g hF'
     have e5:(E.setFam st.fams.length nb 0).sh F=E.sh F:=by simp[Env.setFam,Nat.ne_of_lt h1]
     rw[e1 F h1,e5]
     exact⟨c,t,z,(hB.same _ (h.famLt hF')).trans h2,h3⟩
   · have hFl:F=st.fams.length:=by
      have:=(List.getElem?_eq_some_iff.1 hF).1
      simp at this;omega
     subst hFl
     simp at hF
     subst hF
     have e5:(E.setFam st.fams.length nb 0).sh st.fams.length=0:=by simp[Env.setFam]
     rw[e3,e5];exact hrow
 · intro F i hF hi hb
   have hi':i<st.heap.length:=hi
   have hlt:=h.boxLt (E:=E) hi' hb
   rcases Nat.lt_or_ge F st.fams.length with h1 | h1
   · exact h.famBox F i h1 hi' (by rw[e1 F h1] at hb;exact hb)
   · have:=e2 F h1 hF;omega
 · intro F G hF hG he
   simp at hF hG
   rcases Nat.lt_or_ge F st.fams.length with h1 | h1<;>rcases Nat.lt_or_ge G st.fams.length with h2 | h2
   · rw[e1 F h1,e1 G h2] at he;exact h.famInj F G h1 h2 he
   · have a1:=h.famLt (List.getElem?_eq_getElem h1)
     have a2:=e2 G h2 (by simp;omega)
     rw[e1 F h1] at he;omega
   · have a1:=h.famLt (List.getElem?_eq_getElem h2)
     have a2:=e2 F h1 (by simp;omega)
     rw[e1 G h2] at he;omega
   · omega
end Go.Abs

namespace Go.Abs
structure Only (m:Nat) (w w':World):Prop where
 size:w'.heap.size=w.heap.size
 same:∀b,b≠m→w'.heap[b]? = w.heap[b]?
 quiet:Quiet w w'
theorem step_box {E:Env} {st st':St} {w w':World} (h:WR E st w) {i m:Nat} (hi:i<st.heap.length) (hm:E.box i=some m) (hO:Only m w w')
 (hl:st'.heap.length=st.heap.length) (hf:st'.fams=st.fams) (hny:st.ny≤st'.ny:=by exact Nat.le_refl _):Step [] E st w E st' w' where
 lp k l h1 h2:=⟨Nat.lt_of_lt_of_le h1 hny,h2⟩
 box j b hj hb:=⟨by omega,hb⟩
 cell t b off v _ hr hc:=by
  have:b≠m:=fun e=>hr.1 i hi (e▸hm)
  exact (cell_of_heap (hO.same b this) off).trans hc
 rd t b hi' _ _ hr:=⟨fun j hj=>hr.1 j (by omega),fun F f hF=>hr.2 F f (by rw[←hf];exact hF)⟩
 tok t off sz a n cap _ _ ht:=by
  cases t with
  | nil=>exact ht
  | clip=>exact ht
  | ro=>trivial
  | own F ep =>
   obtain⟨f,h1,h2,h3⟩:=ht
   refine⟨f,by rw[hf];exact h1,h2,fun he=>?_⟩
   obtain⟨a1,a2,a3,a4,a5⟩:=h3 he
   have hne:a.block≠m:=fun e=>h.famBox F i (List.getElem?_eq_some_iff.1 h1).1 hi (by rw[←a1,e];exact hm)
   exact⟨a1,a2,a3,a4,by rw[rowSize_of_heap (hO.same _ hne)];exact a5⟩
theorem write_box {E:Env} {st:St} {w w':World} (h:WR E st w) {i m:Nat} (hlo:st.lo≤i) (hi:i<st.heap.length) (hm:E.box i=some m) (hO:Only m w w') (bx:Box)
 (hbx:Step [] E st w E { st with heap:=st.heap.set i bx } w'→BoxR E { st with heap:=st.heap.set i bx } w' m bx) :
 WR E { st with heap:=st.heap.set i bx } w'∧Seg E st w E { st with heap:=st.heap.set i bx } w':=by
 have S:Step [] E st w E { st with heap:=st.heap.set i bx } w':=step_box h hi hm hO (by simp) rfl
 refine⟨⟨?_,?_,?_,?_,h.famInj⟩,⟨S.more (fun F hF=>by simp at hF),Nat.le_of_eq hO.size.symm,?_,?_,rfl,rfl,by simp,Nat.le_refl _,fun F hF=>⟨rfl,rfl,rfl⟩,fun F hF=>hF,fun _ _=>rfl,hO.quiet,rfl⟩⟩
 · intro j bj b hj hb
   by_cases hij:i=j
   · subst hij
     rw[List.getElem?_set_self hi] at hj
     injection hj with hj
     subst hj
     rw[hm] at hb
     injection hb with hb
     subst hb
     exact hbx S
   · have hj':st.heap[j]? = some bj:=by rwa [List.getElem?_set_ne hij] at hj
     have hne:b≠m:=fun e=>hij (h.inj i j m hi (List.getElem?_eq_some_iff.1 hj').1 hm (e▸hb))
     exact (h.box j bj b hj' hb).step0 S (hO.same b hne)
 · intro a c b ha hc
   exact h.inj a c b (by simpa using ha) (by simpa using hc)
 · intro F f hF
   obtain⟨c,t,z,h2,h3⟩:=h.fam F f hF
   have hne:E.fam F≠m:=fun e=>h.famBox F i (List.getElem?_eq_some_iff.1 hF).1 hi (by rw[e];exact hm)
   exact⟨c,t,z,(hO.same _ hne).trans h2,h3⟩
 · intro F j hF hj
   exact h.famBox F j hF (by simpa using hj)
 · intro b hb hnm
   exact hO.same b (fun e=>hnm (.inl ⟨i,hlo,hi,e▸hm⟩))
 · intro b hb hmu
   rcases hmu with ⟨j,h1,h2,h3⟩ | hmu
   · exact .inl ⟨j,h1,by simpa using h2,h3⟩
   · exact .inr hmu
structure FamTurn (ks:List Nat) (E:Env) (st:St) (w:World) (E':Env) (st':St) (w':World) (F:Nat) (f f':Fam):Prop where
 was:st.fams[F]? = some f
 now:st'.fams=st.fams.set F f'
 heap:st'.heap=killHeap ks st.heap
 boxE:E'.box=E.box
 famE:∀G,G≠F→E'.fam G=E.fam G
 shE:∀G,G≠F→E'.sh G=E.sh G
 ep:f.ep<f'.ep
 sz:F∈ks∨f'.sz=f.sz
 kl:∀G,G∈ks→G=F
 lo:st'.lo=st.lo
 flo:st'.flo=st.flo
 hkills:st'.kills=ks++st.kills
 nny:st'.ny=st.ny:=by rfl
 yy:st'.y=st.y:=by rfl
 lpE:E'.lp=E.lp:=by rfl
 ge:st.flo≤F
 how:(E'.fam F=E.fam F∧E'.sh F=E.sh F∧Only (E.fam F) w w' ∧
  (F∈ks∨(f.tip≤f'.tip∧∀o v,o+E.sh F<f.tip*f.sz→w.cell? (adr (E.fam F) o)=some v→w'.cell? (adr (E.fam F) o)=some v))) ∨
  (w.heap.size≤E'.fam F∧Blw w w')
 row:∃c t z,w'.heap[E'.fam F]? = some (.cells c t z)∧f'.tip*f'.sz≤c.size+E'.sh F∧(0<f'.sz→t=f'.ty∧(f'.wr=false→z.1=0)∧∀o,o<c.size→(f'.wr=false→f'.tip*f'.sz≤o+E'.sh F)→¬(z.1≤o∧o<z.2))
theorem FamTurn.step {ks:List Nat} {E E':Env} {st st':St} {w w':World} {F:Nat} {f f':Fam} (h:WR E st w) (T:FamTurn ks E st w E' st' w' F f f') :
 Step ks E st w E' st' w' where
 lp k l h1 h2:=⟨by rw[T.nny];exact h1,by rw[T.lpE];exact h2⟩
 box i b hi hb:=⟨by rw[T.heap,killHeap_map,List.length_map];exact hi,by rw[T.boxE];exact hb⟩
 cell t b off v ho hr hc:=by
  rcases T.how with ⟨_,_,hO,hin⟩ | ⟨_,hB⟩
  · by_cases e:b=E.fam F
    · obtain⟨⟨ep,ht⟩,hle⟩:=hr.2 F f T.was e.symm
      rcases hin with hk | ⟨_,hin⟩
      · subst ht
        simp[okTok,Tok.dies,hk] at ho
      · subst e
        exact hin off v (by omega) hc
    · exact (cell_of_heap (hO.same b e) off).trans hc
  · exact (cell_of_heap (hB.same b (cell_lt hc)) off).trans hc
 rd t b hi ho hb hr:=by
  have hFl:F<st.fams.length:=(List.getElem?_eq_some_iff.1 T.was).1
  refine⟨fun i hi' he=>hr.1 i (by rw[T.heap,killHeap_map,List.length_map] at hi';exact hi') (by rw[←T.boxE];exact he),fun G g hG he=>?_⟩
  rw[T.now] at hG
  by_cases hGF:G=F
  · subst hGF
    rw[List.getElem?_set_self hFl] at hG
    injection hG with hG
    subst hG
    rcases T.how with ⟨hsame,hshs,hO,hin⟩ | ⟨hnew,_⟩
    · rw[hsame] at he
      obtain⟨⟨ep,ht⟩,hle⟩:=hr.2 G f T.was he
      refine⟨⟨ep,ht⟩,?_⟩
      rcases hin with hk | ⟨htip,_⟩
      · subst ht
        simp[okTok,Tok.dies,hk] at ho
      · have hsz:f'.sz=f.sz:=by
         rcases T.sz with hk | hk
         · subst ht;simp[okTok,Tok.dies,hk] at ho
         · exact hk
        rw[hsz,hshs]
        exact Nat.le_trans hle (Nat.mul_le_mul_right _ htip)
    · omega
  · rw[List.getElem?_set_ne (fun e=>hGF e.symm)] at hG
    rw[T.famE G hGF] at he
    rw[T.shE G hGF]
    exact hr.2 G g hG he
 tok t off sz a n cap ho hn ht:=by
  have hFl:F<st.fams.length:=(List.getElem?_eq_some_iff.1 T.was).1
  cases t with
  | nil=>exact ht
  | clip=>exact ht
  | ro=>trivial
  | own G ep =>
   obtain⟨g,h1,h2,h3⟩:=ht
   by_cases hGF:G=F
   · subst hGF
     rw[T.was] at h1
     injection h1 with h1
     subst h1
     refine⟨f',by rw[T.now];exact List.getElem?_set_self hFl,by have:=T.ep;omega,fun he=>?_⟩
     have:=T.ep
     omega
   · refine⟨g,by rw[T.now,List.getElem?_set_ne (fun e=>hGF e.symm)];exact h1,h2,fun he=>?_⟩
     obtain⟨a1,a2,a3,a4,a5⟩:=h3 he
     have hr:rowSize w a.block≤rowSize w' a.block:=by
      rcases T.how with ⟨_,_,hO,_⟩ | ⟨_,hB⟩
      · have hne:a.block≠E.fam F:=fun e=>hGF (h.famInj G F (List.getElem?_eq_some_iff.1 h1).1 hFl (a1.symm.trans e))
        exact Nat.le_of_eq (rowSize_of_heap (hO.same _ hne)).symm
      · exact hB.rows _
     exact⟨a1.trans (T.famE G hGF).symm,a2,by rw[T.shE G hGF];exact a3,a4,by rw[T.shE G hGF];omega⟩
theorem FamTurn.wr {ks:List Nat} {E E':Env} {st st':St} {w w':World} {F:Nat} {f f':Fam} (h:WR E st w) (T:FamTurn ks E st w E' st' w' F f f') :
 WR E' st' w'∧Seg E st w E' st' w':=by
 have S:=T.step h
 have hFl:F<st.fams.length:=(List.getElem?_eq_some_iff.1 T.was).1
 have hhl:st'.heap.length=st.heap.length:=by rw[T.heap,killHeap_map,List.length_map]
 have hffl:st'.fams.length=st.fams.length:=by rw[T.now,List.length_set]
 have hsz:w.heap.size≤w'.heap.size:=by
  rcases T.how with ⟨_,_,hO,_⟩ | ⟨_,hB⟩
  · exact Nat.le_of_eq hO.size.symm
  · exact hB.size
 have hother:∀b,b<w.heap.size→b≠E.fam F→w'.heap[b]? = w.heap[b]? := by
  intro b hb hne
  rcases T.how with ⟨_,_,hO,_⟩ | ⟨_,hB⟩
  · exact hO.same b hne
  · exact hB.same b hb
 have hq:Quiet w w':=by
  rcases T.how with ⟨_,_,hO,_⟩ | ⟨_,hB⟩
  · exact hO.quiet
  · exact hB.quiet
 have hFam:∀G,G<st.fams.length→G≠F→E'.fam F≠E.fam G:=by
  intro G hG hne e
  rcases T.how with ⟨hs,_,_,_⟩ | ⟨hn,_⟩
  · exact hne (h.famInj G F hG hFl (e.symm.trans hs))
  · have:=h.famLt (List.getElem?_eq_getElem hG);omega
 refine⟨⟨?_,?_,?_,?_,?_⟩,⟨S.more (fun G hG=>by rw[T.hkills];exact List.mem_append_left _ hG),hsz,?_,?_,T.lo,T.flo,by omega,by omega,?_,fun G hG=>by rw[T.hkills];exact List.mem_append_right _ hG,fun i _=>by rw[T.boxE],hq,T.yy⟩⟩
 · intro i bx b hi hb
   rw[T.heap,killHeap_map,List.getElem?_map] at hi
   rw[T.boxE] at hb
   cases hx:st.heap[i]? with
   | none=>rw[hx] at hi;simp at hi
   | some bx0 =>
    rw[hx] at hi
    simp at hi
    subst hi
    have hBR:=h.box i bx0 b hx hb
    have hne:b≠E.fam F:=fun e=>h.famBox F i hFl (List.getElem?_eq_some_iff.1 hx).1 (e▸hb)
    exact hBR.step S (hother b hBR.lt hne)
 · intro i j b hi hj hbi hbj
   rw[T.boxE] at hbi hbj
   exact h.inj i j b (by omega) (by omega) hbi hbj
 · intro G g hG
   rw[T.now] at hG
   by_cases hGF:G=F
   · subst hGF
     rw[List.getElem?_set_self hFl] at hG
     injection hG with hG
     subst hG
     exact T.row
   · rw[List.getElem?_set_ne (fun e=>hGF e.symm)] at hG
     obtain⟨c,t,z,h2,h3⟩:=h.fam G g hG
     have hGl:=(List.getElem?_eq_some_iff.1 hG).1
     rw[T.famE G hGF,T.shE G hGF]
     exact⟨c,t,z,(hother _ (h.famLt hG) (fun e=>hGF (h.famInj G F hGl hFl e))).trans h2,h3⟩
 · intro G i hG hi hb
   rw[hffl] at hG
   rw[hhl] at hi
   rw[T.boxE] at hb
   by_cases hGF:G=F
   · subst hGF
     rcases T.how with ⟨hs,_,_,_⟩ | ⟨hn,_⟩
     · rw[hs] at hb;exact h.famBox G i hG hi hb
     · have:=h.boxLt hi hb;omega
   · rw[T.famE G hGF] at hb;exact h.famBox G i hG hi hb
 · intro G H hG hH he
   rw[hffl] at hG hH
   by_cases hGF:G=F<;>by_cases hHF:H=F
   · rw[hGF,hHF]
   · subst hGF;rw[T.famE H hHF] at he;exact absurd he (hFam H hH hHF)
   · subst hHF;rw[T.famE G hGF] at he;exact absurd he.symm (hFam G hG hGF)
   · rw[T.famE G hGF,T.famE H hHF] at he;exact h.famInj G H hG hH he
 · intro b hb hnm
   exact hother b hb (fun e=>hnm (.inr ⟨F,T.ge,hFl,e.symm⟩))
 · intro b hb hmu
   rcases hmu with ⟨i,h1,h2,h3⟩ | ⟨G,h1,h2,h3⟩
   · exact .inl ⟨i,by rw[←T.lo];exact h1,by omega,by rw[←T.boxE];exact h3⟩
   · by_cases hGF:G=F
     · subst hGF
       rcases T.how with ⟨hs,_,_,_⟩ | ⟨hn,_⟩
       · exact .inr ⟨G,T.ge,hFl,hs.symm.trans h3⟩
       · omega
     · exact .inr ⟨G,by rw[←T.flo];exact h1,by omega,by rw[←T.famE G hGF];exact h3⟩
 · intro G hG
   have hne:G≠F:=by have:=T.ge;omega
   exact⟨by rw[T.now,List.getElem?_set_ne (fun e=>hne e.symm)],T.famE G hne,T.shE G hne⟩
end Go.Abs

namespace Go.Abs
theorem upds_map (F ep idx:Nat) (e:V):∀l,V.upds F ep idx e l=l.map (V.upd F ep idx e)
 | []=>by simp[V.upds]
 | v::l=>by simp[V.upds,upds_map F ep idx e l]
def Tok.isF (F:Nat):Tok→Bool
 | .own G _=>G==F
 | _=>false
theorem upd_list_other {F ep idx:Nat} {e:V} {t:Tok} (h:t.isF F=false) (off sz:Nat) (xs:List V) :
 V.upd F ep idx e (.list t off sz xs)=.list t off sz (xs.map (V.upd F ep idx e)):=by
 cases t with
 | own G g =>
  simp[Tok.isF] at h
  simp[V.upd,upds_map,h]
 | _=>simp[V.upd,upds_map]
theorem upd_list_same (F ep idx:Nat) (e:V) (off sz:Nat) (xs:List V) :
 V.upd F ep idx e (.list (.own F ep) off sz xs) =
  .list (.own F ep) off sz (if off≤idx then (xs.map (V.upd F ep idx e)).set (idx-off) e else xs.map (V.upd F ep idx e)):=by
 simp[V.upd,upds_map]
theorem upd_list_old {F ep ep' idx:Nat} {e:V} (h:ep'≠ep) (off sz:Nat) (xs:List V):V.upd F ep idx e (.list (.own F ep') off sz xs)=.dead:=by
 simp[V.upd,h]
theorem upd_eptr_other {F ep idx:Nat} {e:V} {t:Tok} (h:t.isF F=false) (i off:Nat) (e0:V) :
 V.upd F ep idx e (.eptr t i off e0)=.eptr t i off (V.upd F ep idx e e0):=by
 cases t with
 | own G g =>
  simp[Tok.isF] at h
  simp[V.upd,h]
 | _=>simp[V.upd]
theorem upd_eptr_same (F ep idx:Nat) (e:V) (i off:Nat) (e0:V) :
 V.upd F ep idx e (.eptr (.own F ep) i off e0)=.eptr (.own F ep) i off (if i=idx then e else V.upd F ep idx e e0):=by
 simp[V.upd]
theorem upd_eptr_old {F ep ep' idx:Nat} {e:V} (h:ep'≠ep) (i off:Nat) (e0:V):V.upd F ep idx e (.eptr (.own F ep') i off e0)=.dead:=by
 simp[V.upd,h]
theorem upd_dead (F ep idx:Nat) (e:V):V.upd F ep idx e .dead=.dead:=by simp[V.upd]
theorem upd_cells (F ep idx:Nat) (e:V) (v:V) (hl:∀t off sz xs,v≠.list t off sz xs) (hp:∀t i off e0,v≠.eptr t i off e0) :
 (V.upd F ep idx e v).cells=v.cells.map (V.upd F ep idx e):=by
 cases v with
 | list t off sz xs=>exact absurd rfl (hl _ _ _ _)
 | eptr t idx off e=>exact absurd rfl (hp _ _ _ _)
 | agg cs=>simp[V.upd,V.cells,upds_map]
 | _=>simp[V.upd,V.cells]
theorem upd_cells' (F ep idx:Nat) (e:V) (v:V):(V.upd F ep idx e v).cells=v.cells.map (V.upd F ep idx e):=by
 by_cases hl:∃t off sz xs,v=.list t off sz xs
 · obtain⟨t,off,sz,xs,rfl⟩:=hl
   by_cases hF:t.isF F=true
   · cases t with
     | own G g =>
      simp[Tok.isF] at hF
      subst hF
      by_cases hg:g=ep
      · subst hg;simp[upd_list_same,V.cells]
      · simp[upd_list_old hg,V.cells]
     | _=>simp[Tok.isF] at hF
   · simp[upd_list_other (by simpa using hF),V.cells]
 · by_cases hp:∃t i off e0,v=.eptr t i off e0
   · obtain⟨t,i,off,e0,rfl⟩:=hp
     by_cases hF:t.isF F=true
     · cases t with
       | own G g =>
        simp[Tok.isF] at hF
        subst hF
        by_cases hg:g=ep
        · subst hg;simp[upd_eptr_same,V.cells]
        · simp[upd_eptr_old hg,V.cells]
       | _=>simp[Tok.isF] at hF
     · simp[upd_eptr_other (by simpa using hF),V.cells]
   · exact upd_cells F ep idx e v (fun t off sz xs h=>hl ⟨t,off,sz,xs,h⟩) (fun t i off e0 h=>hp ⟨t,i,off,e0,h⟩)
structure Upd (E:Env) (st:St) (w:World) (st':St) (w':World) (F idx bs:Nat) (f:Fam) (e:V) (nv:Nat→Value):Prop where
 base:bs+E.sh F=idx*f.sz
 was:st.fams[F]? = some f
 only:Only (E.fam F) w w'
 row:rowSize w' (E.fam F)=rowSize w (E.fam F)
 new:∀k,k<f.sz→w'.cell? (adr (E.fam F) (bs+k))=some (nv k)
 old:∀o,(o<bs∨bs+f.sz≤o)→w'.cell? (adr (E.fam F) o)=w.cell? (adr (E.fam F) o)
 len:e.cells.length=f.sz
 one:∀k,k<f.sz→(nv k).oneCell'=true
 val:∀k,k<f.sz→VR E st' w' (nv k) (e.cells.getD k .dead)
 hl:st'.heap.length=st.heap.length
 hf:st'.fams=st.fams
 hn:st'.ny=st.ny:=by rfl
 hy:st'.y=st.y:=by rfl
theorem Upd.rd {E:Env} {st st':St} {w w':World} {F idx bs:Nat} {f:Fam} {e:V} {nv:Nat→Value} (U:Upd E st w st' w' F idx bs f e nv) {t:Tok} {b hi:Nat}
 (h:Rd E st t b hi):Rd E st' t b hi :=
 ⟨fun i hi'=>h.1 i (by have:=U.hl;omega),fun G g hG=>h.2 G g (by rw[←U.hf];exact hG)⟩
theorem Upd.tok {E:Env} {st st':St} {w w':World} {F idx bs:Nat} {f:Fam} {e:V} {nv:Nat→Value} (U:Upd E st w st' w' F idx bs f e nv)
 {t:Tok} {off sz:Nat} {a:Addr} {n cap:Nat} (h:TokOK E st w t off sz a n cap):TokOK E st' w' t off sz a n cap :=
 h.of_rows (fun G g hG=>⟨by rw[U.hf];exact hG,rfl,rfl⟩) (by
  by_cases he:a.block=E.fam F
  · rw[he,U.row];exact Nat.le_refl _
  · exact Nat.le_of_eq (rowSize_of_heap (U.only.same _ he)).symm)
theorem isF_own {F:Nat} {t:Tok} (h:t.isF F=true):∃ep,t=.own F ep:=by
 cases t with
 | own G g=>simp[Tok.isF] at h;subst h;exact⟨g,rfl⟩
 | _=>simp[Tok.isF] at h
theorem Upd.cell {E:Env} {st st':St} {w w':World} {F idx bs:Nat} {f:Fam} {e:V} {nv:Nat→Value} (U:Upd E st w st' w' F idx bs f e nv) {t:Tok} {b hi:Nat}
 (ht:t.isF F=false) (h:Rd E st t b hi) (o:Nat):w'.cell? (adr b o)=w.cell? (adr b o):=by
 have hne:b≠E.fam F:=by
  intro he
  obtain⟨⟨ep,h1⟩,_⟩:=h.2 F f U.was he.symm
  subst h1
  simp[Tok.isF] at ht
 exact cell_of_heap (U.only.same b hne) o
theorem div_mul_add {j k sz:Nat} (hk:k<sz):(j*sz+k) / sz=j∧(j*sz+k) % sz=k:=by
 have h0:0<sz:=by omega
 refine⟨?_,?_⟩
 · rw[Nat.mul_comm,Nat.mul_add_div h0,Nat.div_eq_of_lt hk];omega
 · rw[Nat.mul_comm,Nat.mul_add_mod,Nat.mod_eq_of_lt hk]
theorem lt_of_div {j sz n:Nat} (_:0<sz) (h:j<n*sz):j / sz<n:=by
 exact Nat.div_lt_of_lt_mul (by rw[Nat.mul_comm];exact h)
theorem VR.upd {E:Env} {st st':St} {w w':World} {F idx bs:Nat} {f:Fam} {e:V} {nv:Nat→Value} (U:Upd E st w st' w' F idx bs f e nv) {v:Value} {d:V}
 (h:VR E st w v d):VR E st' w' v (V.upd F f.ep idx e d):=by
 have hgd:=getD_map_dead (V.upd F f.ep idx e) (upd_dead F f.ep idx e)
 induction h with
 | dead v h=>rw[upd_dead];exact .dead v h
 | any v=>simpa[V.upd] using VR.any v
 | int k n=>simpa[V.upd] using VR.int k n
 | bool b=>simpa[V.upd] using VR.bool b
 | str s=>simpa[V.upd] using VR.str s
 | nil off sz=>simpa[V.upd,V.upds] using VR.nil off sz
 | list t off sz xs a cap vs ht hcap hsp hz hel hcell hrd htok hone hv ih =>
  by_cases hF:t.isF F=true
  · obtain⟨ep,rfl⟩:=isF_own hF
    by_cases hep:ep=f.ep
    · subst hep
      rw[upd_list_same]
      obtain⟨g,g1,g2,g3⟩:=htok
      have hgf:g=f:=by rw[U.was] at g1;injection g1 with g1;exact g1.symm
      subst hgf
      obtain⟨a1,a2,a3,a4,a5⟩:=g3 rfl
      generalize hxs':(if off≤idx then (xs.map (V.upd F g.ep idx e)).set (idx-off) e else xs.map (V.upd F g.ep idx e))=xs'
      have hlen:xs'.length=xs.length:=by rw[←hxs'];split<;>simp
      have hget:∀j,j<xs.length→xs'.getD j .dead=if off+j=idx then e else V.upd F g.ep idx e (xs.getD j .dead):=by
       intro j hj
       rw[←hxs']
       by_cases hoff:off≤idx
       · rw[if_pos hoff]
         by_cases hji:off+j=idx
         · rw[if_pos hji]
           have:idx-off=j:=by omega
           rw[this]
           simp[List.getD_eq_getElem?_getD,hj]
         · rw[if_neg hji]
           have:idx-off≠j:=by omega
           rw[←hgd]
           simp[List.getD_eq_getElem?_getD,List.getElem?_set_ne this]
       · rw[if_neg hoff,if_neg (by omega),hgd]
      have key:VR E st' w' (.slice (some a) xs'.length cap) (.list (.own F g.ep) off sz xs'):=by
       refine .list _ off sz xs' a cap (fun j=>if off+j / sz=idx then nv (j % sz) else vs j) ht (by omega) (by rw[hlen];exact hsp) (by rw[hlen];exact hz) ?_ ?_ ?_ ?_ ?_ ?_
       · intro j hj
         rw[hlen] at hj
         rw[hget j hj]
         by_cases hji:off+j=idx
         · rw[if_pos hji,U.len,a2]
         · rw[if_neg hji,upd_cells',List.length_map];exact hel j hj
       · intro j hj
         rw[hlen] at hj
         have hpos:0<xs.length:=by
          rcases Nat.eq_zero_or_pos xs.length with h0 | h0
          · rw[h0] at hj;omega
          · exact h0
         have hsz:=hz hpos
         have hq:=lt_of_div hsz hj
         obtain⟨a6,a7⟩:=a3 (by omega)
         have hj':j=(j / sz)*sz+j % sz:=by rw[Nat.mul_comm];exact (Nat.div_add_mod j sz).symm
         have hr:j % sz<sz:=Nat.mod_lt _ hsz
         have haddr:a.off+j+E.sh F=(off+j / sz)*sz+j % sz:=by rw[Nat.add_mul];omega
         have hbase:=U.base
         rw[a2] at hbase
         show w'.cell? (adr a.block (a.off+j))=some (if off+j / sz=idx then nv (j % sz) else vs j)
         rw[a1]
         by_cases hji:off+j / sz=idx
         · rw[if_pos hji]
           rw[hji] at haddr
           have e9:a.off+j=bs+j % sz:=by omega
           rw[e9]
           exact U.new _ (by rw[a2];exact hr)
         · rw[if_neg hji]
           have hold:=hcell j hj
           rw[a1] at hold
           rw[←hold]
           refine U.old _ ?_
           rw[a2]
           rcases Nat.lt_or_gt_of_ne hji with hlt | hgt
           · left
             have:(off+j / sz+1)*sz≤idx*sz:=Nat.mul_le_mul_right _ hlt
             rw[Nat.add_mul] at this
             omega
           · right
             have:(idx+1)*sz≤(off+j / sz)*sz:=Nat.mul_le_mul_right _ hgt
             rw[Nat.add_mul idx] at this
             omega
       · intro hpos
         rw[hlen] at hpos ⊢
         exact U.rd (hrd hpos)
       · rw[hlen];exact U.tok ⟨g,U.was,g2,g3⟩
       · intro j hj
         rw[hlen] at hj
         show (if off+j / sz=idx then nv (j % sz) else vs j).oneCell'=true
         by_cases hji:off+j / sz=idx
         · rw[if_pos hji]
           have hpos:0<xs.length:=by
            rcases Nat.eq_zero_or_pos xs.length with h0 | h0
            · rw[h0] at hj;omega
            · exact h0
           exact U.one _ (by rw[a2];exact Nat.mod_lt _ (hz hpos))
         · rw[if_neg hji];exact hone j hj
       · intro j k hj hk
         rw[hlen] at hj
         obtain⟨d1,d2⟩:=div_mul_add (j:=j) hk
         simp only[d1,d2]
         rw[hget j hj]
         by_cases hji:off+j=idx
         · rw[if_pos hji,if_pos hji]
           exact U.val k (by rw[a2];exact hk)
         · rw[if_neg hji,if_neg hji,upd_cells',hgd]
           exact ih j k hj hk
      simpa[hlen] using key
    · rw[upd_list_old hep];exact .dead _ rfl
  · have hF':t.isF F=false:=by simpa using hF
    rw[upd_list_other hF']
    have hlen:(xs.map (V.upd F f.ep idx e)).length=xs.length:=by simp
    have key:VR E st' w' (.slice (some a) (xs.map (V.upd F f.ep idx e)).length cap) (.list t off sz (xs.map (V.upd F f.ep idx e))):=by
     refine .list t off sz _ a cap vs ht (by omega) (by rw[hlen];exact hsp) (by rw[hlen];exact hz) ?_ ?_ ?_ ?_ (by rw[hlen];exact hone) ?_
     · intro j hj
       rw[hgd,upd_cells',List.length_map]
       exact hel j (by omega)
     · intro j hj
       rw[hlen] at hj
       have hpos:0<xs.length:=by
        rcases Nat.eq_zero_or_pos xs.length with h0 | h0
        · rw[h0] at hj;omega
        · exact h0
       rw[U.cell hF' (hrd hpos)]
       exact hcell j hj
     · intro hpos
       rw[hlen] at hpos ⊢
       exact U.rd (hrd hpos)
     · rw[hlen];exact U.tok htok
     · intro j k hj hk
       rw[hlen] at hj
       rw[hgd,upd_cells',hgd]
       exact ih j k hj hk
    simpa[hlen] using key
 | agg cs ds hl hone hv ih =>
  simp only[V.upd,upds_map]
  exact .agg cs _ (by simpa using hl) (by simpa using hone) fun k hk=>by rw[hgd];exact ih k (by simpa using hk)
 | tup cs ds hl hv ih =>
  simp only[V.upd,upds_map]
  exact .tup cs _ (by simpa using hl) fun k hk=>by rw[hgd];exact ih k (by simpa using hk)
 | ptr i off b hi hb=>simpa[V.upd] using VR.ptr i off b (by rw[U.hl];exact hi) hb
 | eptr t i off e0 b o vs ht hz hcell hrd htok hone hv ih =>
  by_cases hF:t.isF F=true
  · obtain⟨ep,rfl⟩:=isF_own hF
    by_cases hep:ep=f.ep
    · subst hep
      rw[upd_eptr_same]
      obtain⟨g,g1,g2,g3⟩:=id htok
      have hgf:g=f:=by rw[U.was] at g1;injection g1 with g1;exact g1.symm
      subst hgf
      obtain⟨a1,a2,a3,a4,a5⟩:=g3 rfl
      obtain⟨a6,_⟩:=a3 (by omega)
      simp only at a1 a6
      by_cases hii:i=idx
      · rw[if_pos hii]
        subst hii
        have hl:e.cells.length=e0.cells.length:=by rw[U.len,a2]
        refine .eptr _ i off e b o nv ht (by omega) ?_ ?_ ?_ (fun k hk=>U.one k (by omega)) ?_
        · intro k hk
          have hbase:=U.base
          rw[a2] at hbase
          have e9:o=bs:=by omega
          rw[a1,e9]
          exact U.new k (by omega)
        · rw[hl];exact U.rd hrd
        · rw[hl];exact U.tok htok
        · intro k hk
          exact U.val k (by omega)
      · rw[if_neg hii]
        have hl:(V.upd F g.ep idx e e0).cells.length=e0.cells.length:=by rw[upd_cells',List.length_map]
        refine .eptr _ i off _ b o vs ht (by omega) ?_ ?_ ?_ (by rw[hl];exact hone) ?_
        · intro k hk
          rw[hl] at hk
          rw[←hcell k hk,a1]
          refine U.old _ ?_
          have hbase:=U.base
          rw[a2] at hbase ⊢
          rcases Nat.lt_or_gt_of_ne hii with hlt | hgt
          · left
            have:(i+1)*e0.cells.length≤idx*e0.cells.length:=Nat.mul_le_mul_right _ hlt
            rw[Nat.add_mul] at this
            omega
          · right
            have:(idx+1)*e0.cells.length≤i*e0.cells.length:=Nat.mul_le_mul_right _ hgt
            rw[Nat.add_mul] at this
            omega
        · rw[hl];exact U.rd hrd
        · rw[hl];exact U.tok htok
        · intro k hk
          rw[hl] at hk
          rw[upd_cells',hgd]
          exact ih k hk
    · rw[upd_eptr_old hep];exact .dead _ rfl
  · have hF':t.isF F=false:=by simpa using hF
    rw[upd_eptr_other hF']
    have hl:(V.upd F f.ep idx e e0).cells.length=e0.cells.length:=by rw[upd_cells',List.length_map]
    refine .eptr t i off _ b o vs ht (by omega) ?_ ?_ ?_ (by rw[hl];exact hone) ?_
    · intro k hk
      rw[hl] at hk
      rw[U.cell hF' hrd]
      exact hcell k hk
    · rw[hl];exact U.rd hrd
    · rw[hl];exact U.tok htok
    · intro k hk
      rw[hl] at hk
      rw[upd_cells',hgd]
      exact ih k hk
 | nilp=>simpa[V.upd] using VR.nilp
 | yld k l hk hl=>simpa[V.upd,V.upds] using VR.yld k l (by rw[U.hn];exact hk) hl
 | func fn first cap df dc hy hf hc hvf hvc ihf ihc =>
  simp only[V.upd,upds_map]
  exact .func fn first cap _ _ hy (by simpa using hf) (by simpa using hc)
   (fun k hk=>by rw[hgd];exact ihf k (by simpa using hk))
   (fun k hk=>by rw[hgd];exact ihc k (by simpa using hk))
 | nilf=>simpa[V.upd] using VR.nilf
 | iface t v d h ih=>simp only[V.upd];exact .iface t v _ ih
 | nili=>simpa[V.upd] using VR.nili
 | mapr i b hi hb=>simpa[V.upd] using VR.mapr i b (by rw[U.hl];exact hi) hb
 | nilm=>simpa[V.upd] using VR.nilm
def updBox (F ep idx:Nat) (e:V):Box→Box
 | .cells t cs=>.cells t (V.upds F ep idx e cs)
 | .mapo es=>.mapo (es.map fun (k,v)=>(V.upd F ep idx e k,V.upd F ep idx e v))
theorem updHeap_map (F ep idx:Nat) (e:V) (h:List Box):updHeap F ep idx e h=h.map (updBox F ep idx e):=rfl
theorem Upd.wr {E:Env} {st st':St} {w w':World} {F idx bs:Nat} {f:Fam} {e:V} {nv:Nat→Value} (h:WR E st w) (U:Upd E st w st' w' F idx bs f e nv)
 (hh:st'.heap=updHeap F f.ep idx e st.heap) (hlo:st'.lo=st.lo) (hflo:st'.flo=st.flo) (hks:st'.kills=F::st.kills) (hge:st.flo≤F)
 (hfr:∀c t z,w.heap[E.fam F]? = some (.cells c t z)→∃c',w'.heap[E.fam F]? = some (.cells c' t z)∧c'.size=c.size) :
 WR E st' w'∧Seg E st w E st' w':=by
 have hFl:F<st.fams.length:=(List.getElem?_eq_some_iff.1 U.was).1
 have hgd:=getD_map_dead (V.upd F f.ep idx e) (upd_dead F f.ep idx e)
 have hnoF:∀t,okTok (F::st.kills) t→t.isF F=false:=by
  intro t ho
  cases t with
  | own G g =>
   simp only[okTok,Tok.dies,List.contains_eq_mem,decide_eq_false_iff_not,List.mem_cons,not_or] at ho
   simpa[Tok.isF] using ho.1
  | _=>rfl
 refine⟨⟨?_,?_,?_,?_,?_⟩,⟨⟨?_,?_,?_,?_,fun k l h1 h2=>⟨by rw[U.hn];exact h1,h2⟩⟩,Nat.le_of_eq U.only.size.symm,?_,?_,hlo,hflo,Nat.le_of_eq U.hl.symm,by rw[U.hf];exact Nat.le_refl _,?_,fun G hG=>by rw[hks];exact List.mem_cons_of_mem _ hG,fun _ _=>rfl,U.only.quiet,U.hy⟩⟩
 · intro i bx b hi hb
   rw[hh,updHeap_map,List.getElem?_map] at hi
   cases hx:st.heap[i]? with
   | none=>rw[hx] at hi;simp at hi
   | some bx0 =>
    rw[hx] at hi
    simp at hi
    subst hi
    have hBR:=h.box i bx0 b hx hb
    have hne:b≠E.fam F:=fun e=>h.famBox F i hFl (List.getElem?_eq_some_iff.1 hx).1 (e▸hb)
    have hs:=U.only.same b hne
    cases bx0 with
    | cells t cs =>
     obtain⟨c,h1,h2,h0,h3⟩:=hBR
     refine⟨c,hs.trans h1,by simpa[upds_map] using h2,by simpa[upds_map] using h0,fun k hk=>?_⟩
     rw[upds_map,hgd]
     exact (h3 k (by simpa[upds_map] using hk)).upd U
    | mapo es =>
     obtain⟨ents,clock,h1,h2,h3⟩:=hBR
     refine⟨ents,clock,hs.trans h1,by simpa using h2,fun k hk=>?_⟩
     have hk':k<es.length:=by simpa using hk
     obtain⟨h4,h5⟩:=h3 k hk'
     have e1:(es.map fun (k,v)=>(V.upd F f.ep idx e k,V.upd F f.ep idx e v)).getD k (.dead,.dead) =
      (V.upd F f.ep idx e (es.getD k (.dead,.dead)).1,V.upd F f.ep idx e (es.getD k (.dead,.dead)).2):=by
      simp[List.getD_eq_getElem?_getD,hk']
     rw[e1]
     exact⟨h4.upd U,h5.upd U⟩
 · intro i j b hi hj
   exact h.inj i j b (by rw[←U.hl];exact hi) (by rw[←U.hl];exact hj)
 · intro G g hG
   rw[U.hf] at hG
   obtain⟨c,t,z,h2,h3⟩:=h.fam G g hG
   by_cases hGF:G=F
   · subst hGF
     obtain⟨c',h4,h5⟩:=hfr c t z h2
     exact⟨c',t,z,h4,by rw[h5];exact h3⟩
   · have hGl:=(List.getElem?_eq_some_iff.1 hG).1
     exact⟨c,t,z,(U.only.same _ (fun e=>hGF (h.famInj G F hGl hFl e))).trans h2,h3⟩
 · intro G i hG hi
   exact h.famBox G i (by rw[←U.hf];exact hG) (by rw[←U.hl];exact hi)
 · intro G H hG hH
   exact h.famInj G H (by rw[←U.hf];exact hG) (by rw[←U.hf];exact hH)
 · intro i b hi hb
   exact⟨by rw[U.hl];exact hi,hb⟩
 · intro t b off v ho hr hc
   rw[hks] at ho
   exact (U.cell (hnoF t ho) hr off).trans hc
 · intro t b hi _ _ hr
   exact U.rd hr
 · intro t off sz a n cap _ _ ht
   exact U.tok ht
 · intro b hb hnm
   exact U.only.same b (fun e=>hnm (.inr ⟨F,hge,hFl,e.symm⟩))
 · intro b hb hmu
   rcases hmu with ⟨i,h1,h2,h3⟩ | ⟨G,h1,h2,h3⟩
   · exact .inl ⟨i,by omega,by rw[←U.hl];exact h2,h3⟩
   · exact .inr ⟨G,by omega,by rw[←U.hf];exact h2,h3⟩
 · intro G hG
   exact⟨by rw[U.hf],rfl,rfl⟩
theorem frees_all (F:Nat):∀l,V.frees F l=l.all (V.free F)
 | []=>by simp[V.frees]
 | v::l=>by simp[V.frees,frees_all F l]
mutual
theorem kill_free (F:Nat):∀v:V,v.free F=true→v.kill [F]=v
 | .list t off sz xs,h=>by
  rw[kill_list,←kills_map]
  simp only[V.free,Bool.and_eq_true] at h
  rw[kills_free F xs h.2]
  cases t with
  | own G g =>
   have:G≠F:=by simpa using h.1
   simp[Tok.dies,this]
  | _=>simp[Tok.dies]
 | .eptr t idx off e,h=>by
  rw[kill_eptr]
  simp only[V.free,Bool.and_eq_true] at h
  rw[kill_free F e h.2]
  cases t with
  | own G g =>
   have:G≠F:=by simpa using h.1
   simp[Tok.dies,this]
  | _=>simp[Tok.dies]
 | .agg cs,h=>by simp only[V.free] at h;simp[V.kill,kills_free F cs h]
 | .tup cs,h=>by simp only[V.free] at h;simp[V.kill,kills_free F cs h]
 | .func fn a b,h=>by simp only[V.free,Bool.and_eq_true] at h;simp[V.kill,kills_free F a h.1,kills_free F b h.2]
 | .iface t v,h=>by simp only[V.free] at h;simp[V.kill,kill_free F v h]
 | .int ..,_ | .bool ..,_ | .str ..,_ | .ptr ..,_ | .nilp,_ | .nilf,_ | .nili,_ | .mapr ..,_ | .nilm,_ | .dead,_ | .any,_=>by simp[V.kill]
theorem kills_free (F:Nat):∀l:List V,V.frees F l=true→V.kills [F] l=l
 | [],_=>by simp[V.kills]
 | v::l,h=>by
  simp only[V.frees,Bool.and_eq_true] at h
  simp[V.kills,kill_free F v h.1,kills_free F l h.2]
end
end Go.Abs

namespace Go.Abs
theorem freezes_map (f:Nat):∀l,V.freezes f l=l.map (V.freeze f)
 | []=>by simp[V.freezes]
 | v::l=>by simp[V.freezes,freezes_map f l]
theorem unders_all (h:Nat):∀l,V.unders h l=l.all (V.under h)
 | []=>by simp[V.unders]
 | v::l=>by simp[V.unders,unders_all h l]
def Tok.freeze (f:Nat):Tok→Tok
 | .own F ep=>if F<f then .own F ep else .ro
 | t=>t
theorem freeze_list (f:Nat) (t:Tok) (off sz:Nat) (xs:List V) :
 ∃off',V.freeze f (.list t off sz xs)=.list (t.freeze f) off' sz (xs.map (V.freeze f))∧(∀F ep,t.freeze f=.own F ep→off'=off):=by
 cases t with
 | own F ep =>
  by_cases h:F<f
  · exact⟨off,by simp[V.freeze,Tok.freeze,freezes_map,h],fun _ _ _=>rfl⟩
  · exact⟨0,by simp[V.freeze,Tok.freeze,freezes_map,h],fun F ep he=>by simp[Tok.freeze,h] at he⟩
 | _=>exact⟨off,by simp[V.freeze,Tok.freeze,freezes_map],fun _ _ _=>rfl⟩
theorem freeze_eptr (f:Nat) (t:Tok) (idx off:Nat) (e:V):V.freeze f (.eptr t idx off e)=.eptr (t.freeze f) idx off (V.freeze f e):=by
 cases t with
 | own F ep=>by_cases h:F<f<;>simp[V.freeze,Tok.freeze,h]
 | _=>simp[V.freeze,Tok.freeze]
theorem freeze_dead (f:Nat):V.freeze f .dead=.dead:=by simp[V.freeze]
theorem freeze_cells (f:Nat) (v:V):(V.freeze f v).cells=v.cells.map (V.freeze f):=by
 cases v with
 | list t off sz xs=>obtain⟨o,h,_⟩:=freeze_list f t off sz xs;simp[V.cells,h]
 | eptr t idx off e=>simp[freeze_eptr,V.cells]
 | agg cs=>simp[V.freeze,V.cells,freezes_map]
 | _=>simp[V.freeze,V.cells]
theorem under_cells {h:Nat} {v:V} (hu:v.under h=true) (k:Nat):(v.cells.getD k .dead).under h=true:=by
 have hd:V.under h .dead=true:=by simp[V.under]
 cases v with
 | agg cs =>
  simp only[V.under,unders_all,List.all_eq_true] at hu
  simp only[V.cells,List.getD_eq_getElem?_getD]
  cases hk:cs[k]? with
  | none=>simpa using hd
  | some x=>simpa using hu x (List.mem_of_getElem? hk)
 | _ =>
  rcases k with _ | k
  · simpa[V.cells] using hu
  · simpa[V.cells] using hd
theorem under_getD {h:Nat} {l:List V} (hu:V.unders h l=true) (k:Nat):(l.getD k .dead).under h=true:=by
 rw[unders_all,List.all_eq_true] at hu
 simp only[List.getD_eq_getElem?_getD]
 cases hk:l[k]? with
 | none=>simp[V.under]
 | some x=>simpa using hu x (List.mem_of_getElem? hk)
theorem VR.freeze {E E':Env} {st st':St} {w':World} (hlen:st.heap.length≤st'.heap.length) (hbox:∀i,i<st.heap.length→E'.box i=E.box i)
 (hfam:∀F,F<st.fams.length→st'.fams[F]? = st.fams[F]?∧E'.fam F=E.fam F∧E'.sh F=E.sh F) {v:Value} {d:V} (h:VR E' st' w' v d) (hu:d.under st.heap.length=true) :
 VR E st w' v (d.freeze st.fams.length):=by
 have hgd:=getD_map_dead (V.freeze st.fams.length) (freeze_dead _)
 have hrd:∀t b hi,Rd E' st' t b hi→Rd E st (t.freeze st.fams.length) b hi:=by
  intro t b hi hr
  refine⟨fun i hi' he=>hr.1 i (by omega) ((hbox i hi').trans he),fun F f hF he=>?_⟩
  have hFl:F<st.fams.length:=(List.getElem?_eq_some_iff.1 hF).1
  obtain⟨g1,g2,g3⟩:=hfam F hFl
  obtain⟨⟨ep,ht⟩,hle⟩:=hr.2 F f (g1.trans hF) (g2.trans he)
  exact⟨⟨ep,by simp[ht,Tok.freeze,hFl]⟩,by rw[←g3];exact hle⟩
 have htk:∀t off off' sz a n cap,TokOK E' st' w' t off sz a n cap→(∀F ep,t.freeze st.fams.length=.own F ep→off'=off)→TokOK E st w' (t.freeze st.fams.length) off' sz a n cap:=by
  intro t off off' sz a n cap ht ho
  cases t with
  | nil=>exact ht
  | clip=>exact ht
  | ro=>trivial
  | own F ep =>
   by_cases hF:F<st.fams.length
   · have hoff:off'=off:=ho F ep (by simp[Tok.freeze,hF])
     subst hoff
     obtain⟨f,h1,h2,h3⟩:=ht
     obtain⟨g1,g2,g3⟩:=hfam F hF
     simp only[Tok.freeze,hF,if_true]
     exact⟨f,g1.symm.trans h1,h2,fun he=>by rw[←g2,←g3];exact h3 he⟩
   · simp only[Tok.freeze,hF,if_false]
     trivial
 have hnil:∀t:Tok,t≠.nil→t.freeze st.fams.length≠.nil:=by
  intro t ht
  cases t with
  | nil=>exact absurd rfl ht
  | own F ep=>simp only[Tok.freeze];split<;>simp
  | _=>simp[Tok.freeze]
 induction h with
 | dead v h=>rw[freeze_dead];exact .dead v h
 | any v=>simpa[V.freeze] using VR.any v
 | int k n=>simpa[V.freeze] using VR.int k n
 | bool b=>simpa[V.freeze] using VR.bool b
 | str s=>simpa[V.freeze] using VR.str s
 | nil off sz=>simpa[V.freeze,V.freezes] using VR.nil off sz
 | list t off sz xs a cap vs ht hcap hsp hz hel hcell hr htok hone hv ih =>
  obtain⟨off',hfz,hoff⟩:=freeze_list st.fams.length t off sz xs
  rw[hfz]
  have hlen':(xs.map (V.freeze st.fams.length)).length=xs.length:=by simp
  simp only[V.under] at hu
  have key:VR E st w' (.slice (some a) (xs.map (V.freeze st.fams.length)).length cap) (.list (t.freeze st.fams.length) off' sz (xs.map (V.freeze st.fams.length))):=by
   refine .list _ off' sz _ a cap vs (hnil t ht) (by omega) (by rw[hlen'];exact hsp) (by rw[hlen'];exact hz) ?_ ?_ ?_ ?_ (by rw[hlen'];exact hone) ?_
   · intro j hj
     rw[hgd,freeze_cells,List.length_map]
     exact hel j (by omega)
   · intro j hj
     rw[hlen'] at hj
     exact hcell j hj
   · intro hpos
     rw[hlen'] at hpos ⊢
     exact hrd _ _ _ (hr hpos)
   · rw[hlen'];exact htk _ _ _ _ _ _ _ htok hoff
   · intro j k hj hk
     rw[hlen'] at hj
     rw[hgd,freeze_cells,hgd]
     exact ih j k hj hk (under_cells (under_getD hu j) k)
  simpa[hlen'] using key
 | agg cs ds hl hone hv ih =>
  simp only[V.freeze,freezes_map]
  simp only[V.under] at hu
  exact .agg cs _ (by simpa using hl) (by simpa using hone) fun k hk=>by rw[hgd];exact ih k (by simpa using hk) (under_getD hu k)
 | tup cs ds hl hv ih =>
  simp only[V.freeze,freezes_map]
  simp only[V.under] at hu
  exact .tup cs _ (by simpa using hl) fun k hk=>by rw[hgd];exact ih k (by simpa using hk) (under_getD hu k)
 | ptr i off b hi hb =>
  simp only[V.under,decide_eq_true_eq] at hu
  simpa[V.freeze] using VR.ptr i off b hu ((hbox i hu).symm.trans hb)
 | eptr t idx off e b o vs ht hz hcell hr htok hone hv ih =>
  rw[freeze_eptr]
  simp only[V.under] at hu
  have hl:(V.freeze st.fams.length e).cells.length=e.cells.length:=by rw[freeze_cells,List.length_map]
  refine .eptr _ idx off _ b o vs (hnil t ht) (by omega) ?_ ?_ ?_ (by rw[hl];exact hone) ?_
  · intro k hk
    exact hcell k (by omega)
  · rw[hl];exact hrd _ _ _ hr
  · rw[hl];exact htk _ _ _ _ _ _ _ htok (fun _ _ _=>rfl)
  · intro k hk
    rw[freeze_cells,hgd]
    exact ih k (by omega) (under_cells hu k)
 | nilp=>simpa[V.freeze] using VR.nilp
 | yld k l hk hl=>simp[V.under] at hu
 | func fn first cap df dc hy hf hc hvf hvc ihf ihc =>
  simp only[V.freeze,freezes_map]
  simp only[V.under,Bool.and_eq_true] at hu
  have hu:=hu.2
  exact .func fn first cap _ _ hy (by simpa using hf) (by simpa using hc)
   (fun k hk=>by rw[hgd];exact ihf k (by simpa using hk) (under_getD hu.1 k))
   (fun k hk=>by rw[hgd];exact ihc k (by simpa using hk) (under_getD hu.2 k))
 | nilf=>simpa[V.freeze] using VR.nilf
 | iface t v d h ih=>simp only[V.freeze];simp only[V.under] at hu;exact .iface t v _ (ih hu)
 | nili=>simpa[V.freeze] using VR.nili
 | mapr i b hi hb =>
  simp only[V.under,decide_eq_true_eq] at hu
  simpa[V.freeze] using VR.mapr i b hu ((hbox i hu).symm.trans hb)
 | nilm=>simpa[V.freeze] using VR.nilm
end Go.Abs

namespace Go.Abs
open Go
theorem run_typeInfo' {P:Program} {t:TypeId} {i:TypeInfo} (h:P.info? t=some i) (w:World):(typeInfo t).run P w=.ok i w:=by
 simp[typeInfo,h]
theorem run_sizeB {P:Program} {t:TypeId} {n:Nat} (h:sizeB P t=some n) (w:World):(sizeOf t).run P w=.ok n w:=by
 unfold sizeB at h
 cases hi:P.info? t with
 | none=>simp[hi] at h
 | some i=>simp[hi] at h;simp[sizeOf,run_typeInfo' hi,h]
theorem run_isAggB {P:Program} {t:TypeId} {b:Bool} (h:isAggB P t=some b) (w:World):(isAgg t).run P w=.ok b w:=by
 unfold isAggB at h
 cases hu:P.underlying t with
 | none=>simp[hu] at h
 | some d=>cases d<;>simp[hu] at h<;>subst h<;>simp[isAgg,run_underlying hu]
theorem zeroB_some {P:Program} {t:TypeId} {z:V} (h:zeroB P t=some z):∃v,z=ofVal 3 v∧∀w,(zeroValue t).run P w=.ok v w:=by
 unfold zeroB at h
 cases hi:P.info? t with
 | none=>simp[hi] at h
 | some i =>
  cases hz:i.zero with
  | none=>simp[hi,hz] at h
  | some v=>simp[hi,hz] at h;exact⟨v,h.symm,fun w=>by simp[zeroValue,run_typeInfo' hi,hz]⟩
theorem adr_add (b o n:Nat):(adr b o).add n=adr b (o+n):=by
 unfold Addr.add adr
 split<;>simp_all
theorem part_VR {E:Env} {st:St} {w:World} {P:Program} {t:TypeId} {cs:Array Value} {ds:List V} {off:Nat} {d:V} (hl:cs.size=ds.length) (hone:∀k,k<ds.length→(cs.getD k undef).oneCell'=true)
 (hv:∀k,k<ds.length→VR E st w (cs.getD k undef) (ds.getD k .dead)) (h:partB P t ds off=some d) :
 ∃v,(∀w',(part t cs off).run P w'=.ok v w')∧VR E st w v d:=by
 unfold partB at h
 cases ha:isAggB P t with
 | none=>simp[ha] at h
 | some b =>
  cases b with
  | true =>
   cases hs:sizeB P t with
   | none=>simp[ha,hs] at h
   | some n =>
    simp only[ha,hs] at h
    split at h
    · rename_i hle
      injection h with h
      subst h
      refine⟨.agg (cs.extract off (off+n)),fun w'=>by simp[part,run_isAggB ha,run_sizeB hs],?_⟩
      have e0:∀k,k<n→(cs.extract off (off+n)).getD k undef=cs.getD (off+k) undef:=by
       intro k hk1
       simp only[Array.getD_eq_getD_getElem?,Array.getElem?_extract]
       rw[if_pos (by omega)]
      refine .agg _ _ (by simp;omega) (fun k hk=>by
       have hk1:k<n:=by simp at hk;omega
       rw[e0 k hk1];exact hone _ (by omega)) fun k hk=>?_
      have hk1:k<n:=by simp at hk;omega
      have e1:(cs.extract off (off+n)).getD k undef=cs.getD (off+k) undef:=by
       simp only[Array.getD_eq_getD_getElem?,Array.getElem?_extract]
       rw[if_pos (by omega)]
      have e2:(((ds.drop off).take n).getD k .dead)=ds.getD (off+k) .dead:=by
       simp[List.getD_eq_getElem?_getD,List.getElem?_take_of_lt hk1,List.getElem?_drop]
      rw[e1,e2]
      exact hv _ (by omega)
    · simp at h
  | false =>
   have hcs:ds[off]? = some d:=by
    simp only[ha] at h
    cases hs:sizeB P t<;>simpa[hs] using h
   have hlt:off<ds.length:=(List.getElem?_eq_some_iff.1 hcs).1
   have h1:=hv off hlt
   have e2:ds.getD off .dead=d:=by simp[List.getD_eq_getElem?_getD,hcs]
   have e1:cs[off]? = some (cs.getD off undef):=by
    simp[Array.getD_eq_getD_getElem?,(by omega:off<cs.size)]
   rw[e2] at h1
   generalize cs.getD off undef=x at e1 h1
   exact⟨x,fun w'=>by simp[part,run_isAggB ha,e1],h1⟩
theorem loadVar_VR {E:Env} {st:St} {w:World} {P:Program} {t:TypeId} {b o off:Nat} {vs:Nat→Value} {ds:List V} {d:V}
 (hc:∀k,k<ds.length→w.cell? (adr b (o+k))=some (vs k)) (hone:∀k,k<ds.length→(vs k).oneCell'=true) (hv:∀k,k<ds.length→VR E st w (vs k) (ds.getD k .dead)) (h:partB P t ds off=some d) :
 ∃v,(loadVar t (adr b (o+off))).run P w=.ok v w∧VR E st w v d:=by
 unfold partB at h
 cases ha:isAggB P t with
 | none=>simp[ha] at h
 | some bb =>
  cases bb with
  | true =>
   cases hs:sizeB P t with
   | none=>simp[ha,hs] at h
   | some n =>
    simp only[ha,hs] at h
    split at h
    · rename_i hle
      injection h with h
      subst h
      have hload:=run_loadCells (P:=P) w (adr b (o+off)) n (fun j=>vs (off+j)) (fun j hj=>by
       rw[adr_add,Nat.add_assoc];exact hc _ (by omega))
      refine⟨.agg ((List.range n).map fun j=>vs (off+j)).toArray,by simp[loadVar,run_isAggB ha,run_sizeB hs,hload],?_⟩
      refine .agg _ _ (by simp;omega) (fun k hk=>by
       have hk1:k<n:=by simp at hk;omega
       have e1:(((List.range n).map fun j=>vs (off+j)).toArray).getD k undef=vs (off+k):=by
        simp[Array.getD_eq_getD_getElem?,hk1]
       rw[e1];exact hone _ (by omega)) fun k hk=>?_
      have hk1:k<n:=by simp at hk;omega
      have e1:(((List.range n).map fun j=>vs (off+j)).toArray).getD k undef=vs (off+k):=by
       simp[Array.getD_eq_getD_getElem?,hk1]
      have e2:(((ds.drop off).take n).getD k .dead)=ds.getD (off+k) .dead:=by
       simp[List.getD_eq_getElem?_getD,List.getElem?_take_of_lt hk1,List.getElem?_drop]
      rw[e1,e2]
      exact hv _ (by omega)
    · simp at h
  | false =>
   have hcs:ds[off]? = some d:=by
    simp only[ha] at h
    cases hs:sizeB P t<;>simpa[hs] using h
   have hlt:off<ds.length:=(List.getElem?_eq_some_iff.1 hcs).1
   have h1:=hv off hlt
   have e2:ds.getD off .dead=d:=by simp[List.getD_eq_getElem?_getD,hcs]
   rw[e2] at h1
   exact⟨vs off,by simp[loadVar,run_isAggB ha,hc off hlt],h1⟩
theorem heap_cell {w:World} {b o:Nat} {c:Array Value} {t:TypeId} {z:Nat×Nat} (h:w.heap[b]? = some (.cells c t z)):w.cell? (adr b o)=c[o]? := by
 simp[World.cell?,h]
theorem load_VR {E:Env} {st:St} {w:World} {P:Program} {t:TypeId} {p d:V} {v:Value} (hw:WR E st w) (hp:VR E st w v p) (h:loadB P st t p=some d) :
 ∃r,(Instr.loadAt t v).run P w=.ok r w∧VR E st w r d:=by
 unfold loadB at h
 cases hp with
 | ptr i off b hi hb =>
  simp only at h
  have hbx:=List.getElem?_eq_getElem hi
  rw[hbx] at h
  cases hx:st.heap[i] with
  | mapo es=>rw[hx] at h;simp at h
  | cells ty cs =>
   rw[hx] at h hbx
   obtain⟨c,h1,h2,h0,h3⟩:=hw.box i _ b hbx hb
   obtain⟨r,hr,hrv⟩:=loadVar_VR (E:=E) (st:=st) (w:=w) (P:=P) (t:=t) (b:=b) (o:=0) (off:=off) (vs:=fun k=>c.getD k undef) (ds:=cs) (d:=d)
    (fun k hk=>by
     rw[heap_cell h1]
     simp[Array.getD_eq_getD_getElem?,(by omega:k<c.size)]) h0 h3 h
   rw[Nat.zero_add] at hr
   exact⟨r,by simp[Instr.loadAt,Instr.sureAddr,hr],hrv⟩
 | eptr t' idx off e b o vs ht hz hcell hrd htok hone hv =>
  simp only at h
  obtain⟨r,hr,hrv⟩:=loadVar_VR (P:=P) hcell hone hv h
  exact⟨r,by simp[Instr.loadAt,Instr.sureAddr,hr],hrv⟩
 | _=>simp at h
def wrAt (c:Array Value) (o:Nat):List Value→Array Value
 | []=>c
 | v::r=>wrAt (c.setIfInBounds o v) (o+1) r
theorem wrAt_size:∀(vs:List Value) (c:Array Value) (o:Nat),(wrAt c o vs).size=c.size
 | [],_,_=>rfl
 | v::r,c,o=>by simp[wrAt,wrAt_size r]
theorem wrAt_get:∀(vs:List Value) (c:Array Value) (o k:Nat),o+vs.length≤c.size →
 (wrAt c o vs).getD k undef=if o≤k∧k<o+vs.length then vs.getD (k-o) undef else c.getD k undef
 | [],c,o,k,_=>by
  rw[if_neg (by simp only[List.length_nil];omega)];rfl
 | v::r,c,o,k,h=>by
  simp only[List.length_cons] at h
  rw[wrAt,wrAt_get r (c.setIfInBounds o v) (o+1) k (by simp;omega)]
  by_cases hk:k=o
  · subst hk
    rw[if_neg (by omega),if_pos (by simp)]
    simp[Array.getD_eq_getD_getElem?,(by omega:k<c.size)]
  · have e1:(c.setIfInBounds o v).getD k undef=c.getD k undef:=by
     simp[Array.getD_eq_getD_getElem?,Array.getElem?_setIfInBounds_ne (fun e=>hk e.symm)]
    rw[e1]
    by_cases hin:o+1≤k∧k<o+1+r.length
    · rw[if_pos hin,if_pos (by simp;omega)]
      obtain⟨m,hm⟩:∃m,k-o=m+1:=⟨k-o-1,by omega⟩
      rw[hm,show k-(o+1)=m by omega]
      simp[List.getD_eq_getElem?_getD]
    · rw[if_neg hin,if_neg (by simp;omega)]
theorem setCell_heap (w:World) (b o:Nat) (v:Value) (b':Nat) :
 (w.setCell (adr b o) v).heap[b']? = if b=b' then (w.heap[b']?).map (fun | .cells c t z=>.cells (c.setIfInBounds o v) t z | x=>x) else w.heap[b']? := by
 simp only[World.setCell,Array.getElem?_modify]
 split<;>rfl
theorem setCells_heap (b:Nat):∀(vs:List Value) (o:Nat) (w:World) (c:Array Value) (t:TypeId) (z:Nat×Nat),w.heap[b]? = some (.cells c t z) →
 (w.setCells b o vs).heap[b]? = some (.cells (wrAt c o vs) t z)∧(w.setCells b o vs).heap.size=w.heap.size∧∀b',b'≠b→(w.setCells b o vs).heap[b']? = w.heap[b']?
 | [],o,w,c,t,z,h=>⟨h,rfl,fun _ _=>rfl⟩
 | v::r,o,w,c,t,z,h=>by
  have h1:(w.setCell ⟨b,o,none⟩ v).heap[b]? = some (.cells (c.setIfInBounds o v) t z):=by
   have:=setCell_heap w b o v b
   rw[if_pos rfl,h] at this
   exact this
  obtain⟨h2,h3,h4⟩:=setCells_heap b r (o+1) (w.setCell ⟨b,o,none⟩ v) _ t z h1
  refine⟨h2,by rw[World.setCells,h3];simp[World.setCell],fun b' hb=>?_⟩
  rw[World.setCells,h4 b' hb]
  have:=setCell_heap w b o v b'
  rw[if_neg (fun e=>hb e.symm)] at this
  exact this
theorem setCells_quiet (b:Nat):∀(vs:List Value) (o:Nat) (w:World),Quiet w (w.setCells b o vs)
 | [],o,w=>.refl w
 | v::r,o,w=>(show Quiet w (w.setCell ⟨b,o,none⟩ v) from ⟨rfl,rfl⟩).trans (setCells_quiet b r (o+1) _)
theorem run_lay {P:Program} {w:World} {b o:Nat} {vs:List Value} {c:Array Value} {t:TypeId} {z:Nat×Nat} (h:w.heap[b]? = some (.cells c t z))
 (hl:o+vs.length≤c.size) (hz:∀k,o≤k→k<o+vs.length→¬(z.1≤k∧k<z.2)) (h1:∀v∈vs,v.oneCell'=true) :
 ∃w',(storeCells (adr b o) vs).run P w=.ok () w'∧w'.heap[b]? = some (.cells (wrAt c o vs) t z)∧Only b w w':=by
 have hr:=run_storeCells_cells (P:=P) b o vs 0 w (fun j hj=>by
  have:=heap_cell (o:=o+0+j) h
  rw[this]
  simp[(by omega:o+j<c.size)]) (fun j hj=>by
  simp only[World.frozen?,h]
  have:=hz (o+j) (by omega) (by omega)
  simp only[Nat.add_zero]
  simp only[Bool.and_eq_false_iff,decide_eq_false_iff_not]
  omega) h1
 obtain⟨h2,h3,h4⟩:=setCells_heap b vs (o+0) w c t z h
 exact⟨_,hr,h2,h3,h4,setCells_quiet b vs _ w⟩
end Go.Abs

namespace Go.Abs
open Go
theorem splice_length {cs vc:List V} {off:Nat} (h:off+vc.length≤cs.length):(splice cs off vc).length=cs.length:=by
 simp[splice];omega
theorem splice_getD {cs vc:List V} {off:Nat} (h:off+vc.length≤cs.length) (k:Nat) :
 (splice cs off vc).getD k .dead=if off≤k∧k<off+vc.length then vc.getD (k-off) .dead else cs.getD k .dead:=by
 simp only[splice,List.getD_eq_getElem?_getD]
 by_cases h1:k<off
 · rw[if_neg (by omega),List.append_assoc,List.getElem?_append_left (by simp;omega),List.getElem?_take_of_lt h1]
 · by_cases h2:k<off+vc.length
   · rw[if_pos (by omega),List.append_assoc,List.getElem?_append_right (by simp;omega),List.getElem?_append_left (by simp;omega)]
     simp only[List.length_take]
     rw[show k-min off cs.length=k-off by omega]
   · rw[if_neg (by omega),List.append_assoc,List.getElem?_append_right (by simp;omega),List.getElem?_append_right (by simp;omega),List.getElem?_drop]
     simp only[List.length_take]
     rw[show off+vc.length+(k-min off cs.length-vc.length)=k by omega]
theorem wr_splice {E:Env} {st:St} {w:World} {c:Array Value} {cs vc:List V} {vl:List Value} {off:Nat} (hc:c.size=cs.length) (hl:off+vc.length≤cs.length)
 (hvl:vl.length=vc.length) (h1:∀k,k<cs.length→VR E st w (c.getD k undef) (cs.getD k .dead)) (h2:∀k,k<vc.length→VR E st w (vl.getD k undef) (vc.getD k .dead))
 (k:Nat) (hk:k<cs.length):VR E st w ((wrAt c off vl).getD k undef) ((splice cs off vc).getD k .dead):=by
 rw[splice_getD hl,wrAt_get vl c off k (by omega)]
 by_cases h:off≤k∧k<off+vc.length
 · rw[if_pos h,if_pos (by omega)]
   exact h2 _ (by omega)
 · rw[if_neg h,if_neg (by omega)]
   exact h1 k hk
theorem free_cells {F:Nat} {v:V} (hv:v.free F=true) (k:Nat):(v.cells.getD k .dead).free F=true:=by
 cases v with
 | agg cs =>
  simp only[V.free,frees_all,List.all_eq_true] at hv
  simp only[V.cells,List.getD_eq_getElem?_getD]
  cases hk:cs[k]? with
  | none=>simp[V.free]
  | some x=>simpa using hv x (List.mem_of_getElem? hk)
 | _ =>
  rcases k with _ | k
  · simpa[V.cells] using hv
  · simp[V.cells,V.free]
theorem step_row {E:Env} {st st':St} {w w':World} {F:Nat} {f:Fam} (hF:st.fams[F]? = some f) (hO:Only (E.fam F) w w') (hr:rowSize w' (E.fam F)=rowSize w (E.fam F))
 (hl:st'.heap.length=st.heap.length) (hf:st'.fams=st.fams) (hny:st.ny≤st'.ny:=by exact Nat.le_refl _):Step [F] E st w E st' w' where
 lp k l h1 h2:=⟨Nat.lt_of_lt_of_le h1 hny,h2⟩
 box i b hi hb:=⟨by omega,hb⟩
 cell t b off v ho hrd hc:=by
  have hne:b≠E.fam F:=by
   intro he
   obtain⟨⟨ep,h1⟩,_⟩:=hrd.2 F f hF he.symm
   subst h1
   simp[okTok,Tok.dies] at ho
  exact (cell_of_heap (hO.same b hne) off).trans hc
 rd t b hi _ _ h:=⟨fun i hi'=>h.1 i (by omega),fun G g hG=>h.2 G g (by rw[←hf];exact hG)⟩
 tok t off sz a n cap _ _ h:=h.of_rows (fun G g hG=>⟨by rw[hf];exact hG,rfl,rfl⟩) (by
  by_cases he:a.block=E.fam F
  · rw[he,hr];exact Nat.le_refl _
  · exact Nat.le_of_eq (rowSize_of_heap (hO.same _ he)).symm)
theorem reElem_cells {e:V} {ec cs:List V} (hf:e.flat=some ec) (hl:cs.length=ec.length) (h1:∀x,cs=[x]→(∀ds,e≠.agg ds)→x.cells=[x]):(reElem e cs).cells=cs:=by
 cases e with
 | agg ds=>simp[reElem,V.cells]
 | any=>simp[V.flat] at hf
 | tup=>simp[V.flat] at hf
 | _ =>
  simp only[V.flat,Option.some.injEq] at hf
  subst hf
  match cs,hl with
  | [x],_=>simpa[reElem] using h1 x rfl (by simp)
theorem flat_one {v x:V} {vc:List V} (hf:v.flat=some vc) (hx:vc=[x]) (hna:∀ds,v≠.agg ds):x.cells=[x]:=by
 cases v<;>simp[V.flat] at hf<;>first | exact absurd rfl (hna _) | (subst hf;injection hx with hx;subst hx;rfl)
theorem cell_cells {E:Env} {st:St} {w:World} {v:Value} {x:V} (h1:v.oneCell'=true) (h:VR E st w v x):x.cells=[x]:=by
 cases h<;>first | rfl | simp[Value.oneCell'] at h1
structure StoreR (P:Program) (E:Env) (st:St) (w:World) (ts:Array Value) (s':List V) (st':St) (x:Sem Unit):Prop where
 ex:∃w' E',x.run P w=.ok () w'∧WR E' st' w'∧SR E' st' w' ts s'∧Seg E st w E' st' w'
theorem store_VR {E:Env} {st st':St} {w:World} {P:Program} {t:TypeId} {p d:V} {pv v:Value} {ts:Array Value} {s s':List V} (hw:WR E st w) (hs:SR E st w ts s)
 (hp:VR E st w pv p) (hd:VR E st w v d) (h:storeB P s st t p d=some (s',st')):StoreR P E st w ts s' st' (Instr.storeAt t pv v):=by
 unfold storeB at h
 cases hfl:d.flat with
 | none=>simp[hfl] at h
 | some vc =>
  simp only[hfl] at h
  obtain⟨hsz,hone0,hvv⟩:=hd.flat' hfl
  split at h
  · rename_i hc
    have hc1:=hc
    have hone:∀x∈v.cells.toList,x.oneCell'=true:=by
     intro x hx
     obtain⟨k,hk,rfl⟩:=List.getElem_of_mem hx
     have hk':k<vc.length:=by simp at hk;omega
     have h1:=hone0 k hk'
     have e1:v.cells.getD k undef=v.cells.toList[k]:=by
      have hks:k<v.cells.size:=by simpa using hk
      simp[Array.getD_eq_getD_getElem?,Array.getElem?_eq_getElem hks]
     rwa [e1] at h1
    have hone1:∀k,k<vc.length→(v.cells.toList.getD k undef).oneCell'=true:=by
     intro k hk
     have:v.cells.toList.getD k undef=v.cells.getD k undef:=by simp[List.getD_eq_getElem?_getD,Array.getD_eq_getD_getElem?]
     rw[this];exact hone0 k hk
    have hget:∀k,k<vc.length→VR E st w (v.cells.toList.getD k undef) (vc.getD k .dead):=by
     intro k hk
     have:v.cells.toList.getD k undef=v.cells.getD k undef:=by simp[List.getD_eq_getElem?_getD,Array.getD_eq_getD_getElem?]
     rw[this];exact hvv k hk
    have hvl:v.cells.toList.length=vc.length:=by simpa using hsz
    have hrun:∀a,(storeVar t a v).run P w=(storeCells a v.cells.toList).run P w:=by
     intro a
     simp[storeVar,run_sizeB hc1.symm,hsz]
    cases hp with
    | ptr i off b hi hb =>
     simp only at h
     split at h
     · rename_i hlo
       have hbx:=List.getElem?_eq_getElem hi
       rw[hbx] at h
       cases hx:st.heap[i] with
       | mapo es=>rw[hx] at h;simp at h
       | cells ty cs =>
        rw[hx] at h hbx
        simp only at h
        split at h
        · rename_i hle
          simp only[Option.some.injEq,Prod.mk.injEq] at h
          obtain⟨rfl,rfl⟩:=h
          obtain⟨c,h1,h2,h0,h3⟩:=hw.box i _ b hbx hb
          obtain⟨w',hr,hh,hO⟩:=run_lay (P:=P) (o:=off) (vs:=v.cells.toList) h1 (by omega) (by simp) hone
          obtain⟨g1,g2⟩:=write_box hw hlo hi hb hO (.cells ty (splice cs off vc)) (fun S=>by
           refine⟨_,hh,by rw[wrAt_size,splice_length hle];exact h2,fun k hk=>?_,fun k hk=>?_⟩
           · rw[splice_length hle] at hk
             rw[wrAt_get _ _ _ _ (by omega)]
             by_cases hkk:off≤k∧k<off+v.cells.toList.length
             · rw[if_pos hkk];exact hone1 _ (by omega)
             · rw[if_neg hkk];exact h0 k hk
           rw[splice_length hle] at hk
           exact wr_splice h2 hle hvl (fun k hk=>(h3 k hk).step0 S) (fun k hk=>(hget k hk).step0 S) k hk)
          exact⟨w',E,by simp[Instr.storeAt,Instr.sureAddr,hrun,hr],g1,hs.step0 (step_box hw hi hb hO (by simp) rfl),g2⟩
        · simp at h
     · simp at h
    | eptr t' idx off e b o vs ht hz hcell hrd htok honeE hv =>
     cases t' with
     | own F ep =>
      simp only at h
      split at h
      · rename_i hge
        cases hF:st.fams[F]? with
        | none=>simp[hF] at h
        | some f =>
         cases hec:e.flat with
         | none=>simp[hF,hec] at h
         | some ec =>
          simp only[hF,hec] at h
          split at h
          · rename_i hcond
            obtain⟨hep,hwr,hle,hfd,hfe⟩:=hcond
            simp only[Option.some.injEq,Prod.mk.injEq] at h
            obtain⟨rfl,rfl⟩:=h
            have hce:=flat_cells hec
            obtain⟨g,g1,g2,g3⟩:=htok
            rw[hF] at g1
            injection g1 with g1
            subst g1
            obtain⟨a1,a2,a3,a4,a5⟩:=g3 hep.symm
            obtain⟨a6,_⟩:=a3 (by omega)
            simp only at a1 a5 a6
            subst a1
            obtain⟨c,ty,z,h1,h2,h34⟩:=hw.fam F f hF
            have h3:0<f.sz:=by rw[a2];exact hz
            have h4:=(h34 h3).2.2
            have hrow:rowSize w (E.fam F)=c.size:=by simp[rowSize,h1]
            rw[hrow,hce] at a5
            rw[hce] at a2 hcell hv hz hrd honeE
            rw[hce] at a6
            have hin:o+ec.length≤c.size:=by rw[Nat.add_mul] at a5;omega
            obtain⟨w',hr,hh,hO⟩:=run_lay (P:=P) (o:=o+off) (vs:=v.cells.toList) h1 (by omega) (fun k hk1 hk2=>h4 k (by omega) (fun hf=>by rw[hwr] at hf;exact absurd hf (by simp))) hone
            have hrow':rowSize w' (E.fam F)=rowSize w (E.fam F):=by rw[hrow];simp[rowSize,hh,wrAt_size]
            generalize he':reElem e (splice ec off vc)=e'
            have hcells':e'.cells=splice ec off vc:=by
             rw[←he']
             refine reElem_cells hec (splice_length hle) (fun x hx hna=>?_)
             have hec1:ec=[e]:=by
              cases e<;>simp[V.flat] at hec ⊢<;>first | exact hec.symm | exact absurd rfl (hna _)
             have hecl:ec.length=1:=by rw[hec1];rfl
             rcases Nat.eq_zero_or_pos vc.length with h0 | h0
             · have hv0:vc=[]:=List.eq_nil_of_length_eq_zero h0
               have:splice ec off vc=ec:=by simp[splice,hv0]
               rw[this,hec1] at hx
               injection hx with hx
               subst hx
               rw[hce,hec1]
             · have hoff:off=0:=by omega
               match vc,h0,hle with
               | [y],_,_ =>
                have:splice ec off [y]=[y]:=by simp[splice,hoff,hec1]
                rw[this] at hx
                injection hx with hx
                subst hx
                by_cases hna:∃ds,d=.agg ds
                · obtain⟨ds,rfl⟩:=hna
                  simp only[V.flat,Option.some.injEq] at hfl
                  subst hfl
                  exact cell_cells (hone1 0 (by simp)) (hget 0 (by simp))
                · exact flat_one hfl rfl (fun ds h=>hna ⟨ds,h⟩)
               | y::z::r,_,hle=>simp at hle;omega
            have S:Step [F] E st w E { st with heap:=updHeap F ep idx e' st.heap,kills:=F::st.kills } w' :=
             step_row hF hO hrow' (by simp[updHeap_map]) rfl
            have U:Upd E st w { st with heap:=updHeap F ep idx e' st.heap,kills:=F::st.kills } w' F idx o f e' (fun k=>(wrAt c (o+off) v.cells.toList).getD (o+k) undef):=by
             refine⟨by rw[a2];exact a6,hF,hO,hrow',?_,?_,by rw[hcells',splice_length hle,a2],?_,?_,by simp[updHeap_map],rfl,rfl,rfl⟩
             · intro k hk
               rw[a2] at hk
               rw[heap_cell hh]
               have:o+k<(wrAt c (o+off) v.cells.toList).size:=by rw[wrAt_size];omega
               simp[Array.getD_eq_getD_getElem?,this]
             · intro q ho
               rw[a2] at ho
               rw[heap_cell hh,heap_cell h1]
               by_cases hoc:q<c.size
               · have e1:=wrAt_get v.cells.toList c (o+off) q (by omega)
                 rw[if_neg (by omega)] at e1
                 have e2:(wrAt c (o+off) v.cells.toList)[q]? = some ((wrAt c (o+off) v.cells.toList).getD q undef):=by
                  have:q<(wrAt c (o+off) v.cells.toList).size:=by rw[wrAt_size];exact hoc
                  simp[Array.getD_eq_getD_getElem?,this]
                 rw[e2,e1]
                 simp[Array.getD_eq_getD_getElem?,hoc]
               · have e5:c[q]? = none:=Array.getElem?_eq_none (by omega)
                 have e6:(wrAt c (o+off) v.cells.toList)[q]? = none:=Array.getElem?_eq_none (by rw[wrAt_size];omega)
                 rw[e6,e5]
             · intro k hk
               rw[a2] at hk
               show ((wrAt c (o+off) v.cells.toList).getD (o+k) undef).oneCell'=true
               rw[wrAt_get _ _ _ _ (by omega)]
               by_cases hkk:o+off≤o+k∧o+k<o+off+v.cells.toList.length
               · rw[if_pos hkk];exact hone1 _ (by omega)
               · rw[if_neg hkk]
                 have h6:=hcell k hk
                 rw[heap_cell h1] at h6
                 have e3:c.getD (o+k) undef=vs k:=by simp[Array.getD_eq_getD_getElem?,h6]
                 rw[e3];exact honeE k hk
             · intro k hk
               rw[a2] at hk
               rw[hcells',splice_getD hle,wrAt_get _ _ _ _ (by omega)]
               by_cases hkk:off≤k∧k<off+vc.length
               · rw[if_pos hkk,if_pos (by omega),show o+k-(o+off)=k-off by omega]
                 have:=(hget (k-off) (by omega)).step S
                 rwa [kill_free F _ (by rw[←flat_cells hfl];exact free_cells hfd _)] at this
               · rw[if_neg hkk,if_neg (by omega)]
                 have h5:=hv k hk
                 have h6:=hcell k hk
                 rw[heap_cell h1] at h6
                 have e3:c.getD (o+k) undef=vs k:=by simp[Array.getD_eq_getD_getElem?,h6]
                 rw[e3]
                 have:=h5.step S
                 rwa [kill_free F _ (by rw[←hce];exact free_cells hfe _)] at this
            obtain⟨g4,g5⟩:=U.wr hw (by rw[hep]) rfl rfl rfl hge (fun c2 t2 z2 h5=>by
             rw[h1] at h5
             injection h5 with h5
             injection h5 with i1 i2 i3
             subst i1;subst i2;subst i3
             exact⟨_,hh,wrAt_size _ _ _⟩)
            refine⟨w',E,?_,g4,⟨by rw[upds_map,List.length_map];exact hs.size,fun i hi=>?_⟩,g5⟩
            · simp[Instr.storeAt,Instr.sureAddr,hrun,hr,hce]
            · rw[upds_map,getD_map_any _ (by simp[V.upd])]
              rw[upds_map,List.length_map] at hi
              have:=(hs.val i hi).upd U
              rwa [hep] at this
          · simp at h
      · simp at h
     | _=>simp at h
    | _=>simp at h
  · simp at h
end Go.Abs

namespace Go.Abs
open Go
inductive News (P:Program) (w:World) (ts:Array TypeId) (elem:TypeId) (sz by_:Nat) (x:Value) (nv:List Value) (m:Nat):Prop where
 | plain (h:notIntB P ts=true) (hl:∀w1,(Builtin.lenOf x).run P w1=.ok m w1) (hc:∀w1,w1.heap=w.heap→(Builtin.firstCells sz m x).run P w1=.ok nv.toArray w1):News P w ts elem sz by_ x nv m
 | zeros (xt:TypeId) (k:IntKind) (h:ts[1]? = some xt) (hk:P.underlying xt=some (.int k)) (hx:x=.int .i64 (m:Int)) (hm:m≤9223372036854775807) (hb:m*by_≤281474976710656)
  (hc:∀w1,(do if m*sz=0 then pure #[] else do pure (Builtin.zeroCells (←zeroValue elem).cells m):Sem (Array Value)).run P w1=.ok nv.toArray w1):News P w ts elem sz by_ x nv m
theorem notInt_run {P:Program} {ts:Array TypeId} (h:notIntB P ts=true):ts[1]? = none∨∃xt d,ts[1]? = some xt∧P.underlying xt=some d∧∀k,d≠.int k:=by
 unfold notIntB at h
 cases h1:ts[1]? with
 | none=>exact .inl rfl
 | some xt =>
  right
  rw[h1] at h
  simp only at h
  cases h2:P.underlying xt with
  | none=>rw[h2] at h;simp at h
  | some d =>
   rw[h2] at h
   exact⟨xt,d,rfl,h2,fun k hk=>by subst hk;simp at h⟩
theorem append_room {P:Program} {w:World} {ts:Array TypeId} {t ty elem:TypeId} {i:TypeInfo} {x:Value} {nv:List Value} {m n cap:Nat} {a:Addr} (ht:ts[0]? = some t)
 (hu:P.underlying t=some (.slice elem)) (hi:P.info? elem=some i) (hN:News P w ts elem i.size i.bytes x nv m) (hroom:n+m≤cap) :
 (Builtin.append_ ts ty #[.slice (some a) n cap,x]).run P w=((storeCells (a.add (n*i.size)) nv).run P w).andThen fun _ w'=>.ok (.slice (some a) (n+m) cap) w':=by
 have e0:(#[Value.slice (some a) n cap,x]:Array Value)[0]? = some (.slice (some a) n cap):=rfl
 have e1:(#[Value.slice (some a) n cap,x]:Array Value)[1]? = some x:=rfl
 have es:∀w,(sizeOf elem).run P w=.ok i.size w:=fun w=>by simp[sizeOf,run_typeInfo' hi]
 cases hN with
 | plain h hl hc =>
  have hc':=hc w rfl
  rcases notInt_run h with h1 | ⟨xt,d,h1,h2,h3⟩
  · simp only[Builtin.append_,ht,e0,e1,Sem.run_bind,run_underlying hu,Result.andThen_ok,Sem.run_pure,es,↓reduceIte,Bool.false_eq_true,Bool.not_false,Bool.not_true,false_or,true_or,false_and,and_true,true_and,hroom,h1,hl,hc']
  · cases d with
    | int k=>exact absurd rfl (h3 k)
    | _=>simp only[Builtin.append_,ht,e0,e1,Sem.run_bind,run_underlying hu,Result.andThen_ok,Sem.run_pure,es,↓reduceIte,Bool.false_eq_true,Bool.not_false,Bool.not_true,false_or,true_or,false_and,and_true,true_and,hroom,h1,run_underlying h2,hl,hc']
 | zeros xt k h hk hx hm hb hc =>
  subst hx
  have hw:IntKind.i64.wrap (m:Int)=m:=by simp[IntKind.wrap_i64];omega
  have h0:¬((m:Int)<0):=by omega
  have hb':¬((m:Int)*(i.bytes:Int) > 2 ^ 48):=by
   have:((m*i.bytes:Nat):Int)≤281474976710656:=by omega
   rw[Int.natCast_mul] at this;omega
  have hc':=hc w
  have hc2:∀K:Array Value→World→Result Value,((if m*i.size=0 then Result.ok #[] w else ((zeroValue elem).run P w).andThen fun a w'=>Result.ok (Builtin.zeroCells a.cells m) w').andThen K)=K nv.toArray w:=by
   intro K
   rw[Sem.run_ite] at hc'
   simp only[Sem.run_bind,Sem.run_pure] at hc'
   rw[hc',Result.andThen_ok]
  simp only[Builtin.append_,ht,e0,e1,Sem.run_bind,run_underlying hu,Result.andThen_ok,Sem.run_pure,es,↓reduceIte,Bool.false_eq_true,Bool.not_false,Bool.not_true,false_or,true_or,false_and,and_true,true_and,hroom,h,run_underlying hk,asInt,asIntOf,hw,h0,run_typeInfo' hi,hb',Int.toNat_natCast,Sem.run_ite,hc2]
theorem append_none {P:Program} {w:World} {ts:Array TypeId} {t ty elem:TypeId} {i:TypeInfo} {x:Value} {nv:List Value} {m n cap:Nat} (hm0:m=0) (hn0:n=0) (hcap:cap=0) (ht:ts[0]? = some t)
 (hu:P.underlying t=some (.slice elem)) (hi:P.info? elem=some i) (hN:News P w ts elem i.size i.bytes x nv m) :
 (Builtin.append_ ts ty #[.slice none n cap,x]).run P w=.ok (.slice none (n+m) cap) w:=by
 have hroom:n+m≤cap:=by omega
 clear hm0 hn0 hcap
 have e0:(#[Value.slice none n cap,x]:Array Value)[0]? = some (.slice none n cap):=rfl
 have e1:(#[Value.slice none n cap,x]:Array Value)[1]? = some x:=rfl
 have es:∀w,(sizeOf elem).run P w=.ok i.size w:=fun w=>by simp[sizeOf,run_typeInfo' hi]
 cases hN with
 | plain h hl hc =>
  have hc':=hc w rfl
  rcases notInt_run h with h1 | ⟨xt,d,h1,h2,h3⟩
  · simp only[Builtin.append_,ht,e0,e1,Sem.run_bind,run_underlying hu,Result.andThen_ok,Sem.run_pure,es,↓reduceIte,Bool.false_eq_true,Bool.not_false,Bool.not_true,false_or,true_or,false_and,and_true,true_and,hroom,h1,hl,hc']
  · cases d with
    | int k=>exact absurd rfl (h3 k)
    | _=>simp only[Builtin.append_,ht,e0,e1,Sem.run_bind,run_underlying hu,Result.andThen_ok,Sem.run_pure,es,↓reduceIte,Bool.false_eq_true,Bool.not_false,Bool.not_true,false_or,true_or,false_and,and_true,true_and,hroom,h1,run_underlying h2,hl,hc']
 | zeros xt k h hk hx hm hb hc =>
  subst hx
  have hw:IntKind.i64.wrap (m:Int)=m:=by simp[IntKind.wrap_i64];omega
  have h0:¬((m:Int)<0):=by omega
  have hb':¬((m:Int)*(i.bytes:Int) > 2 ^ 48):=by
   have:((m*i.bytes:Nat):Int)≤281474976710656:=by omega
   rw[Int.natCast_mul] at this;omega
  have hc':=hc w
  have hc2:∀K:Array Value→World→Result Value,((if m*i.size=0 then Result.ok #[] w else ((zeroValue elem).run P w).andThen fun a w'=>Result.ok (Builtin.zeroCells a.cells m) w').andThen K)=K nv.toArray w:=by
   intro K
   rw[Sem.run_ite] at hc'
   simp only[Sem.run_bind,Sem.run_pure] at hc'
   rw[hc',Result.andThen_ok]
  simp only[Builtin.append_,ht,e0,e1,Sem.run_bind,run_underlying hu,Result.andThen_ok,Sem.run_pure,es,↓reduceIte,Bool.false_eq_true,Bool.not_false,Bool.not_true,false_or,true_or,false_and,and_true,true_and,hroom,h,run_underlying hk,asInt,asIntOf,hw,h0,run_typeInfo' hi,hb',Int.toNat_natCast,Sem.run_ite,hc2]
theorem append_grow {P:Program} {w:World} {ts:Array TypeId} {t ty elem:TypeId} {i:TypeInfo} {x z:Value} {nv old:List Value} {m n cap:Nat} {base:Option Addr} (ht:ts[0]? = some t)
 (hu:P.underlying t=some (.slice elem)) (hi:P.info? elem=some i) (hN:News P w ts elem i.size i.bytes x nv m) (hroom:¬n+m≤cap)
 (hold:∀w1,w1.heap=w.heap→(Builtin.firstCells i.size n (.slice base n cap)).run P w1=.ok old.toArray w1) (hz:∀w1,(zeroValue elem).run P w1=.ok z w1)
 (hby:i.bytes≠0) (hfit:(n+m)*i.bytes≤140737488355328) :
 ∃newCap w',n+m≤newCap∧(Builtin.append_ ts ty #[.slice base n cap,x]).run P w=.ok (.slice (some (adr w.heap.size 0)) (n+m) newCap) w' ∧
  w'.heap=w.heap.push (.cells (old.toArray++nv.toArray++Builtin.zeroCells z.cells (newCap-(n+m))) elem)∧Quiet w w':=by
 have hfit':=growslice_fits (need:=n+m) (old:=cap) (bytes:=i.bytes) (by omega) hfit
 have h48:¬(Builtin.nextslicecap (n+m) cap*i.bytes > 2 ^ 48):=by omega
 have hmax:IntKind.i64.max=9223372036854775807:=rfl
 have h63':¬(((n+m:Nat):Int) > IntKind.i64.max):=by
  rw[hmax]
  have:(n+m)*1≤(n+m)*i.bytes:=Nat.mul_le_mul_left _ (by omega)
  omega
 have hq:(Question.appendCap (n+m) cap elem).forced=false:=rfl
 have hold':=hold { w with drawn:=w.drawn+1 } rfl
 refine⟨(Question.appendCap (n+m) cap elem).cut (w.tape w.drawn (.appendCap (n+m) cap elem)),
  { w with drawn:=w.drawn+1,heap:=w.heap.push (.cells (old.toArray++nv.toArray++Builtin.zeroCells z.cells ((Question.appendCap (n+m) cap elem).cut (w.tape w.drawn (.appendCap (n+m) cap elem))-(n+m))) elem) },
  by simp only[Question.cut];omega,?_,rfl,⟨rfl,rfl⟩⟩
 have e0:(#[Value.slice base n cap,x]:Array Value)[0]? = some (.slice base n cap):=rfl
 have e1:(#[Value.slice base n cap,x]:Array Value)[1]? = some x:=rfl
 have es:∀w,(sizeOf elem).run P w=.ok i.size w:=fun w=>by simp[sizeOf,run_typeInfo' hi]
 cases hN with
 | plain h hl hc =>
  have hc':=hc { w with drawn:=w.drawn+1 } rfl
  rcases notInt_run h with h1 | ⟨xt,d,h1,h2,h3⟩
  · simp only[Builtin.append_,ht,e0,e1,Sem.run_bind,run_underlying hu,Result.andThen_ok,Sem.run_pure,es,↓reduceIte,Bool.false_eq_true,Bool.not_false,Bool.not_true,false_or,true_or,false_and,and_true,true_and,hroom,h63',h48,run_choose,hq,run_askRoom,hold',newRow,run_newObj,run_typeInfo' hi,hz,h1,hl,hc']
  · cases d with
    | int k=>exact absurd rfl (h3 k)
    | _=>simp only[Builtin.append_,ht,e0,e1,Sem.run_bind,run_underlying hu,Result.andThen_ok,Sem.run_pure,es,↓reduceIte,Bool.false_eq_true,Bool.not_false,Bool.not_true,false_or,true_or,false_and,and_true,true_and,hroom,h63',h48,run_choose,hq,run_askRoom,hold',newRow,run_newObj,run_typeInfo' hi,hz,h1,run_underlying h2,hl,hc']
 | zeros xt k h hk hx hm hb hc =>
  subst hx
  have hw:IntKind.i64.wrap (m:Int)=m:=by simp[IntKind.wrap_i64];omega
  have h0:¬((m:Int)<0):=by omega
  have hb':¬((m:Int)*(i.bytes:Int) > 2 ^ 48):=by
   have:((m*i.bytes:Nat):Int)≤281474976710656:=by omega
   rw[Int.natCast_mul] at this;omega
  have hc':=hc { w with drawn:=w.drawn+1 }
  have hc2:∀K:Array Value→World→Result Value,((if m*i.size=0 then Result.ok #[] { w with drawn:=w.drawn+1 } else ((zeroValue elem).run P { w with drawn:=w.drawn+1 }).andThen fun a w'=>Result.ok (Builtin.zeroCells a.cells m) w').andThen K)=K nv.toArray { w with drawn:=w.drawn+1 }:=by
   intro K
   rw[Sem.run_ite] at hc'
   simp only[Sem.run_bind,Sem.run_pure] at hc'
   rw[hc',Result.andThen_ok]
  simp only[hz,Result.andThen_ok] at hc2
  simp only[Builtin.append_,ht,e0,e1,Sem.run_bind,run_underlying hu,Result.andThen_ok,Sem.run_pure,es,↓reduceIte,Bool.false_eq_true,Bool.not_false,Bool.not_true,false_or,true_or,false_and,and_true,true_and,hroom,h63',h48,run_choose,hq,run_askRoom,hold',newRow,run_newObj,run_typeInfo' hi,hz,h,run_underlying hk,asInt,asIntOf,hw,h0,run_typeInfo' hi,hb',Int.toNat_natCast,Sem.run_ite,hc2]
end Go.Abs

namespace Go.Abs
open Go
theorem zeroCells_size (z:Array Value) (m:Nat):(Builtin.zeroCells z m).size=m*z.size:=by simp[Builtin.zeroCells]
theorem zeroCells_get (z:Array Value) (m k:Nat) (h:k<m*z.size):(Builtin.zeroCells z m).getD k undef=z.getD (k % z.size) undef:=by
 have h0:0<z.size:=by
  rcases Nat.eq_zero_or_pos z.size with h1 | h1
  · rw[h1] at h;omega
  · exact h1
 have h2:k % z.size<z.size:=Nat.mod_lt _ h0
 simp[Builtin.zeroCells,Array.getD_eq_getD_getElem?,h,h2]
structure Cellsq (E:Env) (st:St) (w:World) (sz:Nat) (ys:List V) (vs:Nat→Value):Prop where
 len:∀j,j<ys.length→(ys.getD j .dead).cells.length=sz
 one:∀j k,j<ys.length→k<sz→(vs (j*sz+k)).oneCell'=true
 val:∀j k,j<ys.length→k<sz→VR E st w (vs (j*sz+k)) ((ys.getD j .dead).cells.getD k .dead)
theorem Cellsq.append {E:Env} {st:St} {w:World} {sz:Nat} {xs ys:List V} {vs us:Nat→Value} (hx:Cellsq E st w sz xs vs) (hy:Cellsq E st w sz ys us) :
 Cellsq E st w sz (xs++ys) (fun j=>if j<xs.length*sz then vs j else us (j-xs.length*sz)):=by
 have hg1:∀j,j<xs.length→(xs++ys).getD j .dead=xs.getD j .dead:=fun j hj=>by simp[List.getD_eq_getElem?_getD,List.getElem?_append_left hj]
 have hg2:∀j,¬j<xs.length→(xs++ys).getD j .dead=ys.getD (j-xs.length) .dead:=fun j hj=>by simp[List.getD_eq_getElem?_getD,List.getElem?_append_right (by omega:xs.length≤j)]
 refine⟨fun j hj=>?_,fun j k hj hk=>?_,fun j k hj hk=>?_⟩
 · simp at hj
   by_cases h:j<xs.length
   · rw[hg1 j h];exact hx.len j h
   · rw[hg2 j h];exact hy.len _ (by omega)
 · simp at hj
   by_cases h:j<xs.length
   · have:j*sz+k<xs.length*sz:=by
      have:(j+1)*sz≤xs.length*sz:=Nat.mul_le_mul_right _ h
      rw[Nat.add_mul] at this;omega
     simp only[this,if_true]
     exact hx.one j k h hk
   · have h1:xs.length*sz≤j*sz:=Nat.mul_le_mul_right _ (by omega)
     have:¬(j*sz+k<xs.length*sz):=by omega
     simp only[this,if_false]
     have h2:j*sz+k-xs.length*sz=(j-xs.length)*sz+k:=by
      have:j*sz=(j-xs.length)*sz+xs.length*sz:=by rw[←Nat.add_mul];congr 1;omega
      omega
     rw[h2]
     exact hy.one _ k (by omega) hk
 · simp at hj
   by_cases h:j<xs.length
   · rw[hg1 j h]
     have:j*sz+k<xs.length*sz:=by
      have:(j+1)*sz≤xs.length*sz:=Nat.mul_le_mul_right _ h
      rw[Nat.add_mul] at this;omega
     simp only[this,if_true]
     exact hx.val j k h hk
   · rw[hg2 j h]
     have h1:xs.length*sz≤j*sz:=Nat.mul_le_mul_right _ (by omega)
     have:¬(j*sz+k<xs.length*sz):=by omega
     simp only[this,if_false]
     have h2:j*sz+k-xs.length*sz=(j-xs.length)*sz+k:=by
      have:j*sz=(j-xs.length)*sz+xs.length*sz:=by rw[←Nat.add_mul];congr 1;omega
      omega
     rw[h2]
     exact hy.val _ k (by omega) hk
theorem Cellsq.nil (E:Env) (st:St) (w:World) (sz:Nat) (vs:Nat→Value):Cellsq E st w sz [] vs :=
 ⟨fun j hj=>by simp at hj,fun j k hj=>by simp at hj,fun j k hj=>by simp at hj⟩
theorem Cellsq.step0 {E E':Env} {st st':St} {w w':World} {sz:Nat} {ys:List V} {vs:Nat→Value} (h:Cellsq E st w sz ys vs) (S:Step [] E st w E' st' w'):Cellsq E' st' w' sz ys vs :=
 ⟨h.len,h.one,fun j k hj hk=>(h.val j k hj hk).step0 S⟩
theorem Cellsq.stepF {F:Nat} {E E':Env} {st st':St} {w w':World} {sz:Nat} {ys:List V} {vs:Nat→Value} (h:Cellsq E st w sz ys vs) (S:Step [F] E st w E' st' w') (hf:V.frees F ys=true):Cellsq E' st' w' sz ys vs :=
 ⟨h.len,h.one,fun j k hj hk=>by
  have:=(h.val j k hj hk).step S
  rw[frees_all,List.all_eq_true] at hf
  have hm:(ys.getD j .dead).free F=true:=by
   simp only[List.getD_eq_getElem?_getD,List.getElem?_eq_getElem hj]
   exact hf _ (List.getElem_mem hj)
  rwa [kill_free F _ (free_cells hm k)] at this⟩
theorem news_VR {E:Env} {st:St} {w:World} {P:Program} {ts:Array TypeId} {t elem:TypeId} {i:TypeInfo} {yv:Value} {y:V} {szy:Nat} {ys:List V} (hy:VR E st w yv y)
 (hn:newsB P ts y=some (szy,ys)) (ht:ts[0]? = some t) (hu:P.underlying t=some (.slice elem)) (hi:P.info? elem=some i) (hsz:szy=i.size∨ys=[]) :
 ∃nv:List Value,News P w ts elem i.size i.bytes yv nv ys.length∧nv.length=ys.length*i.size∧Cellsq E st w i.size ys (fun j=>nv.getD j undef):=by
 cases hy with
 | str s =>
  simp only[newsB] at hn
  split at hn
  · rename_i hnot
    simp only[Option.some.injEq,Prod.mk.injEq] at hn
    obtain⟨rfl,rfl⟩:=hn
    have hext:s.extract 0 s.data.toList.length=s:=by
     have:s.data.toList.length=s.size:=Array.length_toList
     rw[this];exact ByteArray.extract_zero_size
    refine⟨s.data.toList.map fun b=>.int .u8 b.toNat,.plain hnot (fun w1=>by
     have:s.data.toList.length=s.size:=Array.length_toList
     simp only[Builtin.lenOf,Sem.run_pure,List.length_map,this]) (fun w1 hw1=>?_),?_,?_,?_,?_⟩
    · simp only[Builtin.firstCells,Sem.run_pure,List.length_map,hext]
      congr 1
      apply Array.ext'
      simp
    · rcases hsz with h | h
      · rw[←h];simp
      · have:s.data.toList=[]:=by simpa using h
        simp[this]
    · intro j hj
      have hj':j<s.data.toList.length:=by simpa using hj
      rcases hsz with h | h
      · have:((s.data.toList.map fun b=>V.int .u8 b.toNat).getD j .dead)=.int .u8 (s.data.toList[j]).toNat:=by
         have hjs:j<s.data.size:=by simpa using hj'
         simp[List.getD_eq_getElem?_getD,Array.getElem?_eq_getElem hjs]
        rw[this,←h];rfl
      · rw[h] at hj;simp at hj
    · intro j k hj hk
      have hj':j<s.data.toList.length:=by simpa using hj
      rcases hsz with h | h
      · rw[←h] at hk ⊢
        have hk0:k=0:=by omega
        subst hk0
        have e2:((s.data.toList.map fun b=>Value.int .u8 b.toNat).getD (j*1+0) undef)=.int .u8 (s.data.toList[j]).toNat:=by
         have hjs:j<s.data.size:=by simpa using hj'
         simp[List.getD_eq_getElem?_getD,Array.getElem?_eq_getElem hjs]
        rw[e2];rfl
      · rw[h] at hj;simp at hj
    · intro j k hj hk
      have hj':j<s.data.toList.length:=by simpa using hj
      rcases hsz with h | h
      · rw[←h] at hk ⊢
        have hk0:k=0:=by omega
        subst hk0
        have e1:((s.data.toList.map fun b=>V.int .u8 b.toNat).getD j .dead)=.int .u8 (s.data.toList[j]).toNat:=by
         have hjs:j<s.data.size:=by simpa using hj'
         simp[List.getD_eq_getElem?_getD,Array.getElem?_eq_getElem hjs]
        have e2:((s.data.toList.map fun b=>Value.int .u8 b.toNat).getD (j*1+0) undef)=.int .u8 (s.data.toList[j]).toNat:=by
         have hjs:j<s.data.size:=by simpa using hj'
         simp[List.getD_eq_getElem?_getD,Array.getElem?_eq_getElem hjs]
        rw[e1,e2]
        exact .int _ _
      · rw[h] at hj;simp at hj
  · simp at hn
 | nil off sz =>
  simp only[newsB] at hn
  split at hn
  · rename_i hnot
    simp only[Option.some.injEq,Prod.mk.injEq] at hn
    obtain⟨rfl,rfl⟩:=hn
    exact⟨[],.plain hnot (fun w1=>by simp[Builtin.lenOf]) (fun w1 _=>by simp[Builtin.firstCells]),by simp,.nil _ _ _ _ _⟩
  · simp at hn
 | list t' off sz xs a cap vs ht' hcap hsp hz hel hcell hrd htok hone hv =>
  simp only[newsB] at hn
  split at hn
  · rename_i hnot
    simp only[Option.some.injEq,Prod.mk.injEq] at hn
    obtain⟨rfl,rfl⟩:=hn
    refine⟨(List.range (xs.length*i.size)).map vs,.plain hnot (fun w1=>by simp[Builtin.lenOf]) (fun w1 hw1=>?_),by simp,?_,?_,?_⟩
    · simp only[Builtin.firstCells]
      refine run_loadCells w1 a _ vs (fun j hj=>?_)
      rcases hsz with h | h
      · rw[←h] at hj
        have hpos:0<xs.length:=by
         rcases Nat.eq_zero_or_pos xs.length with h0 | h0
         · rw[h0] at hj;omega
         · exact h0
        have ha:a=adr a.block a.off:=by
         have:=hsp hpos
         cases a;simp at this;simp[this]
        rw[ha,adr_add]
        have:=hcell j hj
        rw[←this]
        exact cell_of_heap (by rw[hw1]) _
      · rw[h] at hj;simp at hj
    · rcases hsz with h | h
      · rw[←h];exact hel
      · intro j hj;rw[h] at hj;simp at hj
    · intro j k hj hk
      rcases hsz with h | h
      · rw[←h] at hk ⊢
        have hlt:j*sz+k<xs.length*sz:=by
         have:(j+1)*sz≤xs.length*sz:=Nat.mul_le_mul_right _ hj
         rw[Nat.add_mul] at this;omega
        have e:((List.range (xs.length*sz)).map vs).getD (j*sz+k) undef=vs (j*sz+k):=by
         simp[List.getD_eq_getElem?_getD,hlt]
        rw[e];exact hone _ hlt
      · rw[h] at hj;simp at hj
    · intro j k hj hk
      rcases hsz with h | h
      · rw[←h] at hk ⊢
        have hlt:j*sz+k<xs.length*sz:=by
         have:(j+1)*sz≤xs.length*sz:=Nat.mul_le_mul_right _ hj
         rw[Nat.add_mul] at this;omega
        have e:((List.range (xs.length*sz)).map vs).getD (j*sz+k) undef=vs (j*sz+k):=by
         simp[List.getD_eq_getElem?_getD,hlt]
        rw[e];exact hv j k hj hk
      · rw[h] at hj;simp at hj
  · simp at hn
 | int k n =>
  cases k<;>simp only[newsB] at hn<;>try (simp at hn;done)
  rw[ht] at hn
  simp only[Option.bind_some,hu] at hn
  cases hxt:ts[1]? with
  | none=>simp[hxt] at hn
  | some xt =>
   rw[hxt] at hn
   simp only[Option.bind_some] at hn
   cases hux:P.underlying xt with
   | none=>simp[hux] at hn
   | some d =>
    cases d with
    | int kk =>
     simp only[hux] at hn
     cases hzb:zeroB P elem with
     | none=>simp[hzb] at hn
     | some zV =>
      have hbb:bytesB P elem=some i.bytes:=by simp[bytesB,hi]
      simp only[hzb,hbb] at hn
      split at hn
      · rename_i hcond
        obtain⟨h0,h1,h2⟩:=hcond
        obtain⟨m,rfl⟩:=Int.eq_ofNat_of_zero_le h0
        cases hzf:zV.flat with
        | none=>simp[hzf] at hn
        | some zc =>
         simp only[hzf,Option.map_some,Option.some.injEq,Prod.mk.injEq,Int.toNat_natCast] at hn
         obtain⟨rfl,rfl⟩:=hn
         obtain⟨z,hz1,hz2⟩:=zeroB_some hzb
         have hzVR:VR E st w z zV:=by rw[hz1];exact ofVal_VR E st w 3 z
         obtain⟨hs1,hs0,hs2⟩:=hzVR.flat' hzf
         have hm1:m≤9223372036854775807:=by omega
         have hm2:m*i.bytes≤281474976710656:=by
          have:((m*i.bytes:Nat):Int)≤281474976710656:=by rw[Int.natCast_mul];omega
          omega
         have hlen:(List.replicate m zV).length=m:=by simp
         by_cases hms:m=0
         · subst hms
           refine⟨[],?_,by simp,.nil _ _ _ _ _⟩
           exact .zeros xt kk hxt hux (by simp) (by simp) (by simp) (fun w1=>by simp)
         · have hszz:zc.length=i.size:=by
            rcases hsz with h | h
            · exact h
            · simp at h;exact absurd h hms
           have hzs:z.cells.size=i.size:=by omega
           by_cases hi0:m*i.size=0
           · have hi1:i.size=0:=by
              rcases Nat.mul_eq_zero.1 hi0 with h | h
              · exact absurd h hms
              · exact h
             refine⟨[],.zeros xt kk hxt hux (by rw[hlen]) (by rw[hlen];exact hm1) (by rw[hlen];exact hm2) (fun w1=>by rw[hlen,if_pos hi0];rfl),by rw[hi1];simp,?_,fun j k hj hk=>by omega,?_⟩
             · intro j hj
               have:(List.replicate m zV).getD j .dead=zV:=by simp at hj;simp[List.getD_eq_getElem?_getD,hj]
               rw[this,flat_cells hzf];exact hszz
             · intro j k hj hk;omega
           · refine⟨(Builtin.zeroCells z.cells m).toList,.zeros xt kk hxt hux (by rw[hlen]) (by rw[hlen];exact hm1) (by rw[hlen];exact hm2) (fun w1=>by rw[hlen,if_neg hi0];simp[hz2]),by simp[zeroCells_size,hzs],?_,?_,?_⟩
             · intro j hj
               have:(List.replicate m zV).getD j .dead=zV:=by simp at hj;simp[List.getD_eq_getElem?_getD,hj]
               rw[this,flat_cells hzf];exact hszz
             · intro j k hj hk
               have hjm:j<m:=by simpa using hj
               have hlt:j*i.size+k<m*z.cells.size:=by
                rw[hzs]
                have:(j+1)*i.size≤m*i.size:=Nat.mul_le_mul_right _ hjm
                rw[Nat.add_mul] at this;omega
               have e:(Builtin.zeroCells z.cells m).toList.getD (j*i.size+k) undef=z.cells.getD k undef:=by
                have e1:(Builtin.zeroCells z.cells m).toList.getD (j*i.size+k) undef=(Builtin.zeroCells z.cells m).getD (j*i.size+k) undef:=by
                 simp[List.getD_eq_getElem?_getD,Array.getD_eq_getD_getElem?]
                rw[e1,zeroCells_get _ _ _ hlt,hzs,(div_mul_add hk).2]
               rw[e]
               exact hs0 k (by omega)
             · intro j k hj hk
               have hjm:j<m:=by simpa using hj
               have:(List.replicate m zV).getD j .dead=zV:=by simp[List.getD_eq_getElem?_getD,hjm]
               rw[this,flat_cells hzf]
               have hlt:j*i.size+k<m*z.cells.size:=by
                rw[hzs]
                have:(j+1)*i.size≤m*i.size:=Nat.mul_le_mul_right _ hjm
                rw[Nat.add_mul] at this;omega
               have e:(Builtin.zeroCells z.cells m).toList.getD (j*i.size+k) undef=z.cells.getD k undef:=by
                have e1:(Builtin.zeroCells z.cells m).toList.getD (j*i.size+k) undef=(Builtin.zeroCells z.cells m).getD (j*i.size+k) undef:=by
                 simp[List.getD_eq_getElem?_getD,Array.getD_eq_getD_getElem?]
                rw[e1,zeroCells_get _ _ _ hlt,hzs,(div_mul_add hk).2]
               rw[e]
               exact hs2 k (by omega)
      · simp at hn
    | _=>simp[hux] at hn
 | _=>simp[newsB] at hn
end Go.Abs

namespace Go.Abs
open Go
structure AppR (P:Program) (ts:Array TypeId) (ty:TypeId) (E:Env) (st:St) (w:World) (tmps:Array Value) (xv yv:Value) (d:V) (s':List V) (st':St):Prop where
 ex:∃cv w' E',(Builtin.append_ ts ty #[xv,yv]).run P w=.ok cv w'∧WR E' st' w'∧VR E' st' w' cv d∧SR E' st' w' tmps s'∧Seg E st w E' st' w'
theorem list_toArray_getD (l:List Value) (k:Nat):l.toArray.getD k undef=l.getD k undef:=by simp[Array.getD_eq_getD_getElem?,List.getD_eq_getElem?_getD]
theorem arr_append_getD (a b:Array Value) (k:Nat):(a++b).getD k undef=if k<a.size then a.getD k undef else b.getD (k-a.size) undef:=by
 simp only[Array.getD_eq_getD_getElem?,Array.getElem?_append]
 split<;>rfl
theorem getD_of_getElem? {c:Array Value} {k:Nat} (h:k<c.size):c[k]? = some (c.getD k undef):=by simp[Array.getD_eq_getD_getElem?,h]
theorem Cellsq.of_list {E:Env} {st:St} {w:World} {sz:Nat} {xs:List V} {vs:Nat→Value} (hel:∀j,j<xs.length→(xs.getD j .dead).cells.length=sz)
 (hone:∀j,j<xs.length*sz→(vs j).oneCell'=true)
 (hv:∀j k,j<xs.length→k<sz→VR E st w (vs (j*sz+k)) ((xs.getD j .dead).cells.getD k .dead)):Cellsq E st w sz xs vs :=
 ⟨hel,fun j k hj hk=>hone _ (by
  have:(j+1)*sz≤xs.length*sz:=Nat.mul_le_mul_right _ hj
  rw[Nat.add_mul] at this;omega),hv⟩
theorem Cellsq.all1 {E:Env} {st:St} {w:World} {sz:Nat} {xs:List V} {vs:Nat→Value} (h:Cellsq E st w sz xs vs):∀j,j<xs.length*sz→(vs j).oneCell'=true:=by
 intro j hj
 have h0:0<sz:=by
  rcases Nat.eq_zero_or_pos sz with h1 | h1
  · rw[h1] at hj;omega
  · exact h1
 have e:j=(j / sz)*sz+j % sz:=by rw[Nat.mul_comm];exact (Nat.div_add_mod j sz).symm
 rw[e]
 exact h.one _ _ (lt_of_div h0 hj) (Nat.mod_lt _ h0)
theorem first_list {P:Program} {w:World} {a:Addr} {n cap sz:Nat} {vs:Nat→Value} (hsp:0<n→a.spot=none) (hcell:∀j,j<n*sz→w.cell? (adr a.block (a.off+j))=some (vs j)) :
 ∀w1,w1.heap=w.heap→(Builtin.firstCells sz n (.slice (some a) n cap)).run P w1=.ok ((List.range (n*sz)).map vs).toArray w1:=by
 intro w1 hw1
 simp only[Builtin.firstCells]
 refine run_loadCells w1 a _ vs (fun j hj=>?_)
 have hpos:0<n:=by
  rcases Nat.eq_zero_or_pos n with h0 | h0
  · rw[h0] at hj;omega
  · exact h0
 have ha:a=adr a.block a.off:=by
  have:=hsp hpos
  cases a;simp at this;simp[this]
 rw[ha,adr_add,←hcell j hj]
 exact cell_of_heap (by rw[hw1]) _
theorem grown_row {n m sz newCap:Nat} {old nv:List Value} {z:Array Value} (ho:old.length=n*sz) (hn:nv.length=m*sz) (hz:z.size=sz) (hc:n+m≤newCap) :
 (old.toArray++nv.toArray++Builtin.zeroCells z (newCap-(n+m))).size=newCap*sz ∧
 ∀j,j<(n+m)*sz→(old.toArray++nv.toArray++Builtin.zeroCells z (newCap-(n+m))).getD j undef=if j<n*sz then old.getD j undef else nv.getD (j-n*sz) undef:=by
 refine⟨?_,fun j hj=>?_⟩
 · simp only[Array.size_append,List.size_toArray,zeroCells_size,ho,hn,hz,←Nat.add_mul]
   congr 1;omega
 · rw[Nat.add_mul] at hj
   rw[arr_append_getD,if_pos (by simp[ho,hn];omega),arr_append_getD]
   simp only[List.size_toArray,ho,list_toArray_getD]
theorem own_append {E:Env} {st:St} {w:World} {P:Program} {ts:Array TypeId} {t ty elem:TypeId} {i:TypeInfo} {a:Addr} {cap:Nat} {yv:Value} {F ep off sz:Nat} {xs ys s:List V}
 {vs:Nat→Value} {nv:List Value} {z:Value} {tmps:Array Value} {f:Fam} {ks:List Nat}
 (hw:WR E st w) (hs:SR E st w tmps s) (ht:ts[0]? = some t) (hu:P.underlying t=some (.slice elem)) (hi:P.info? elem=some i) (hisz:i.size=sz) (hsz0:0<sz)
 (hN:News P w ts elem i.size i.bytes yv nv ys.length) (hnl:nv.length=ys.length*sz) (hcq:Cellsq E st w sz ys (fun j=>nv.getD j undef)) (hby:i.bytes≠0)
 (hfit:(xs.length+ys.length)*i.bytes≤140737488355328) (hz2:∀w1,(zeroValue elem).run P w1=.ok z w1) (hzs:z.cells.size=sz)
 (hcap:xs.length≤cap) (hsp:0<xs.length→a.spot=none) (hxq:Cellsq E st w sz xs vs) (hcell:∀j,j<xs.length*sz→w.cell? (adr a.block (a.off+j))=some (vs j))
 (htok:TokOK E st w (.own F ep) off sz a xs.length cap) (hF:st.fams[F]? = some f) (hep:f.ep=ep) (hty:f.ty=elem) (hge:st.flo≤F)
 (hks:(ks=[]∧off+xs.length=f.tip)∨(ks=[F]∧f.wr=true∧V.frees F xs=true∧V.frees F ys=true)) :
 AppR P ts ty E st w tmps (.slice (some a) xs.length cap) yv (.list (.own F (ep+1)) off sz (xs++ys)) (V.kills ks s)
  { st with heap:=killHeap ks st.heap,fams:=st.fams.set F ⟨ep+1,off+xs.length+ys.length,sz,elem,f.wr⟩,kills:=ks++st.kills }:=by
 have hFl:F<st.fams.length:=(List.getElem?_eq_some_iff.1 hF).1
 obtain⟨f',hF',_,htk⟩:=htok
 rw[hF] at hF'
 injection hF' with hF'
 subst hF'
 obtain⟨a1,a2,a3,a4,a5⟩:=htk hep.symm
 obtain⟨c,cty,cz,r1,r2,r34⟩:=hw.fam F f hF
 obtain⟨r5,r6,r4⟩:=r34 (by rw[a2];exact hsz0)
 have hrs:rowSize w a.block=c.size:=by rw[a1];simp[rowSize,r1]
 rw[hrs] at a5
 have hq:=hxq.append hcq
 have hlen:(xs++ys).length=xs.length+ys.length:=by simp
 have hsetF:(st.fams.set F (⟨ep+1,off+xs.length+ys.length,sz,elem,f.wr⟩:Fam))[F]? = some ⟨ep+1,off+xs.length+ys.length,sz,elem,f.wr⟩:=List.getElem?_set_self hFl
 have hkl:∀G,G∈ks→G=F:=by
  intro G hG
  rcases hks with ⟨rfl,_⟩ | ⟨rfl,_⟩
  · simp at hG
  · simpa using hG
 have hstep:∀{E':Env} {st':St} {w':World},Step ks E st w E' st' w'→Cellsq E' st' w' sz (xs++ys) (fun j=>if j<xs.length*sz then vs j else nv.getD (j-xs.length*sz) undef):=by
  intro E' st' w' S
  rcases hks with ⟨rfl,_⟩ | ⟨rfl,_,h1,h2⟩
  · exact hq.step0 S
  · refine hq.stepF S ?_
    rw[frees_all,List.all_append,←frees_all,←frees_all,h1,h2];rfl
 by_cases hroom:xs.length+ys.length≤cap
 ·
  have hmul:(off+xs.length+ys.length)*sz≤c.size+E.sh F:=by
   have:(off+xs.length+ys.length)*sz≤(off+cap)*sz:=Nat.mul_le_mul_right _ (by omega)
   omega
  obtain⟨w',hz0,hst,hrow,hO,hcells⟩:∃w',(cap=0→w'=w)∧(storeCells (a.add (xs.length*i.size)) nv).run P w=.ok () w'∧(∃c',w'.heap[E.fam F]? = some (.cells c' cty cz)∧c'.size=c.size)∧Only (E.fam F) w w' ∧
   ((∀o,o<a.off+xs.length*sz→w'.cell? (adr (E.fam F) o)=w.cell? (adr (E.fam F) o)) ∧
    ∀k,k<ys.length*sz→w'.cell? (adr (E.fam F) (a.off+xs.length*sz+k))=some (nv.getD k undef)):=by
   rcases Nat.eq_zero_or_pos cap with h0 | h0
   · have hy0:ys.length=0:=by omega
     have hnv:nv=[]:=List.eq_nil_of_length_eq_zero (by rw[hnl,hy0];simp)
     subst hnv
     exact⟨w,fun _=>rfl,by simp[storeCells],⟨c,r1,rfl⟩,⟨rfl,fun _ _=>rfl,.refl w⟩,fun _ _=>rfl,fun k hk=>by rw[hy0] at hk;omega⟩
   · obtain⟨a6,a7⟩:=a3 h0
     have ha:a=adr a.block a.off:=by cases a;simp at a7;simp[a7]
     have hb1:a.off+xs.length*sz+ys.length*sz≤c.size:=by
      rw[Nat.add_mul,Nat.add_mul] at hmul;omega
     have hone:∀v∈nv,v.oneCell'=true:=by
      intro v hv
      obtain⟨k,hk,rfl⟩:=List.getElem_of_mem hv
      have:=hcq.all1 k (by omega)
      simpa[List.getD_eq_getElem?_getD,hk] using this
     obtain⟨w',h1,h2,h3⟩:=run_lay (P:=P) (o:=a.off+xs.length*sz) (vs:=nv) r1 (by rw[hnl];exact hb1) (fun k hk1 hk2=>r4 k (by rw[hnl] at hk2;omega) (fun hf=>by
      rcases hks with ⟨_,htip⟩ | ⟨_,hwr,_⟩
      · rw[←htip,a2,Nat.add_mul];omega
      · rw[hwr] at hf;exact absurd hf (by simp))) hone
     refine⟨w',fun h=>by omega,?_,⟨_,h2,wrAt_size _ _ _⟩,h3,fun o ho=>?_,fun k hk=>?_⟩
     · rw[hisz,ha,adr_add,a1];exact h1
     · rw[heap_cell h2,heap_cell r1]
       by_cases hoc:o<c.size
       · rw[getD_of_getElem? (by rw[wrAt_size];exact hoc),getD_of_getElem? hoc,wrAt_get _ _ _ _ (by rw[hnl];exact hb1),if_neg (by omega)]
       · have e5:c[o]? = none:=Array.getElem?_eq_none (by omega)
         have e6:(wrAt c (a.off+xs.length*sz) nv)[o]? = none:=Array.getElem?_eq_none (by rw[wrAt_size];omega)
         rw[e5,e6]
     · rw[heap_cell h2,getD_of_getElem? (by rw[wrAt_size];omega),wrAt_get _ _ _ _ (by rw[hnl];exact hb1),if_pos (by rw[hnl];omega)]
       congr 2;omega
  obtain⟨c',hrow1,hrow2⟩:=hrow
  have T:FamTurn ks E st w E { st with heap:=killHeap ks st.heap,fams:=st.fams.set F ⟨ep+1,off+xs.length+ys.length,sz,elem,f.wr⟩,kills:=ks++st.kills } w' F f ⟨ep+1,off+xs.length+ys.length,sz,elem,f.wr⟩:=by
   refine⟨hF,rfl,rfl,rfl,fun _ _=>rfl,fun _ _=>rfl,by rw[hep];exact Nat.lt_succ_self _,(.inr a2.symm),hkl,rfl,rfl,rfl,rfl,rfl,rfl,hge,.inl ⟨rfl,rfl,hO,?_⟩,⟨c',cty,cz,hrow1,by rw[hrow2];exact hmul,fun _=>⟨r5.trans hty,r6,by
    rw[hrow2]
    intro o1 ho1 ho2
    refine r4 o1 ho1 (fun hf=>?_)
    rcases hks with ⟨_,htip⟩ | ⟨_,hwr,_⟩
    · refine Nat.le_trans ?_ (ho2 hf)
      rw[←htip,a2]
      exact Nat.mul_le_mul_right _ (Nat.le_add_right _ _)
    · rw[hwr] at hf;exact absurd hf (by simp)⟩⟩⟩
   rcases hks with ⟨rfl,htip⟩ | ⟨rfl,_⟩
   · right
     refine⟨by show f.tip≤off+xs.length+ys.length;omega,fun o v ho hc=>?_⟩
     rcases Nat.eq_zero_or_pos cap with h0 | h0
     · rw[hz0 h0];exact hc
     · obtain⟨a6,_⟩:=a3 h0
       rw[hcells.1 o (by rw[←htip,a2,Nat.add_mul] at ho;omega)]
       exact hc
   · left;simp
  obtain⟨g1,g2⟩:=T.wr hw
  have S:=T.step hw
  have hq':=hstep S
  refine⟨.slice (some a) (xs.length+ys.length) cap,w',E,?_,g1,?_,hs.step S,g2⟩
  · rw[append_room ht hu hi hN hroom,hst];rfl
  · rw[←hlen]
    refine .list _ off sz (xs++ys) a cap _ (by simp) (by omega) (fun hp=>?_) (fun _=>hsz0) hq'.len ?_ ?_ ?_ hq'.all1 hq'.val
    · exact (a3 (by omega)).2
    · intro j hj
      rw[hlen] at hj
      rw[a1]
      by_cases hjx:j<xs.length*sz
      · rw[if_pos hjx,hcells.1 _ (by omega),←a1]
        exact hcell j hjx
      · rw[if_neg hjx]
        have:a.off+j=a.off+xs.length*sz+(j-xs.length*sz):=by omega
        rw[this]
        exact hcells.2 _ (by rw[Nat.add_mul] at hj;omega)
    · intro hp
      rw[hlen] at hp ⊢
      obtain⟨a6,_⟩:=a3 (by omega)
      refine⟨fun j hj he=>hw.famBox F j hFl (by simpa[killHeap_map] using hj) (by rw[←a1];exact he),fun G g hG he=>?_⟩
      have hGl:G<st.fams.length:=by simpa using (List.getElem?_eq_some_iff.1 hG).1
      have hGF:G=F:=hw.famInj G F hGl hFl (he.trans a1)
      subst hGF
      simp only at hG
      rw[hsetF] at hG
      injection hG with hG
      subst hG
      refine⟨⟨_,rfl⟩,?_⟩
      simp only[Nat.add_mul]
      omega
    · rw[hlen]
      refine⟨_,hsetF,Nat.le_refl _,fun _=>⟨a1,rfl,a3,by show off+(xs.length+ys.length)≤off+xs.length+ys.length;omega,?_⟩⟩
      have:rowSize w' a.block=c.size:=by rw[a1];simp[rowSize,hrow1,hrow2]
      rw[this];exact a5
 ·
  have hold:=first_list (P:=P) (cap:=cap) hsp hcell
  rw[←hisz] at hold
  obtain⟨newCap,w',hcap',hrun,hheap,hquiet⟩:=append_grow (ty:=ty) (base:=some a) ht hu hi hN hroom hold hz2 hby hfit
  rw[hisz] at hheap
  obtain⟨g1,g2⟩:=grown_row (n:=xs.length) (m:=ys.length) (sz:=sz) (old:=(List.range (xs.length*sz)).map vs) (nv:=nv) (z:=z.cells) (by simp) hnl hzs hcap'
  have hB:Blw w w':=by
   refine⟨by rw[hheap];simp,fun b hb=>by rw[hheap];simp[Array.getElem?_push,Nat.ne_of_lt hb],hquiet⟩
  have hrow:w'.heap[w.heap.size]? = some (.cells (((List.range (xs.length*sz)).map vs).toArray++nv.toArray++Builtin.zeroCells z.cells (newCap-(xs.length+ys.length))) elem (0,0)):=by
   rw[hheap];simp
  have hfamE:(E.setFam F w.heap.size (off*sz)).fam F=w.heap.size:=by simp[Env.setFam]
  have hshE:(E.setFam F w.heap.size (off*sz)).sh F=off*sz:=by simp[Env.setFam]
  have hmul:(off+xs.length+ys.length)*sz≤newCap*sz+off*sz:=by
   have:(off+xs.length+ys.length)*sz≤(newCap+off)*sz:=Nat.mul_le_mul_right _ (by omega)
   rw[Nat.add_mul newCap] at this;exact this
  have T:FamTurn ks E st w (E.setFam F w.heap.size (off*sz)) { st with heap:=killHeap ks st.heap,fams:=st.fams.set F ⟨ep+1,off+xs.length+ys.length,sz,elem,f.wr⟩,kills:=ks++st.kills } w' F f ⟨ep+1,off+xs.length+ys.length,sz,elem,f.wr⟩:=by
   refine⟨hF,rfl,rfl,rfl,fun G hG=>by simp[Env.setFam,hG],fun G hG=>by simp[Env.setFam,hG],by rw[hep];exact Nat.lt_succ_self _,(.inr a2.symm),hkl,rfl,rfl,rfl,rfl,rfl,rfl,hge,.inr ⟨by rw[hfamE];exact Nat.le_refl _,hB⟩,?_⟩
   rw[hfamE,hshE]
   exact⟨_,_,_,hrow,by rw[g1];exact hmul,fun _=>⟨rfl,fun _=>rfl,by simp⟩⟩
  obtain⟨k1,k2⟩:=T.wr hw
  have S:=T.step hw
  have hq':=hstep S
  refine⟨_,w',_,hrun,k1,?_,hs.step S,k2⟩
  rw[←hlen]
  refine .list _ off sz (xs++ys) (adr w.heap.size 0) newCap _ (by simp) (by omega) (fun _=>rfl) (fun _=>hsz0) hq'.len ?_ ?_ ?_ hq'.all1 hq'.val
  · intro j hj
    rw[hlen] at hj
    simp only
    rw[heap_cell hrow,show 0+j=j from Nat.zero_add j,getD_of_getElem? (by rw[g1];exact Nat.lt_of_lt_of_le hj (Nat.mul_le_mul_right _ hcap')),g2 j hj]
    by_cases hjx:j<xs.length*sz
    · simp[hjx,List.getD_eq_getElem?_getD]
    · simp[hjx]
  · intro _
    refine⟨fun j hj he=>?_,fun G g hG he=>?_⟩
    · have:=hw.boxLt (by simpa[killHeap_map] using hj) he
      simp at this
    · have hGl:G<st.fams.length:=by simpa using (List.getElem?_eq_some_iff.1 hG).1
      have hGF:G=F:=by
       rcases Nat.decEq G F with hne | heq
       · have h2:(E.setFam F w.heap.size (off*sz)).fam G=E.fam G:=by simp[Env.setFam,hne]
         rw[h2] at he
         have:=hw.famLt (List.getElem?_eq_getElem hGl)
         simp at he;omega
       · exact heq
      subst hGF
      simp only at hG
      rw[hsetF] at hG
      injection hG with hG
      subst hG
      refine⟨⟨_,rfl⟩,?_⟩
      rw[hlen,hshE]
      simp only[Nat.add_mul]
      omega
  · rw[hlen]
    refine⟨_,hsetF,Nat.le_refl _,fun _=>⟨hfamE.symm,rfl,fun _=>⟨by rw[hshE];simp,rfl⟩,by show off+(xs.length+ys.length)≤off+xs.length+ys.length;omega,?_⟩⟩
    rw[hshE]
    simp only[rowSize,hrow]
    rw[g1,Nat.add_mul];omega
theorem append_VR {E:Env} {st st':St} {w:World} {P:Program} {ts:Array TypeId} {t ty:TypeId} {xv yv:Value} {x y d:V} {szy:Nat} {ys s s':List V} {tmps:Array Value}
 (hw:WR E st w) (hs:SR E st w tmps s) (hfl:st.flo≤st.fams.length) (hx:VR E st w xv x) (hy:VR E st w yv y) (ht:ts[0]? = some t) (hn:newsB P ts y=some (szy,ys))
 (h:appendB P t x szy ys s st=some (d,s',st')):AppR P ts ty E st w tmps xv yv d s' st':=by
 unfold appendB at h
 cases hu:P.underlying t with
 | none=>simp[hu] at h
 | some du =>
  cases du with
  | slice elem =>
   simp only[hu] at h
   cases hi:P.info? elem with
   | none=>simp[sizeB,hi] at h
   | some i =>
    have e1:sizeB P elem=some i.size:=by simp[sizeB,hi]
    have e2:bytesB P elem=some i.bytes:=by simp[bytesB,hi]
    rw[e1,e2] at h
    cases hsz:i.size with
    | zero=>simp[hsz] at h
    | succ n0 =>
     cases hbz:i.bytes with
     | zero=>simp[hsz,hbz] at h
     | succ b0 =>
      rw[hsz,hbz] at h
      cases hx with
      | nil off sz =>
       simp only at h
       split at h
       · rename_i hc
         obtain⟨hc1,hc2,hc3⟩:=hc
         obtain⟨nv,hN,hnl,hcq⟩:=news_VR hy hn ht hu hi (by rw[hsz];exact hc2)
         split at h
         · rename_i hys
           subst hys
           simp only[Option.some.injEq,Prod.mk.injEq] at h
           obtain⟨rfl,rfl,rfl⟩:=h
           exact⟨_,w,E,append_none rfl rfl rfl ht hu hi hN,hw,.nil _ _,hs,.refl _ _ _⟩
         · rename_i hys
           simp only[Option.some.injEq,Prod.mk.injEq] at h
           obtain⟨rfl,rfl,rfl⟩:=h
           have hpos:0<ys.length:=List.length_pos_iff.2 hys
           cases hzb:zeroB P elem with
           | none=>simp[hzb] at hc3
           | some zV =>
            obtain⟨z,hz1,hz2⟩:=zeroB_some hzb
            obtain⟨zc,hzf,hzl⟩:∃zc,zV.flat=some zc∧zc.length=n0+1:=by
             rw[hzb] at hc3
             simp only[Option.bind_some] at hc3
             cases hq:zV.flat with
             | none=>simp[hq] at hc3
             | some zc=>exact⟨zc,rfl,by simpa[hq] using hc3⟩
            have hzs:z.cells.size=n0+1:=by
             have:VR E st w z zV:=by rw[hz1];exact ofVal_VR E st w 3 z
             rw[←hzl];exact (this.flat hzf).1
            obtain⟨newCap,w',hcap,hrun,hheap,hquiet⟩:=append_grow (ty:=ty) (n:=0) (cap:=0) (base:=none) (old:=[]) ht hu hi hN (by omega) (fun w1 _=>by simp[Builtin.firstCells]) hz2 (by omega)
             (by rw[Nat.zero_add,hbz];simpa[roomLim] using hc1)
            obtain⟨g1,g2⟩:=grown_row (n:=0) (m:=ys.length) (sz:=n0+1) (old:=[]) (by simp) (by rw[hnl,hsz]) hzs (by omega)
            have hB:Blw w w':=by
             refine⟨by rw[hheap];simp,fun b hb=>by rw[hheap];simp[Array.getElem?_push,Nat.ne_of_lt hb],hquiet⟩
            have hrow:w'.heap[w.heap.size]? = some (.cells (([]:List Value).toArray++nv.toArray++Builtin.zeroCells z.cells (newCap-(0+ys.length))) elem (0,0)):=by
             rw[hheap];simp
            obtain⟨k1,k2⟩:=new_fam hw hB ⟨0,ys.length,n0+1,elem,wrOf P elem⟩ w.heap.size (Nat.le_refl _) hfl ⟨_,_,_,hrow,by rw[g1];exact Nat.mul_le_mul_right _ (by show ys.length≤newCap;omega),fun _=>⟨rfl,fun _=>rfl,by simp⟩⟩
            have S:Step [] E st w (E.setFam st.fams.length w.heap.size 0) { st with fams:=st.fams++[⟨0,ys.length,n0+1,elem,wrOf P elem⟩] } w':=by
             refine step_grow hB (fun i hi=>⟨hi,rfl⟩) (fun i b h1 h2=>by simp at h2;omega) (fun F g hF=>?_) (fun F h1 h2=>?_)
             · have hlt:F<st.fams.length:=(List.getElem?_eq_some_iff.1 hF).1
               exact⟨by simp only;rw[List.getElem?_append_left hlt];exact hF,by simp[Env.setFam,Nat.ne_of_lt hlt],by simp[Env.setFam,Nat.ne_of_lt hlt]⟩
             · have:F=st.fams.length:=by simp at h2;omega
               subst this
               simp[Env.setFam]
            have hcq':=hcq.step0 S
            rw[hsz] at hcq'
            have hfamE:(E.setFam st.fams.length w.heap.size 0).fam st.fams.length=w.heap.size:=by simp[Env.setFam]
            have hshE:(E.setFam st.fams.length w.heap.size 0).sh st.fams.length=0:=by simp[Env.setFam]
            have hF:(st.fams++[(⟨0,ys.length,n0+1,elem,wrOf P elem⟩:Fam)])[st.fams.length]? = some ⟨0,ys.length,n0+1,elem,wrOf P elem⟩:=by simp
            refine⟨_,w',_,hrun,k1,?_,hs.step0 S,k2⟩
            rw[Nat.zero_add]
            refine .list _ 0 (n0+1) ys (adr w.heap.size 0) newCap (fun j=>nv.getD j undef) (by simp) (by omega) (fun _=>rfl) (fun _=>by omega) hcq'.len ?_ ?_ ?_ hcq'.all1 hcq'.val
            · intro j hj
              simp only
              rw[heap_cell hrow,show 0+j=j from Nat.zero_add j,getD_of_getElem? (by rw[g1];exact Nat.lt_of_lt_of_le hj (Nat.mul_le_mul_right _ (by omega))),g2 j (by rw[Nat.zero_add];exact hj),if_neg (by omega)]
              simp
            · intro _
              refine⟨fun i hi' he=>?_,fun F g hF' he=>?_⟩
              · have:=hw.boxLt hi' he
                simp at this
              · have hFl:=(List.getElem?_eq_some_iff.1 hF').1
                have:F=st.fams.length:=by
                 rcases Nat.lt_or_ge F st.fams.length with h1 | h1
                 · have h2:(E.setFam st.fams.length w.heap.size 0).fam F=E.fam F:=by simp[Env.setFam,Nat.ne_of_lt h1]
                   rw[h2] at he
                   have:=hw.famLt (List.getElem?_eq_getElem h1)
                   simp at he;omega
                 · simp at hFl;omega
                subst this
                rw[hF] at hF'
                injection hF' with hF'
                subst hF'
                exact⟨⟨0,rfl⟩,by rw[hshE];simp⟩
            · refine⟨_,hF,Nat.le_refl _,fun _=>⟨hfamE.symm,rfl,fun _=>⟨by rw[hshE];simp,rfl⟩,by simp,?_⟩⟩
              rw[hshE]
              simp only[rowSize,hrow]
              rw[g1];simp
       · simp at h
      | list tk off sz xs a cap vs htk hcap hsp hz hel hcell hrd htok hone hv =>
       simp only at h
       split at h
       · rename_i hc
         obtain⟨hc1,hc2,hc3⟩:=hc
         obtain⟨nv,hN,hnl,hcq⟩:=news_VR hy hn ht hu hi (by rw[hsz];exact hc2)
         rw[hsz] at hcq hnl
         cases hzb:zeroB P elem with
         | none=>simp[hzb] at hc3
         | some zV =>
          obtain⟨z,hz1,hz2⟩:=zeroB_some hzb
          obtain⟨zc,hzf,hzl⟩:∃zc,zV.flat=some zc∧zc.length=n0+1:=by
           rw[hzb] at hc3
           simp only[Option.bind_some] at hc3
           cases hq:zV.flat with
           | none=>simp[hq] at hc3
           | some zc=>exact⟨zc,rfl,by simpa[hq] using hc3⟩
          have hzs:z.cells.size=n0+1:=by
           have:VR E st w z zV:=by rw[hz1];exact ofVal_VR E st w 3 z
           rw[←hzl];exact (this.flat hzf).1
          have hxq:Cellsq E st w sz xs vs:=.of_list hel hone hv
          have hfit:(xs.length+ys.length)*i.bytes≤140737488355328:=by rw[hbz];simpa[roomLim] using hc1
          cases tk with
          | nil=>exact absurd rfl htk
          | ro=>simp at h
          | clip =>
           simp only at h
           split at h
           · rename_i hszn
             subst hszn
             split at h
             · rename_i hys
               subst hys
               simp only[Option.some.injEq,Prod.mk.injEq] at h
               obtain⟨rfl,rfl,rfl⟩:=h
               have hnv:nv=[]:=by simpa using hnl
               subst hnv
               refine⟨_,w,E,append_room ht hu hi hN (by simpa using hcap),hw,?_,hs,.refl _ _ _⟩
               exact .list _ _ _ _ _ _ vs htk hcap hsp hz hel hcell hrd htok hone hv
             · rename_i hys
               simp only[Option.some.injEq,Prod.mk.injEq] at h
               obtain⟨rfl,rfl,rfl⟩:=h
               have hpos:0<ys.length:=List.length_pos_iff.2 hys
               have hcl:cap=xs.length:=htok
               have hold:=first_list (P:=P) (cap:=cap) hsp hcell
               rw[←hsz] at hold
               obtain⟨newCap,w',hcap',hrun,hheap,hquiet⟩:=append_grow (ty:=ty) (base:=some a) ht hu hi hN (by omega) hold hz2 (by omega) hfit
               rw[hsz] at hheap
               obtain⟨g1,g2⟩:=grown_row (n:=xs.length) (m:=ys.length) (sz:=n0+1) (old:=(List.range (xs.length*(n0+1))).map vs) (nv:=nv) (z:=z.cells) (by simp) hnl hzs hcap'
               have hB:Blw w w':=by
                refine⟨by rw[hheap];simp,fun b hb=>by rw[hheap];simp[Array.getElem?_push,Nat.ne_of_lt hb],hquiet⟩
               have hrow:w'.heap[w.heap.size]? = some (.cells (((List.range (xs.length*(n0+1))).map vs).toArray++nv.toArray++Builtin.zeroCells z.cells (newCap-(xs.length+ys.length))) elem (0,0)):=by
                rw[hheap];simp
               obtain⟨k1,k2⟩:=new_fam hw hB ⟨0,xs.length+ys.length,n0+1,elem,wrOf P elem⟩ w.heap.size (Nat.le_refl _) hfl ⟨_,_,_,hrow,by rw[g1];exact Nat.mul_le_mul_right _ hcap',fun _=>⟨rfl,fun _=>rfl,by simp⟩⟩
               have S:Step [] E st w (E.setFam st.fams.length w.heap.size 0) { st with fams:=st.fams++[⟨0,xs.length+ys.length,n0+1,elem,wrOf P elem⟩] } w':=by
                refine step_grow hB (fun i hi=>⟨hi,rfl⟩) (fun i b h1 h2=>by simp at h2;omega) (fun F g hF=>?_) (fun F h1 h2=>?_)
                · have hlt:F<st.fams.length:=(List.getElem?_eq_some_iff.1 hF).1
                  exact⟨by simp only;rw[List.getElem?_append_left hlt];exact hF,by simp[Env.setFam,Nat.ne_of_lt hlt],by simp[Env.setFam,Nat.ne_of_lt hlt]⟩
                · have:F=st.fams.length:=by simp at h2;omega
                  subst this
                  simp[Env.setFam]
               have hq:=(hxq.append hcq).step0 S
               have hfamE:(E.setFam st.fams.length w.heap.size 0).fam st.fams.length=w.heap.size:=by simp[Env.setFam]
               have hshE:(E.setFam st.fams.length w.heap.size 0).sh st.fams.length=0:=by simp[Env.setFam]
               have hF:(st.fams++[(⟨0,xs.length+ys.length,n0+1,elem,wrOf P elem⟩:Fam)])[st.fams.length]? = some ⟨0,xs.length+ys.length,n0+1,elem,wrOf P elem⟩:=by simp
               have hlen:(xs++ys).length=xs.length+ys.length:=by simp
               refine⟨_,w',_,hrun,k1,?_,hs.step0 S,k2⟩
               rw[show Value.slice (some (adr w.heap.size 0)) (xs.length+ys.length) newCap=Value.slice (some (adr w.heap.size 0)) (xs++ys).length newCap from by rw[hlen]]
               refine .list _ 0 (n0+1) (xs++ys) (adr w.heap.size 0) newCap _ (by simp) (by omega) (fun _=>rfl) (fun _=>by omega) hq.len ?_ ?_ ?_ hq.all1 hq.val
               · intro j hj
                 rw[hlen] at hj
                 simp only
                 rw[heap_cell hrow,show 0+j=j from Nat.zero_add j,getD_of_getElem? (by rw[g1];exact Nat.lt_of_lt_of_le hj (Nat.mul_le_mul_right _ hcap')),g2 j hj]
                 by_cases hjx:j<xs.length*(n0+1)
                 · simp[hjx,List.getD_eq_getElem?_getD]
                 · simp[hjx]
               · intro _
                 refine⟨fun i hi' he=>?_,fun F g hF' he=>?_⟩
                 · have:=hw.boxLt hi' he
                   simp at this
                 · have hFl:=(List.getElem?_eq_some_iff.1 hF').1
                   have:F=st.fams.length:=by
                    rcases Nat.lt_or_ge F st.fams.length with h1 | h1
                    · have h2:(E.setFam st.fams.length w.heap.size 0).fam F=E.fam F:=by simp[Env.setFam,Nat.ne_of_lt h1]
                      rw[h2] at he
                      have:=hw.famLt (List.getElem?_eq_getElem h1)
                      simp at he;omega
                    · simp at hFl;omega
                   subst this
                   rw[hF] at hF'
                   injection hF' with hF'
                   subst hF'
                   exact⟨⟨0,rfl⟩,by rw[hshE,hlen];simp⟩
               · refine⟨_,hF,Nat.le_refl _,fun _=>⟨hfamE.symm,rfl,fun _=>⟨by rw[hshE];simp,rfl⟩,by simp,?_⟩⟩
                 rw[hshE]
                 simp only[rowSize,hrow]
                 rw[g1];simp
           · simp at h
          | own F ep =>
           simp only at h
           split at h
           · rename_i hcond
             obtain⟨hge,hszn⟩:=hcond
             subst hszn
             cases hF:st.fams[F]? with
             | none=>simp[hF] at h
             | some f =>
              simp only[hF] at h
              split at h
              · rename_i hep
                split at h
                · rename_i htip
                  simp only[Option.some.injEq,Prod.mk.injEq] at h
                  obtain⟨rfl,rfl,rfl⟩:=h
                  have:=own_append (ty:=ty) (ks:=[]) hw hs ht hu hi hsz (by omega) hN hnl hcq (by omega) hfit hz2 hzs hcap hsp hxq hcell htok hF hep.1 hep.2 hge (.inl ⟨rfl,htip⟩)
                  rw[killHeap_nil,kills_nil,htip] at this
                  exact this
                · split at h
                  · rename_i hfr
                    simp only[Bool.and_eq_true] at hfr
                    obtain⟨hwr,hfr⟩:=hfr
                    simp only[Option.some.injEq,Prod.mk.injEq] at h
                    obtain⟨rfl,rfl,rfl⟩:=h
                    exact own_append (ty:=ty) (ks:=[F]) hw hs ht hu hi hsz (by omega) hN hnl hcq (by omega) hfit hz2 hzs hcap hsp hxq hcell htok hF hep.1 hep.2 hge (.inr ⟨rfl,hwr,hfr.1,hfr.2⟩)
                  · simp at h
              · simp at h
           · simp at h
       · simp at h
      | _=>simp at h
  | _=>simp[hu] at h
end Go.Abs

namespace Go.Abs
open Go
theorem beq_bytes (a b:ByteArray):(a==b)=(a.data.toList==b.data.toList):=by
 rw[beq_toListBytes,ByteArray.toList_eq,ByteArray.toList_eq]
def fieldsEqB (P:Program) (d:Nat) (xs ys:List V) (fs:List Field):Option Bool :=
 fs.foldr (fun f acc =>
  if f.name = "_" then acc else
  match partB P f.type xs f.offset,partB P f.type ys f.offset with
  | some a,some b=>(match eqB P d f.type a b,acc with | some p,some q=>some (p&&q) | _,_=>none)
  | _,_=>none) (some true)
def itemsEqB (P:Program) (d:Nat) (e:TypeId) (n:Nat) (xs ys:List V) (is:List Nat):Option Bool :=
 is.foldr (fun i acc =>
  match partB P e xs (i*n),partB P e ys (i*n) with
  | some a,some b=>(match eqB P d e a b,acc with | some p,some q=>some (p&&q) | _,_=>none)
  | _,_=>none) (some true)
theorem eqFields_VR {E:Env} {st:St} {w:World} {P:Program} {d D:Nat} {xs ys:Array Value} {dx dy:List V} (hlx:xs.size=dx.length) (hly:ys.size=dy.length)
 (hx1:∀k,k<dx.length→(xs.getD k undef).oneCell'=true) (hy1:∀k,k<dy.length→(ys.getD k undef).oneCell'=true)
 (hx:∀k,k<dx.length→VR E st w (xs.getD k undef) (dx.getD k .dead)) (hy:∀k,k<dy.length→VR E st w (ys.getD k undef) (dy.getD k .dead))
 (ih:∀t x y b xv yv,eqB P d t x y=some b→VR E st w xv x→VR E st w yv y→(Op.equalIn D t xv yv).run P w=.ok b w) :
 ∀(fs:List Field) (b:Bool),fieldsEqB P d dx dy fs=some b→(Op.eqFields D xs ys fs).run P w=.ok b w
 | [],b,h=>by
  simp only[fieldsEqB,List.foldr_nil,Option.some.injEq] at h
  subst h
  simp[Op.eqFields]
 | f::fs,b,h=>by
  have IH:=eqFields_VR hlx hly hx1 hy1 hx hy ih fs
  simp only[fieldsEqB,List.foldr_cons] at h
  by_cases hn:f.name = "_"
  · rw[if_pos hn] at h
    simp only[Op.eqFields,ne_eq,hn,not_true_eq_false,if_false]
    exact IH b h
  · rw[if_neg hn] at h
    cases ha:partB P f.type dx f.offset with
    | none=>simp[ha] at h
    | some a =>
     cases hb:partB P f.type dy f.offset with
     | none=>simp[ha,hb] at h
     | some bb =>
      simp only[ha,hb] at h
      cases he:eqB P d f.type a bb with
      | none=>simp[he] at h
      | some p =>
       cases hr:fieldsEqB P d dx dy fs with
       | none =>
        simp only[fieldsEqB] at hr
        simp[he,hr] at h
       | some q =>
        have hr':=hr
        simp only[fieldsEqB] at hr
        simp only[he,hr,Option.some.injEq] at h
        subst h
        obtain⟨va,r1,v1⟩:=part_VR hlx hx1 hx ha
        obtain⟨vb,r2,v2⟩:=part_VR hly hy1 hy hb
        have r3:=ih _ _ _ _ _ _ he v1 v2
        simp only[Op.eqFields,ne_eq,hn,not_false_eq_true,if_true,Sem.run_bind,r1,r2,r3,Result.andThen_ok]
        cases p
        · simp
        · simp only[Bool.not_true,Bool.false_eq_true,if_false,Bool.true_and]
          exact IH q hr'
theorem eqItems_VR {E:Env} {st:St} {w:World} {P:Program} {d D:Nat} {e:TypeId} {n:Nat} {xs ys:Array Value} {dx dy:List V} (hlx:xs.size=dx.length) (hly:ys.size=dy.length)
 (hx1:∀k,k<dx.length→(xs.getD k undef).oneCell'=true) (hy1:∀k,k<dy.length→(ys.getD k undef).oneCell'=true)
 (hx:∀k,k<dx.length→VR E st w (xs.getD k undef) (dx.getD k .dead)) (hy:∀k,k<dy.length→VR E st w (ys.getD k undef) (dy.getD k .dead))
 (ih:∀t x y b xv yv,eqB P d t x y=some b→VR E st w xv x→VR E st w yv y→(Op.equalIn D t xv yv).run P w=.ok b w) :
 ∀(is:List Nat) (b:Bool),itemsEqB P d e n dx dy is=some b→(Op.eqItems D e n xs ys is).run P w=.ok b w
 | [],b,h=>by
  simp only[itemsEqB,List.foldr_nil,Option.some.injEq] at h
  subst h
  simp[Op.eqItems]
 | i::is,b,h=>by
  have IH:=eqItems_VR (e:=e) (n:=n) hlx hly hx1 hy1 hx hy ih is
  simp only[itemsEqB,List.foldr_cons] at h
  cases ha:partB P e dx (i*n) with
  | none=>simp[ha] at h
  | some a =>
   cases hb:partB P e dy (i*n) with
   | none=>simp[ha,hb] at h
   | some bb =>
    simp only[ha,hb] at h
    cases he:eqB P d e a bb with
    | none=>simp[he] at h
    | some p =>
     cases hr:itemsEqB P d e n dx dy is with
     | none =>
      simp only[itemsEqB] at hr
      simp[he,hr] at h
     | some q =>
      have hr':=hr
      simp only[itemsEqB] at hr
      simp only[he,hr,Option.some.injEq] at h
      subst h
      obtain⟨va,r1,v1⟩:=part_VR hlx hx1 hx ha
      obtain⟨vb,r2,v2⟩:=part_VR hly hy1 hy hb
      have r3:=ih _ _ _ _ _ _ he v1 v2
      simp only[Op.eqItems,Sem.run_bind,r1,r2,r3,Result.andThen_ok]
      cases p
      · simp
      · simp only[Bool.not_true,Bool.false_eq_true,if_false,Bool.true_and]
        have:=IH q hr'
        first | exact this | simpa using this
theorem eq_VR {E:Env} {st:St} {w:World} {P:Program}:∀(d m:Nat) (t:TypeId) (x y:V) (b:Bool) (xv yv:Value),eqB P d t x y=some b→VR E st w xv x→VR E st w yv y →
 (Op.equalIn (d+m) t xv yv).run P w=.ok b w
 | 0,m,t,x,y,b,xv,yv,h,_,_=>by simp[eqB] at h
 | d+1,m,t,x,y,b,xv,yv,h,hx,hy=>by
  have ih:=fun t x y b xv yv=>eq_VR (E:=E) (st:=st) (w:=w) (P:=P) d m t x y b xv yv
  rw[show d+1+m=(d+m)+1 by omega]
  unfold eqB at h
  cases hu:P.underlying t with
  | none=>simp[hu] at h
  | some du =>
   rw[hu] at h
   cases du with
   | bool =>
    cases hx<;>simp at h
    cases hy<;>simp at h
    subst h
    simp[Op.equalIn,run_underlying hu]
   | int k0 =>
    cases hx<;>simp at h
    cases hy<;>simp at h
    obtain⟨rfl,rfl⟩:=h
    simp[Op.equalIn,run_underlying hu]
   | string =>
    cases hx<;>simp at h
    cases hy<;>simp at h
    subst h
    simp[Op.equalIn,run_underlying hu,beq_bytes]
   | pointer el =>
    cases hx<;>simp at h<;>cases hy<;>simp at h<;>subst h<;>simp[Op.equalIn,run_underlying hu]
   | slice el =>
    cases hx with
    | nil off sz =>
     cases hy with
     | nil off2 sz2=>simp at h;subst h;simp[Op.equalIn,run_underlying hu]
     | list t2 off2 sz2 xs2 a2 cap2 vs2 ht2=>cases t2<;>simp at h;exact absurd rfl ht2
     | _=>simp at h
    | list t1 off sz xs a cap vs ht =>
     cases hy with
     | nil off2 sz2 =>
      have:b=false:=by cases t1<;>simp at h<;>first | exact absurd rfl ht | exact h
      subst this
      simp[Op.equalIn,run_underlying hu]
     | list t2 off2 sz2 xs2 a2 cap2 vs2 ht2=>cases t2<;>simp at h;exact absurd rfl ht2
     | _=>simp at h
    | _=>simp at h
   | func a1 a2 a3 =>
    cases hx<;>simp at h<;>cases hy<;>simp at h<;>subst h<;>simp[Op.equalIn,run_underlying hu]
   | map a1 a2 =>
    cases hx<;>simp at h<;>cases hy<;>simp at h<;>subst h<;>simp[Op.equalIn,run_underlying hu]
   | interface ms =>
    cases hx<;>simp at h<;>cases hy<;>simp at h<;>subst h<;>simp[Op.equalIn,run_underlying hu]
   | struct fields =>
    cases hx with
    | agg xs dx hlx hx1 hx =>
     cases hy with
     | agg ys dy hly hy1 hy =>
      simp only at h
      split at h
      · simp at h
      · rename_i hst
        have hfo:P.fieldsOf t=fields:=by simp[Program.fieldsOf,hu]
        rw[run_equalIn_struct w (d+m) t xs ys (by rw[hfo];exact hu) (by simpa using hst),hfo]
        exact eqFields_VR hlx hly hx1 hy1 hx hy ih _ _ h
     | _=>simp at h
    | _=>simp at h
   | array len elem =>
    cases hx with
    | agg xs dx hlx hx1 hx =>
     cases hy with
     | agg ys dy hly hy1 hy =>
      simp only at h
      cases hs:sizeB P elem with
      | none=>simp[hs] at h
      | some n =>
       simp only[hs] at h
       cases hi:P.info? elem with
       | none=>simp[sizeB,hi] at hs
       | some i =>
        have hn:P.cellsOf elem=n:=by
         simp[sizeB,hi] at hs
         simp[Program.cellsOf,hi,hs]
        rw[run_equalIn_array w (d+m) xs ys hu hi,hn]
        exact eqItems_VR hlx hly hx1 hy1 hx hy ih _ _ h
     | _=>simp at h
    | _=>simp at h
   | _=>simp at h
end Go.Abs

namespace Go.Abs
open Go
theorem eqGuard_ok {P:Program} {w:World} {op:BinOp} {t:TypeId} {xo yo:Operand} {xv yv:Value}
 (h1:xv=.nilIface→yv=.nilIface→((match xo with | .const _=>true | _=>false) || (match yo with | .const _=>true | _=>false))=true)
 (h2:∀a b,xv=.agg a→yv=.agg b→P.eqGuardType P.depth t=false):(eqGuard op t xo yo xv yv).run P w=.ok () w:=by
 cases op<;>first | rfl | skip
 all_goals
  unfold eqGuard
  simp only[Bool.not_true,Bool.false_eq_true,if_false]
  split
  · have:=h1 rfl rfl
    rw[if_pos (by cases xo<;>cases yo<;>simp at this ⊢)]
    rfl
  · rename_i a b
    have:=h2 a b rfl rfl
    simp[this]
  · rfl
theorem eqOk_guard {E:Env} {st:St} {P:Program} {w w1:World} {op:BinOp} {t:TypeId} {xo yo:Operand} {xv yv:Value} {x y:V} {r:Bool} {d:Nat} (he:eqB P d t x y=some r)
 (h:eqOk P t xo yo x y=true) (hx:VR E st w xv x) (hy:VR E st w yv y):(eqGuard op t xo yo xv yv).run P w1=.ok () w1:=by
 have hna:x≠.any∧x≠.dead∧y≠.any∧y≠.dead:=by
  cases d with
  | zero=>simp[eqB] at he
  | succ d =>
   refine⟨?_,?_,?_,?_⟩<;>rintro rfl<;>unfold eqB at he<;>split at he<;>simp_all
 refine eqGuard_ok (fun e1 e2=>?_) (fun a b e1 e2=>?_)
 · subst e1;subst e2
   cases hx<;>try (first | exact absurd rfl hna.1 | exact absurd rfl hna.2.1)
   cases hy<;>try (first | exact absurd rfl hna.2.2.1 | exact absurd rfl hna.2.2.2)
   simp only[eqOk] at h;exact h
 · subst e1;subst e2
   cases hx<;>try (first | exact absurd rfl hna.1 | exact absurd rfl hna.2.1)
   cases hy<;>try (first | exact absurd rfl hna.2.2.1 | exact absurd rfl hna.2.2.2)
   simpa[eqOk] using h
theorem bin_VR {E:Env} {st:St} {w w1:World} {P:Program} {op:BinOp} {t:TypeId} {xo yo:Operand} {xv yv:Value} {x y r:V} (h:binB P op t xo yo x y=some r)
 (hx:VR E st w xv x) (hy:VR E st w yv y) (hw:w1=w) :
 ∃rv,(do eqGuard op t xo yo xv yv;binOp op t xv yv:Sem Value).run P w1=.ok rv w1∧VR E st w rv r:=by
 subst hw
 have hg:∀{xv yv:Value},(xv≠.nilIface)→(∀a,xv≠.agg a)→(eqGuard op t xo yo xv yv).run P w1=.ok () w1:=fun h1 h2 =>
  eqGuard_ok (fun e=>absurd e h1) (fun a b e=>absurd e (h2 a))
 by_cases hi:∃k a k' b,x=.int k a∧y=.int k' b
 · obtain⟨k,a,k',b,rfl,rfl⟩:=hi
   cases hx
   cases hy
   rw[Sem.run_bind,hg (by simp) (by simp),Result.andThen_ok]
   cases op<;>simp only[binB] at h
   case shl=>split at h<;>simp at h;subst h;rename_i hb;exact⟨_,by simp[binOp,Op.shift,show ¬b<0 by omega],.int _ _⟩
   case shr=>split at h<;>simp at h;subst h;rename_i hb;exact⟨_,by simp[binOp,Op.shift,show ¬b<0 by omega],.int _ _⟩
   all_goals
    split at h
    · rename_i hk
      subst hk
      first
       | (simp only[Option.some.injEq] at h;subst h;first | (refine⟨_,?_,.bool _⟩;simp[binOp,Op.intCmp];done) | (refine⟨_,?_,.int _ _⟩;simp[binOp,Op.intArith];done) | (refine⟨_,?_,.int _ _⟩;simp[binOp,intBits_and,intBits_or,intBits_xor,intBits_andNot];done))
       | (split at h<;>simp only[Option.some.injEq,reduceCtorEq] at h;subst h;rename_i hb;refine⟨_,?_,.int _ _⟩;simp[binOp,Op.intDiv,hb];done)
       | (simp at h;done)
    · simp at h
 · by_cases hs:∃a b,x=.str a∧y=.str b
   · obtain⟨a,b,rfl,rfl⟩:=hs
     cases hx with
     | str a =>
      cases hy with
      | str b =>
       rw[Sem.run_bind,hg (by simp) (by simp),Result.andThen_ok]
       have e1:∀a b:ByteArray,(a.toList==b.toList)=(a.data.toList==b.data.toList):=fun a b=>by rw[ByteArray.toList_eq,ByteArray.toList_eq]
       cases op<;>simp only[binB] at h<;>try (simp at h;done)
       case add =>
        split at h
        · rename_i hl
          simp only[Option.some.injEq] at h
          subst h
          have hsz:a.data.toList.length=a.size∧b.data.toList.length=b.size:=⟨Array.length_toList,Array.length_toList⟩
          have hmax:IntKind.i64.max=9223372036854775807:=rfl
          have hc:¬(((a.size+b.size:Nat):Int) > IntKind.i64.max):=by
           rw[hmax]
           rw[hsz.1,hsz.2] at hl
           unfold maxStr at hl
           omega
          refine⟨.string (a++b),?_,?_⟩
          · simp only[binOp,Op.stringOp,hc,if_false,Sem.run_pure]
          · have:a.data.toList++b.data.toList=(a++b).data.toList:=by simp
            rw[this];exact .str _
        · simp at h
       all_goals
        simp only[Option.some.injEq] at h
        subst h
        refine⟨_,rfl,?_⟩
        simp only[bytesLessB,ByteArray.toList_eq]
        exact .bool _
   · cases op<;>(try (unfold binB at h;split at h<;>simp_all;done))
     case eql =>
      have h':(if eqOk P t xo yo x y then (eqB P 20 t x y).map V.bool else none)=some r:=by
       unfold binB at h
       split at h<;>simp_all
      split at h'
      · rename_i hok
        cases he:eqB P 20 t x y with
        | none=>simp[he] at h'
        | some bb =>
         simp only[he,Option.map_some,Option.some.injEq] at h'
         subst h'
         rw[Sem.run_bind,eqOk_guard he hok hx hy,Result.andThen_ok]
         have hr:=eq_VR 20 9980 t x y bb xv yv he hx hy
         have hna:x≠.any∧x≠.dead∧y≠.any∧y≠.dead:=by
          refine⟨?_,?_,?_,?_⟩<;>rintro rfl<;>unfold eqB at he<;>split at he<;>simp_all
         have hb:binOp .eql t xv yv=(do pure (Value.bool (←Op.equal t xv yv)):Sem Value):=by
          cases hx<;>(try (first | exact absurd rfl hna.1 | exact absurd rfl hna.2.1))<;>cases hy <;>
           (first | rfl | exact absurd rfl hna.2.2.1 | exact absurd rfl hna.2.2.2 | exact absurd ⟨_,_,_,_,rfl,rfl⟩ hi | exact absurd ⟨_,_,rfl,rfl⟩ hs)
         rw[hb]
         refine⟨.bool bb,?_,.bool _⟩
         simp[Op.equal,Op.maxDepth,hr]
      · simp at h'
     case neq =>
      have h':(if eqOk P t xo yo x y then (eqB P 20 t x y).map (fun b=>V.bool !b) else none)=some r:=by
       unfold binB at h
       split at h<;>simp_all
      split at h'
      · rename_i hok
        cases he:eqB P 20 t x y with
        | none=>simp[he] at h'
        | some bb =>
         simp only[he,Option.map_some,Option.some.injEq] at h'
         subst h'
         rw[Sem.run_bind,eqOk_guard he hok hx hy,Result.andThen_ok]
         have hr:=eq_VR 20 9980 t x y bb xv yv he hx hy
         have hna:x≠.any∧x≠.dead∧y≠.any∧y≠.dead:=by
          refine⟨?_,?_,?_,?_⟩<;>rintro rfl<;>unfold eqB at he<;>split at he<;>simp_all
         have hb:binOp .neq t xv yv=(do pure (Value.bool (!(←Op.equal t xv yv))):Sem Value):=by
          cases hx<;>(try (first | exact absurd rfl hna.1 | exact absurd rfl hna.2.1))<;>cases hy <;>
           (first | rfl | exact absurd rfl hna.2.2.1 | exact absurd rfl hna.2.2.2 | exact absurd ⟨_,_,_,_,rfl,rfl⟩ hi | exact absurd ⟨_,_,rfl,rfl⟩ hs)
         rw[hb]
         refine⟨.bool (!bb),?_,.bool _⟩
         simp[Op.equal,Op.maxDepth,hr]
      · simp at h'
end Go.Abs
