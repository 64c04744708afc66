/- A part of the proof of a card. No conditions. -/
import Derived.Calls
import Derived.Below
import Derived.Laws.Cells
import Derived.Tactics
import Derived.KernelRfl
import Derived.Laws.CopyRow
import Derived.Laws.Tables
import Derived.Laws.MakeOwn
import Derived.Laws.StructEq
import Derived.MapKept
import Derived.Laws.RangeString
set_option linter.all false
set_option maxHeartbeats 16000000
set_option maxRecDepth 10000
namespace Go.Proofs.YteenjodhmppgjaaGreatDoor.Am
section
open Go

inductive D where
 | v (x:Value)
 | s (k:Nat) (els:List (List D)) (g:Bool:=false)
 | i (t:TypeId) (xs:List D)
instance : Inhabited D:=⟨.v .nilIface⟩

inductive C where
 | d (x:D)
 | ptr (id off:Nat)
 | elt (k:Nat) (els:List (List D)) (i off:Nat) (g:Bool:=false)
 | own (id:Nat)
 | ap (id i off:Nat)
 | fn (f:FuncId) (first caps:List Nat)
 | rf (map:Bool) (id:Nat)
 | any
instance : Inhabited C:=⟨.any⟩

inductive V where
 | c (x:C)
 | agg (cs:List C)
 | tup (vs:List (Bool × List C))
instance : Inhabited V:=⟨.c .any⟩

inductive O where
 | box (cs:List C)
 | arr (k:Nat) (els:List (List D))
 | raw (x:Obj)
 | stk (k:Nat) (els:List (List D)) (cur:Option Nat) (root:Bool)
 | gone
 | hole
instance : Inhabited O:=⟨.gone⟩

inductive R where
 | val (v:V)
 | pan (x:Value)

structure Eff where
 res:R
 upd:List (Nat × O):=[]
 rd:List Nat:=[]

inductive It where
 | code (c:Code)
 | ops (all:Array Oper) (l:List Oper)
 | inBlock (id:Nat)
 | inLoop (c:Code)

structure Cf where
 nt:Nat
 m:Nat
 res:List ResultVar
 keep:Bool:=false
def ownF (f:FuncId):Bool:=([100,119,192,236,254,65,109,102,163,113,249,250]:List Nat).contains f
def uG0 (f:FuncId):Bool:=([65,113]:List Nat).contains f
def retF (f:FuncId):Bool:=([119,121,191,239,181]:List Nat).contains f

abbrev Env := List (Nat × V)

inductive Entry where
 | call (f:FuncId) (args:List V) (objs:List O)
 | k (cf:Cf) (todo:List It) (env:Env) (loc:List O)

inductive Out where
 | ret (vs:List V) (objs:List O)
 | pan (x:Value) (objs:List O)

abbrev Rec := Entry→Option Out
abbrev Look := Nat→Option O

def gt (env:Env)(t:Nat):V:=
 match env with
 | []=> .c .any
 | (u,v)::r=>if u=t then v else gt r t
def pt (env:Env)(t:Nat)(v:V):Env:=
 match env with
 | []=>[(t,v)]
 | (u,x)::r=>if u=t then(t,v)::r else if t<u then(t,v)::(u,x)::r else(u,x)::pt r t v
def putO (env:Env)(dst:Option Nat)(v:V):Env:=match dst with | some t=>pt env t v | none=>env
def cellB : Value→Bool
 | .agg _=>false
 | .tuple _=>false
 | _=>true
def ofValue (x:Value):V:=
 match x with
 | .agg a=>if a.toList.all cellB then .agg (a.toList.map fun y=> .d (.v y)) else .c .any
 | .tuple _=> .c .any
 | y=> .c (.d (.v y))
def ev (env:Env):Operand→V
 | .tmp t=>gt env t
 | .const x=>ofValue x
 | .global _=> .c .any
 | .func f=> .c (.fn f [] [])

def aggT (P:Program)(t:TypeId):Option Bool:=
 match P.underlying t with
 | some (.struct _)=>some true
 | some (.array _ _)=>some true
 | some _=>some false
 | none=>none
def eQ0 (P:Program)(t:TypeId):Option (List (Nat × Nat)):=
 match P.underlying t with
 | some (.struct fields)=>fields.toList.mapM fun f=>(P.info? f.type).map fun i=>(f.offset,i.size)
 | some (.array len e)=>match P.info? e with
  | some ie=>some ((List.range len).map fun i=>(i*ie.size,ie.size))
  | none=>none
 | _=>none
def bN0 (P:Program)(t:TypeId):Option Nat:=(P.info? t).map (·.size)
def cL0 (P:Program)(t:TypeId):Option Nat:=(P.info? t).map (·.bytes)
def iF0 (P:Program)(t:TypeId):Option TypeId:=
 match P.underlying t with
 | some (.slice e)=>some e
 | _=>none
def bE0 (P:Program)(t:TypeId)(i:Nat):Option (Nat × TypeId):=
 match P.underlying t with
 | some (.struct fs)=>(fs[i]?).map fun f=>(f.offset,f.type)
 | _=>none
def cV0 (P:Program)(t:TypeId):Option (List C):=
 match P.info? t with
 | some i=>match i.zero with
  | some z=>if z.cells.toList.all cellB then some (z.cells.toList.map fun y=> .d (.v y)) else none
  | none=>none
 | none=>none

def okC : C→Bool
 | .any=>false
 | _=>true
def cells : V→Option (List C)
 | .c x=>if okC x then some [x] else none
 | .agg cs=>if cs.all okC then some cs else none
 | .tup _=>none
def toD (look:Look):C→Option (D × List Nat)
 | .d x=>some (x,[])
 | .own id=>match look id with
  | some (.arr k els)=>some (.s k els,[id])
  | _=>none
 | _=>none
def toDs (look:Look):List C→Option (List D × List Nat)
 | []=>some ([],[])
 | x::r=>match toD look x with
  | some (d,a)=>match toDs look r with
   | some (ds,b)=>some (d::ds,a++b)
   | none=>none
  | none=>none
def hZ0 (look:Look):List V→Option (List (List D) × List Nat)
 | []=>some ([],[])
 | x::r=>match cells x with
  | some cs=>match toDs look cs with
   | some (d,a)=>match hZ0 look r with
    | some (ds,b)=>some (d::ds,a++b)
    | none=>none
   | none=>none
  | none=>none
def aU0 (ids:List Nat):List (Nat × O):=ids.map fun id=>(id,.gone)
def argC (look:Look):C→Option (C × List Nat)
 | .own id=>match look id with
  | some (.arr k els)=>some (.d (.s k els),[id])
  | _=>none
 | .any=>none
 | x=>some (x,[])
def gX0 (look:Look):List C→Option (List C × List Nat)
 | []=>some ([],[])
 | x::r=>match argC look x with
  | some (d,a)=>match gX0 look r with
   | some (ds,b)=>some (d::ds,a++b)
   | none=>none
  | none=>none
def argV (look:Look):V→Option (V × List Nat)
 | .c x=>match argC look x with | some (y,a)=>some (.c y,a) | none=>none
 | .agg cs=>match gX0 look cs with | some (ys,a)=>some (.agg ys,a) | none=>none
 | .tup _=>none
def dW0 (look:Look):List V→Option (List V × List Nat)
 | []=>some ([],[])
 | x::r=>match argV look x with
  | some (d,a)=>match dW0 look r with
   | some (ds,b)=>some (d::ds,a++b)
   | none=>none
  | none=>none

def dG1 : C→List Nat
 | .ptr id _=>[id]
 | .own id=>[id]
 | .ap id _ _=>[id]
 | .fn _ a b=>a++b
 | .rf _ id=>[id]
 | _=>[]
def iZ0 : V→List Nat
 | .c x=>dG1 x
 | .agg cs=>cs.flatMap dG1
 | .tup vs=>vs.flatMap fun p=>p.2.flatMap dG1
def dH1 : Option O→List Nat
 | some (.box cs)=>cs.flatMap dG1
 | _=>[]
def reach (look:Look):Nat→List Nat→List Nat→List Nat
 | 0,seen,_=>seen
 | _+1,seen,[]=>seen
 | n+1,seen,id::todo=>if seen.contains id then reach look n seen todo else reach look n (seen++[id]) (todo++dH1 (look id))
def pos (l:List Nat)(id:Nat):Option Nat:=
 match l with
 | []=>none
 | x::r=>if x=id then some 0 else(pos r id).map (· + 1)
def mapO {α β:Type} (f:α→Option β):List α→Option (List β)
 | []=>some []
 | x::r=>match f x with
  | some y=>match mapO f r with
   | some ys=>some (y::ys)
   | none=>none
  | none=>none
def renC (r:Nat→Option Nat):C→Option C
 | .d x=>some (.d x)
 | .ptr id off=>match r id with | some j=>some (.ptr j off) | none=>none
 | .elt k els i off g=>some (.elt k els i off g)
 | .own id=>match r id with | some j=>some (.own j) | none=>none
 | .ap id i off=>match r id with | some j=>some (.ap j i off) | none=>none
 | .fn f a b=>match mapO r a with
  | some a'=>match mapO r b with
   | some b'=>some (.fn f a' b')
   | none=>none
  | none=>none
 | .rf m id=>match r id with | some j=>some (.rf m j) | none=>none
 | .any=>some .any
def renP (r:Nat→Option Nat)(p:Bool × List C):Option (Bool × List C):=
 match mapO (renC r) p.2 with | some cs=>some (p.1,cs) | none=>none
def renV (r:Nat→Option Nat):V→Option V
 | .c x=>match renC r x with | some y=>some (.c y) | none=>none
 | .agg cs=>match mapO (renC r) cs with | some ys=>some (.agg ys) | none=>none
 | .tup vs=>match mapO (renP r) vs with | some ys=>some (.tup ys) | none=>none
def renO (r:Nat→Option Nat):O→Option O
 | .box cs=>match mapO (renC r) cs with | some ys=>some (.box ys) | none=>none
 | .arr k els=>some (.arr k els)
 | .raw x=>some (.raw x)
 | .stk k els cur root=>some (.stk k els (cur.bind r) root)
 | .gone=>some .gone
 | .hole=>some .hole
def nY0 (look:Look)(x:C):C:=
 match x with
 | .own id=>match look id with | some .gone=> .any | _=>x
 | .ap id _ _=>match look id with | some .gone=> .any | _=>x
 | _=>x
def zS0 (look:Look):V→V
 | .c x=> .c (nY0 look x)
 | .agg cs=> .agg (cs.map (nY0 look))
 | .tup vs=> .tup (vs.map fun p=>(p.1,p.2.map (nY0 look)))
def lk (loc:List O):Look:=fun id=>match loc[id]? with
 | some .hole=>none
 | x=>x
def setO (loc:List O)(id:Nat)(o:O):List O:=
 if id<loc.length then loc.set id o else loc++List.replicate (id - loc.length) .hole++[o]
def updO (loc:List O):List (Nat × O)→List O
 | []=>loc
 | (id,o)::r=>updO (setO loc id o) r

def comp : V→Option (Bool × List C)
 | .c x=>some (false,[x])
 | .agg cs=>some (true,cs)
 | .tup _=>none
def ofComp : Bool × List C→V
 | (true,cs)=> .agg cs
 | (false,[x])=> .c x
 | _=> .c .any
def bK0 (vs:List V):Option V:=
 match vs with
 | [v]=>some v
 | vs=>match mapO comp vs with | some l=>some (.tup l) | none=>none
def jC0 : C→Bool
 | .d (.v _)=>true
 | _=>false
def cA0 : V→Bool
 | .c x=>jC0 x
 | .agg cs=>cs.all jC0
 | .tup _=>false
def back (ids:List Nat)(slot n j:Nat):Option Nat:=
 if j<ids.length then ids[j]? else if j<n then some (slot+(j - ids.length)) else none
def cD0 (ids:List Nat)(slot:Nat)(objs:List O):List (Nat × O):=
 objs.zipIdx.map fun p=>((back ids slot objs.length p.2).getD 0,p.1)
def cK0 (ids bor:List Nat)(slot:Nat):Out→Option Eff
 | .ret vs objs=>match mapO (renV (back ids slot objs.length)) vs with
  | some vs'=>match mapO (renO (back ids slot objs.length)) objs with
   | some objs'=>match bK0 vs' with
    | some v=>if objs.length<ids.length then none else
     some { res:= .val v,upd:=cD0 ids slot objs'++(if(vs'.all cA0&&objs'.isEmpty)=true then [] else aU0 bor),rd:=ids++bor }
    | none=>none
   | none=>none
  | none=>none
 | .pan x objs=>match mapO (renO (back ids slot objs.length)) objs with
  | some objs'=>if objs.length<ids.length then none else some { res:= .pan x,upd:=cD0 ids slot objs'++aU0 bor,rd:=ids++bor }
  | none=>none
def bI0 : Option O→Bool
 | some (.stk ..)=>true
 | _=>false
def iB0 : O→O
 | .stk k els _ _=> .stk k els none true
 | o=>o
def bC1 : Option O→Bool
 | some (.stk _ _ (some _) _)=>false
 | _=>true
def oW0 (look:Look)(ids:List Nat):Bool:=decide ((ids.filter fun id=>bI0 (look id)).length≤1)&&ids.all fun id=>bC1 (look id)
def nE1 : List D→List D→Bool
 | [],[]=>true
 | .v (.int k a)::r,.v (.int k' b)::r'=>decide (k=k')&&decide (a=b)&&nE1 r r'
 | _,_=>false
def nF1 : List (List D)→List (List D)→Bool
 | [],[]=>true
 | a::r,b::r'=>nE1 a b&&nF1 r r'
 | _,_=>false
def sameO : O→Option O→Bool
 | .stk k els _ _,some (.stk k' els' _ _)=>decide (k=k')&&nF1 els els'
 | _,_=>false
def bN1 (look:Look)(slot:Nat)(rd:List Nat)(p:Nat × O):Bool:=if rd.contains p.1&&bI0 (look p.1) then sameO p.2 (look p.1)&&decide (p.1<slot) else !bI0 (some p.2)
def jT0 (look:Look)(slot:Nat)(rd:List Nat)(upd:List (Nat × O)):Bool:=upd.all (bN1 look slot rd)
def cU0 (p:Nat × O):Bool:= !bI0 (some p.2)
def eR0 (look:Look)(slot:Nat)(e:Option Eff):Option Eff:=
 match e with
 | some e=>if jT0 look slot e.rd e.upd=true then some { e with upd:=e.upd.filter cU0 } else none
 | none=>none
def eD0 (keep:Bool)(look:Look)(args:List V):Option (List V × List Nat):=
 match keep with
 | true=>some (args,[])
 | false=>dW0 look args
def cB0 (f:FuncId)(look:Look)(args:List V):Option (List Nat × List Nat × List V × List O):=
 match eD0 (ownF f) look args with
 | none=>none
 | some (args',bor)=>
  let ids:=reach look 200 [] (args'.flatMap iZ0)
  match mapO (renV (pos ids)) args' with
  | none=>none
  | some args''=>match mapO look ids with
   | none=>none
   | some objs=>match mapO (renO (pos ids)) (objs.map iB0) with
    | none=>none
    | some objs'=>if decide ids.Nodup&&bor.all (fun b=> !ids.contains b)&&decide bor.Nodup&&oW0 look ids then some (ids,bor,args'',objs') else none
def bB0 (ids bor:List Nat)(slot:Nat)(r:Option Out):Option Eff:=
 match r with
 | some out=>cK0 ids bor slot out
 | none=>none
def pK1 : O→Bool
 | .arr _ _=>true
 | _=>false
def iE0 : O→O
 | .arr k els=> .stk k els none true
 | o=>o
def gU0 : List O→List O→List O
 | .arr _ _::r,_::r'=> .gone::gU0 r r'
 | _::r,o::r'=>o::gU0 r r'
 | [],outs=>outs
 | _::_,[]=>[]
def eW1 (objs:List O)(r:Option Out):Option Out:=
 match r with
 | some (.ret vs outs)=>some (.ret vs (gU0 objs outs))
 | some (.pan x outs)=>some (.pan x (gU0 objs outs))
 | none=>none
def cV1 : C→Bool
 | .ap .. => false
 | _=>true
def uM1 (p:Bool × List C):Bool:=p.2.all cV1
def uN1 : V→Bool
 | .c x=>cV1 x
 | .agg cs=>cs.all cV1
 | .tup vs=>vs.all uM1
def noApO : O→Bool
 | .box cs=>cs.all cV1
 | _=>true
def dX0 (rec:Rec)(f:FuncId)(args:List V)(objs:List O):Option Out:=
 if objs.any pK1&&uG0 f then
  if args.all uN1&&objs.all noApO then eW1 objs (rec (.call f args (objs.map iE0))) else none
 else rec (.call f args objs)
def hN0 (rec:Rec)(slot:Nat)(f:FuncId)(p:Option (List Nat × List Nat × List V × List O)):Option Eff:=
 match p with
 | some (ids,bor,args,objs)=>bB0 ids bor slot (dX0 rec f args objs)
 | none=>none
def dD0 (rec:Rec)(look:Look)(slot:Nat)(f:FuncId)(args:List V):Option Eff:=eR0 look slot (hN0 rec slot f (cB0 f look args))
end
section
open Go

def eff (v:V)(rd:List Nat:=[]):Option Eff:=some { res:= .val v,rd:=rd }
def num (v:V):Option Int:=
 match v with
 | .c (.d (.v (.int _ n)))=>some n
 | _=>none

def pickA (c a b:V):Option Eff:=
 match c with
 | .c (.d (.v (.bool t)))=>eff (if t then a else b)
 | _=>none
def allocA (P:Program)(slot:Nat)(t:TypeId):Option Eff:=
 match cV0 P t with
 | some cs=>some { res:= .val (.c (.ptr slot 0)),upd:=[(slot,.box cs)] }
 | none=>none
def boxA (slot:Nat)(x:V):Option Eff:=
 match cells x with
 | some cs=>some { res:= .val (.c (.ptr slot 0)),upd:=[(slot,.box cs)] }
 | none=>none
def over (cs:List C)(off:Nat)(ys:List C):List C:=cs.take off++ys++cs.drop (off+ys.length)
def fillA (places:List (Nat × Nat))(cs:List C):List (Nat × V)→Option (List C)
 | []=>some cs
 | (i,x)::r=>match places[i]? with
  | some (off,n)=>match cells x with
   | some ys=>if ys.length=n∧off+ys.length≤cs.length then fillA places (over cs off ys) r else none
   | none=>none
  | none=>none
def buildA (P:Program)(t:TypeId)(parts:List (Nat × V)):Option Eff:=
 match eQ0 P t with
 | some places=>match cV0 P t with
  | some zs=>match fillA places zs parts with
   | some cs=>eff (.agg cs)
   | none=>none
  | none=>none
 | none=>none
def kB0 (k:Nat):Nat→List (Nat × List (D))→Bool
 | _,[]=>true
 | n,(i,x)::r=>decide (i=n)&&decide (x.length=k)&&kB0 k (n+1) r
def aS0 (P:Program)(look:Look)(slot:Nat)(t:TypeId)(len:Nat)(parts:List (Nat × V)):Option Eff:=
 match iF0 P t with
 | some e=>match bN0 P e with
  | some k=>match hZ0 look (parts.map (·.2)) with
   | some (els,own)=>
    if parts.length=len∧0<k∧len*k≤2^24∧kB0 k 0 ((parts.map (·.1)).zip els)=true∧(cV0 P e).isSome=true then
     some { res:= .val (.c (.own slot)),upd:=aU0 own++[(slot,.arr k els)],rd:=own }
    else none
   | none=>none
  | none=>none
 | none=>none
def cutC (P:Program)(t:TypeId)(cs:List C)(off:Nat):Option V:=
 match bN0 P t with
 | some n=>match aggT P t with
  | some true=>if off+n≤cs.length then some (.agg ((cs.drop off).take n)) else none
  | some false=>match cs[off]? with
   | some x=>some (.c x)
   | none=>none
  | none=>none
 | none=>none
def loadA (P:Program)(look:Look)(t:TypeId)(a:V):Option Eff:=
 match a with
 | .c (.ptr id off)=>match look id with
  | some (.box cs)=>match cutC P t cs off with
   | some v=>eff v [id]
   | none=>none
  | _=>none
 | .c (.ap id i off)=>match look id with
  | some (.arr _ els)=>match els[i]? with
   | some l=>match cutC P t (l.map .d) off with
    | some v=>eff v [id]
    | none=>none
   | none=>none
  | _=>none
 | .c (.elt _ els i off _)=>match els[i]? with
  | some l=>match cutC P t (l.map .d) off with
   | some v=>eff v
   | none=>none
  | none=>none
 | _=>none
def mQ0 (P:Program)(look:Look)(t:TypeId)(a x:V):Option Eff:=
 match cells x with
 | none=>none
 | some ys=>
  if bN0 P t=some ys.length then
   match a with
   | .c (.ptr id off)=>match look id with
    | some (.box cs)=>if off+ys.length≤cs.length then some { res:= .val (.c .any),upd:=[(id,.box (over cs off ys))],rd:=[id] } else none
    | _=>none
   | .c (.ap id i off)=>match look id with
    | some (.arr k els)=>match els[i]? with
     | some l=>match toDs look ys with
      | some (ds,own)=>
       if off+ds.length≤l.length∧own.contains id=false then
        some { res:= .val (.c .any),upd:=aU0 own++[(id,.arr k (els.set i (l.take off++ds++l.drop (off+ds.length))))],rd:=own++[id] }
       else none
      | none=>none
     | none=>none
    | _=>none
   | _=>none
  else none
def fieldAddrA (P:Program)(look:Look)(t:TypeId)(x:V)(f:Nat):Option Eff:=
 match bE0 P t f with
 | some (off,u)=>match bN0 P u with
  | some n=>if 0<n then match x with
   | .c (.ptr id o)=>eff (.c (.ptr id (o+off)))
   | .c (.ap id i o)=>match look id with
    | some (.arr _ _)=>eff (.c (.ap id i (o+off))) [id]
    | _=>none
   | .c (.elt k els i o g)=>eff (.c (.elt k els i (o+off) g))
   | .c (.d (.v (.pointer (some ⟨b,o,none⟩))))=>eff (.c (.d (.v (.pointer (some ⟨b,o+off,none⟩)))))
   | _=>none
   else none
  | none=>none
 | none=>none
def fieldA (P:Program)(t:TypeId)(x:V)(f:Nat):Option Eff:=
 match bE0 P t f with
 | some (off,u)=>match x with
  | .agg cs=>match cutC P u cs off with
   | some v=>eff v
   | none=>none
  | _=>none
 | none=>none
def indexAddrA (P:Program)(look:Look)(t:TypeId)(x i:V):Option Eff:=
 match num i with
 | none=>none
 | some n=>match P.underlying t with
  | some (.slice e)=>match bN0 P e with
   | some k=>match x with
    | .c (.d (.s k' els g))=>if k'=k∧0≤n∧n<els.length then eff (.c (.elt k els n.toNat 0 g)) else none
    | .c (.own id)=>match look id with
     | some (.arr k' els)=>if k'=k∧0≤n∧n<els.length then eff (.c (.ap id n.toNat 0)) [id] else none
     | _=>none
    | .c (.d (.v (.slice (some ⟨b,o,none⟩) len _)))=>if 0≤n∧n<len then eff (.c (.d (.v (.pointer (some ⟨b,o+n.toNat*k,none⟩))))) else none
    | _=>none
   | none=>none
  | some (.array len e)=>match bN0 P e with
   | some k=>match x with
    | .c (.ptr id o)=>if 0≤n∧n<len∧0<k then eff (.c (.ptr id (o+n.toNat*k))) else none
    | .c (.elt k' els j o g)=>if 0≤n∧n<len∧0<k then eff (.c (.elt k' els j (o+n.toNat*k) g)) else none
    | _=>none
   | none=>none
  | _=>none
def indexA (P:Program)(t:TypeId)(x i:V):Option Eff:=
 match num i with
 | none=>none
 | some n=>match P.underlying t with
  | some .string=>match x with
   | .c (.d (.v (.string s)))=>if 0≤n then match s[n.toNat]? with
    | some b=>eff (.c (.d (.v (.int .u8 b.toNat))))
    | none=>none
    else none
   | _=>none
  | _=>none
def gZ0 (x:Option V)(dflt top:Nat):Option Nat:=
 match x with
 | none=>some dflt
 | some v=>match num v with
  | some n=>if 0≤n∧n≤top then some n.toNat else none
  | none=>none
def jD0 (P:Program)(look:Look)(slot:Nat)(t:TypeId)(x:V)(lo hi mx:Option V):Option Eff:=
 match P.underlying t with
 | some .string=>match x,mx with
  | .c (.d (.v (.string s))),none=>match gZ0 hi s.size s.size with
   | some h=>match gZ0 lo 0 h with
    | some l=>eff (.c (.d (.v (.string (s.extract l h)))))
    | none=>none
   | none=>none
  | _,_=>none
 | some (.slice e)=>match bN0 P e with
  | some k=>if 0<k then match x,mx with
   | .c (.d (.s k' els g)),none=>if k'=k then match gZ0 hi els.length els.length with
     | some h=>match gZ0 lo 0 h with
      | some l=>eff (.c (.d (.s k ((els.take h).drop l) g)))
      | none=>none
     | none=>none
    else none
   | .c (.own id),none=>match look id with
    | some (.arr k' els)=>if k'=k then match gZ0 hi els.length els.length with
      | some h=>match gZ0 lo 0 h with
       | some l=>some { res:= .val (.c (.own slot)),upd:=[(id,.gone),(slot,.arr k ((els.take h).drop l))],rd:=[id] }
       | none=>none
      | none=>none
     else none
    | _=>none
   | _,_=>none
   else none
  | none=>none
 | _=>none
def hD0 (P:Program)(slot:Nat)(t:TypeId)(len cap:V):Option Eff:=
 match iF0 P t with
 | some e=>match bN0 P e,cL0 P e,cV0 P e,num len,num cap with
  | some k,some b,some zs,some l,some c=>
   match toDs (fun _=>none) zs with
   | some (ds,_)=>
    if 0≤l∧l≤c∧c≤9223372036854775807∧b*c≤281474976710656∧0<k∧ds.length=k then
     some { res:= .val (.c (.own slot)),upd:=[(slot,.arr k (List.replicate l.toNat ds))] }
    else none
   | none=>none
  | _,_,_,_,_=>none
 | none=>none

def andI (k:IntKind)(a b:Int):Int:=k.wrap ((BitVec.ofInt k.bits a &&& BitVec.ofInt k.bits b).toNat:Int)
def orI (k:IntKind)(a b:Int):Int:=k.wrap ((BitVec.ofInt k.bits a ||| BitVec.ofInt k.bits b).toNat:Int)
def intOp (op:BinOp)(k:IntKind)(a b:Int):Option V:=
 match op with
 | .and=>some (.c (.d (.v (.int k (andI k a b)))))
 | .or=>some (.c (.d (.v (.int k (orI k a b)))))
 | .add=>some (.c (.d (.v (.int k (k.wrap (a+b))))))
 | .sub=>some (.c (.d (.v (.int k (k.wrap (a - b))))))
 | .mul=>some (.c (.d (.v (.int k (k.wrap (a*b))))))
 | .quo=>if b=0 then none else some (.c (.d (.v (.int k (k.wrap (a.tdiv b))))))
 | .rem=>if b=0 then none else some (.c (.d (.v (.int k (a.tmod b)))))
 | .eql=>some (.c (.d (.v (.bool (a==b)))))
 | .neq=>some (.c (.d (.v (.bool (a != b)))))
 | .lss=>some (.c (.d (.v (.bool (decide (a<b))))))
 | .leq=>some (.c (.d (.v (.bool (decide (a≤b))))))
 | .gtr=>some (.c (.d (.v (.bool (decide (a>b))))))
 | .geq=>some (.c (.d (.v (.bool (decide (a≥b))))))
 | _=>none
def strOp (op:BinOp)(x y:ByteArray):Option V:=
 match op with
 | .add=>if((x.size+y.size:Nat):Int)>IntKind.i64.max then none else some (.c (.d (.v (.string (x++y)))))
 | .eql=>some (.c (.d (.v (.bool (x.toList==y.toList)))))
 | .neq=>some (.c (.d (.v (.bool (!(x.toList==y.toList))))))
 | .lss=>some (.c (.d (.v (.bool (Op.bytesLess x.toList y.toList)))))
 | .leq=>some (.c (.d (.v (.bool (Op.bytesLess x.toList y.toList||x.toList==y.toList)))))
 | .gtr=>some (.c (.d (.v (.bool (!(Op.bytesLess x.toList y.toList||x.toList==y.toList))))))
 | .geq=>some (.c (.d (.v (.bool (!(Op.bytesLess x.toList y.toList))))))
 | _=>none
def binA (P:Program)(op:BinOp)(t:TypeId)(x y:V):Option Eff:=
 match x,y with
 | .c (.d (.v (.int k a))),.c (.d (.v (.int k' b)))=>if k=k' then match intOp op k a b with | some v=>eff v | none=>none else none
 | .c (.d (.v (.string a))),.c (.d (.v (.string b)))=>match strOp op a b with | some v=>eff v | none=>none
 | .c (.d (.v (.bool a))),.c (.d (.v (.bool b)))=>
  match P.underlying t,op with
  | some .bool,.eql=>eff (.c (.d (.v (.bool (a==b)))))
  | some .bool,.neq=>eff (.c (.d (.v (.bool (!(a==b))))))
  | _,_=>none
 | _,_=>none
def nilEq (op:BinOp)(b:Bool):Option Eff:=
 match op with
 | .eql=>eff (.c (.d (.v (.bool b))))
 | .neq=>eff (.c (.d (.v (.bool (!b)))))
 | _=>none
def eqFs (P:Program)(cs ds:List C):List Field→Option Bool
 | []=>some true
 | f :: r => if f.name ≠ "_" then match P.underlying f.type with
  | some (.int k)=>match cs[f.offset]? with
   | some (.d (.v (.int k1 a)))=>match ds[f.offset]? with
    | some (.d (.v (.int k2 b)))=>if k1=k∧k2=k then match eqFs P cs ds r with
     | some t=>some ((a==b)&&t)
     | none=>none
     else none
    | _=>none
   | _=>none
  | _=>none
  else none
def yO0 (P:Program)(t:TypeId):Bool:= !P.stoodInHeld t && !P.eqGuardType P.depth t
def oY0 (P:Program)(op:BinOp)(t:TypeId)(cs ds:List C):Option Eff:=
 if yO0 P t=true then match P.underlying t with
  | some (.struct fs)=>match eqFs P cs ds fs.toList with
   | some b=>nilEq op b
   | none=>none
  | _=>none
 else none
def gS0 (P:Program)(t:TypeId):Bool:=match P.underlying t with | some (.interface _)=>true | _=>false
def uZ0 (P:Program)(t:TypeId):Bool:=match P.underlying t with | some (.pointer _)=>true | _=>false
def cO0 (P:Program)(t:TypeId):Bool:=match P.underlying t with | some (.slice _)=>true | _=>false
def binB (P:Program)(op:BinOp)(t:TypeId)(c:Bool)(x y:V):Option Eff:=
 match x with
 | .agg cs=>match y with
  | .agg ds=>oY0 P op t cs ds
  | _=>none
 | .c (.d (.i _ _))=>match y with
  | .c (.d (.v .nilIface))=>if gS0 P t=true then nilEq op false else none
  | _=>none
 | .c (.d (.v (.iface _ _)))=>match y with
  | .c (.d (.v .nilIface))=>if gS0 P t=true then nilEq op false else none
  | _=>none
 | .c (.d (.v .nilIface))=>match y with
  | .c (.d (.v .nilIface))=>if gS0 P t=true∧c=true then nilEq op true else none
  | _=>none
 | .c (.d (.v (.slice a _ _)))=>match y with
  | .c (.d (.v (.slice none 0 0)))=>if cO0 P t=true then nilEq op a.isNone else none
  | _=>none
 | .c (.d (.s _ (_::_) _))=>match y with
  | .c (.d (.v (.slice none 0 0)))=>if cO0 P t=true then nilEq op false else none
  | _=>none
 | .c (.ptr _ _)=>match y with
  | .c (.d (.v (.pointer none)))=>if uZ0 P t=true then nilEq op false else none
  | _=>none
 | .c (.d (.v (.pointer a)))=>match y with
  | .c (.d (.v (.pointer none)))=>if uZ0 P t=true then nilEq op a.isNone else none
  | _=>none
 | _=>binA P op t x y
def boK (op:BinOp)(s:Bool)(id:Nat)(o:Option O):Option Eff:=
 match o with
 | some (.arr _ _)=>if s=true then(nilEq op false).map fun e=>{ e with rd:=[id] } else none
 | some (.stk _ _ _ _)=>if s=true then(nilEq op false).map fun e=>{ e with rd:=[id] } else none
 | _=>none
def binL (P:Program)(look:Look)(op:BinOp)(t:TypeId)(c:Bool)(x y:V):Option Eff:=
 match x,y with
 | .c (.own id),.c (.d (.v (.slice none 0 0)))=>boK op (cO0 P t) id (look id)
 | _,_=>binB P op t c x y
def pZ0 : Operand→Bool
 | .const _=>true
 | _=>false
def unA (op:UnOp)(x:V):Option Eff:=
 match op,x with
 | .not,.c (.d (.v (.bool b)))=>eff (.c (.d (.v (.bool (!b)))))
 | .neg,.c (.d (.v (.int k n)))=>eff (.c (.d (.v (.int k (k.wrap (0 - n))))))
 | _,_=>none
def aB0 (P:Program)(src dst:TypeId)(x:V):Option Eff:=
 match P.underlying src,P.underlying dst,x with
 | some (.int _),some (.int k),.c (.d (.v (.int _ n)))=>eff (.c (.d (.v (.int k (k.wrap n)))))
 | some .string,some .string,.c (.d (.v (.string s)))=>eff (.c (.d (.v (.string s))))
 | _,_,_=>none
def mN0 : C→Option Value
 | .d (.v x)=>some x
 | _=>none
def aP1 : V→Option Value
 | .c x=>mN0 x
 | .agg cs=>match mapO mN0 cs with | some l=>some (.agg l.toArray) | none=>none
 | .tup _=>none
def qD0 (look:Look)(t:TypeId)(x:V):Option Eff:=
 match x with
 | .agg cs=>match toDs look cs with
  | some (ds,own)=>some { res:= .val (.c (.d (.i t ds))),upd:=aU0 own,rd:=own }
  | none=>none
 | _=>eff (.c .any)
def cW0 (P:Program)(look:Look)(t:TypeId)(x:V):Option Eff:=
 match P.underlying t with
 | some (.interface _)=>none
 | none=>none
 | _=>match aP1 x with
  | some v=>eff (.c (.d (.v (.iface t v))))
  | none=>qD0 look t x
def ptrs : List V→Option (List Nat)
 | []=>some []
 | .c (.ptr id 0)::r=>match ptrs r with | some l=>some (id::l) | none=>none
 | _=>none
def aA0 (fn:Fn)(first caps:List V):Option Eff:=
 match fn,ptrs first,ptrs caps with
 | .func f,some a,some b=>eff (.c (.fn f a b))
 | _,_,_=>none
def extractA (x:V)(i:Nat):Option Eff:=
 match x with
 | .tup vs=>match vs[i]? with
  | some p=>eff (ofComp p)
  | none=>none
 | _=>none
def nilCheckA (look:Look)(x:V):Option Eff:=
 match x with
 | .c (.ptr id o)=>eff (.c (.ptr id o))
 | .c (.elt k els i o g)=>eff (.c (.elt k els i o g))
 | .c (.ap id i o)=>match look id with
  | some (.arr _ _)=>eff (.c (.ap id i o)) [id]
  | _=>none
 | .c (.fn f a b)=>eff (.c (.fn f a b))
 | _=>none

def lenA (look:Look)(x:V):Option Eff:=
 match x with
 | .c (.d (.v (.slice _ n _)))=>eff (.c (.d (.v (.int .i64 n))))
 | .c (.d (.s _ els _))=>eff (.c (.d (.v (.int .i64 els.length))))
 | .c (.own id)=>match look id with
  | some (.arr _ els)=>eff (.c (.d (.v (.int .i64 els.length)))) [id]
  | _=>none
 | _=>none
def lenS (x:V):Option Eff:=
 match x with
 | .c (.d (.v (.string s)))=>eff (.c (.d (.v (.int .i64 s.size))))
 | _=>none
def eS0 (look:Look)(k:Nat)(x:V):Option (List (List D) × List Nat):=
 match x with
 | .c (.d (.s k' els _))=>if k'=k∨els=[] then some (els,[]) else none
 | .c (.d (.v (.slice _ 0 _)))=>some ([],[])
 | .c (.own id)=>match look id with
  | some (.arr k' els)=>if k'=k then some (els,[id]) else none
  | some (.stk k' els _ _)=>if k'=k then some (els,[]) else none
  | _=>none
 | _=>none
def eT0 (look:Look)(x:V):List Nat:=
 match x with
 | .c (.own id)=>if bI0 (look id) then [id] else []
 | _=>[]
def bH0 (P:Program)(look:Look)(slot:Nat)(types:List TypeId)(args:List V):Option Eff:=
 match types,args with
 | [t,u],[s,x]=>if t≠u then none else match iF0 P t with
  | some e=>match bN0 P e,cL0 P e with
   | some k,some b=>if 0<k∧(cV0 P e).map List.length=some k then match eS0 look k x with
    | some (new,o2)=>match s with
     | .c (.d (.v (.slice none 0 0)))=>
      match new with
      | []=>some { res:= .val (.c (.d (.v (.slice none 0 0)))),rd:=o2++eT0 look x }
      | _::_=>if new.length*b≤140737488355328∧new.length≤9223372036854775807 then some { res:= .val (.c (.own slot)),upd:=aU0 o2++[(slot,.arr k new)],rd:=o2++eT0 look x } else none
     | .c (.own id)=>match look id with
      | some (.arr k' els)=>
       if k'=k∧(els.length+new.length)*b≤140737488355328∧els.length+new.length≤9223372036854775807∧o2.contains id=false then
        some { res:= .val (.c (.own slot)),upd:=aU0 o2++[(id,.gone),(slot,.arr k (els++new))],rd:=o2++[id]++eT0 look x }
       else none
      | some (.stk k' els cur true)=>
       if k'=k∧(els.length+new.length)*b≤140737488355328∧els.length+new.length≤9223372036854775807∧o2.contains id=false∧0<new.length then
        match cur with
        | none=>some { res:= .val (.c (.own slot)),upd:=aU0 o2++[(id,.stk k els (some slot) true),(slot,.stk k (els++new) none false)],rd:=o2++[id]++eT0 look x }
        | some c=>match look c with
         | some (.stk _ _ none false)=>if o2.contains c=false∧¬ c=id then some { res:= .val (.c (.own slot)),upd:=aU0 o2++[(c,.gone),(id,.stk k els (some slot) true),(slot,.stk k (els++new) none false)],rd:=o2++[c,id]++eT0 look x } else none
         | _=>none
       else none
      | _=>none
     | _=>none
    | none=>none
    else none
   | _,_=>none
  | _=>none
 | _,_=>none
def maxA (args:List V):Option Eff:=
 match args with
 | [.c (.d (.v (.int k x))),.c (.d (.v (.int _ y)))]=>eff (.c (.d (.v (.int k (if y>x then y else x)))))
 | _=>none
def minA (args:List V):Option Eff:=
 match args with
 | [.c (.d (.v (.int k x))),.c (.d (.v (.int _ y)))]=>eff (.c (.d (.v (.int k (if y<x then y else x)))))
 | _=>none
def aO1 (x:V):Option Eff:=
 match x with
 | .c (.d (.v (.iface t v)))=>some { res:= .pan (.iface t v) }
 | _=>none
def builtinA (P:Program)(look:Look)(slot:Nat)(b:Builtin)(types:List TypeId)(args:List V):Option Eff:=
 match b with
 | .len=>match args with
  | [x]=>match types with
   | [t]=>match P.underlying t with
    | some .string=>lenS x
    | some (.slice _)=>lenA look x
    | _=>none
   | _=>none
  | _=>none
 | .append=>bH0 P look slot types args
 | .max=>maxA args
 | .min=>minA args
 | .panic=>match args with
  | [x]=>aO1 x
  | _=>none
 | _=>none
def scal (v:V):Option Value:=
 match v with
 | .c (.d (.v x))=>some x
 | _=>none
def aE1 : TypeDesc→Value→Bool
 | .bool,.bool _=>true
 | .int k,.int k' _=>decide (k'=k)
 | .string,.string _=>true
 | _,_=>false
def keyA (P:Program)(t:TypeId)(x:Value):Option (TypeDesc × TypeId):=
 match P.underlying t with
 | some (.map k e)=>match P.underlying k with
  | some d=>if aE1 d x then some (d,e) else none
  | none=>none
 | _=>none
def rL0 (P:Program)(slot:Nat)(t:TypeId)(hint:Option V):Option Eff:=
 match hint with
 | none=>some { res:= .val (.c (.rf true slot)),upd:=[(slot,.raw (.map #[] 0))] }
 | some v=>match num v,P.underlying t with
  | some _,some (.map _ _)=>some { res:= .val (.c (.rf true slot)),upd:=[(slot,.raw (.map #[] 0))] }
  | _,_=>none
def dG0 (P:Program)(look:Look)(t:TypeId)(m k x:V):Option Eff:=
 match m,scal k,scal x with
 | .c (.rf true id),some key,some val=>match keyA P t key with
  | some (d,_)=>match look id with
   | some (.raw (.map es clock))=>match Instr.findNow d key es.toList 0 with
    | some (some (i,_))=>match es[i]? with
     | some old=>if aE1 d old.key&&(Instr.sameNow d key old.key==some true) then some { res:= .val (.c .any),upd:=[(id,.raw (.map (es.modify i fun e=>{ e with key,val }) clock))],rd:=[id] } else none
     | none=>none
    | some none=>some { res:= .val (.c .any),upd:=[(id,.raw (.map (es.push { key,val,born:=clock }) (clock+1)))],rd:=[id] }
    | none=>none
   | _=>none
  | none=>none
 | _,_,_=>none
def lM0 (P:Program)(t:TypeId):Option Value:=
 match P.info? t with
 | some i=>match i.zero with
  | some z=>if cellB z then some z else none
  | none=>none
 | none=>none
def mT1 (ok:Bool)(x:Value)(b:Bool):V:=if ok then .tup [(false,[.d (.v x)]),(false,[.d (.v (.bool b))])] else .c (.d (.v x))
def iT0 (P:Program)(look:Look)(t:TypeId)(m k:V)(ok:Bool):Option Eff:=
 match m,scal k with
 | .c (.rf true id),some key=>match keyA P t key with
  | some (d,e)=>match look id with
   | some (.raw (.map es _))=>match Instr.findNow d key es.toList 0 with
    | some (some (_,v))=>if cellB v then eff (mT1 ok v true) [id] else none
    | some none=>match lM0 P e with
     | some z=>eff (mT1 ok z false) [id]
     | none=>none
    | none=>none
   | _=>none
  | none=>none
 | _,_=>none
def iD1 (P:Program)(slot:Nat)(t:TypeId)(x:V):Option Eff:=
 match P.underlying t,scal x with
 | some .string,some (.string s)=>some { res:= .val (.c (.rf false slot)),upd:=[(slot,.raw (.stringIter s 0))] }
 | _,_=>none
def vJ0 (look:Look)(it:V)(isString:Bool):Option Eff:=
 match it,isString with
 | .c (.rf false id),true=>match look id with
  | some (.raw (.stringIter s pos))=>
   if pos<s.size then
    some { res:= .val (.tup [(false,[.d (.v (.bool true))]),(false,[.d (.v (.int .i64 pos))]),(false,[.d (.v (.int .i32 (Utf8.decode s pos).1))])]),upd:=[(id,.raw (.stringIter s (pos+(Utf8.decode s pos).2)))],rd:=[id] }
   else eff (.tup [(false,[.d (.v (.bool false))])]) [id]
  | _=>none
 | _,_=>none
def ptrV (id:Nat):V:= .c (.ptr id 0)
def target (f:V)(args:List V):Option (FuncId × List V):=
 match f with
 | .c (.fn f first caps)=>some (f,first.map ptrV++args++caps.map ptrV)
 | _=>none
def callV (rec:Rec)(look:Look)(slot:Nat)(f:V)(args:List V):Option Eff:=
 match target f args with
 | some (f,args)=>dD0 rec look slot f args
 | none=>none
def callOpA (P:Program)(rec:Rec)(look:Look)(slot:Nat)(ρ:Operand→V)(c:Call):Option Eff:=
 match c.callee with
 | .builtin b=>builtinA P look slot b c.argTypes.toList (c.args.toList.map ρ)
 | .value f=>callV rec look slot (ρ f) (c.args.toList.map ρ)
 | .invoke _ _=>none
def opA (P:Program)(rec:Rec)(look:Look)(slot:Nat)(ρ:Operand→V)(o:Op):Option Eff:=
 match o with
 | .move x=>eff (ρ x)
 | .assign x=>eff (ρ x)
 | .pick c a b=>pickA (ρ c) (ρ a) (ρ b)
 | .alloc t=>allocA P slot t
 | .box _ x=>boxA slot (ρ x)
 | .build t parts=>buildA P t (parts.toList.map fun p=>(p.1,ρ p.2))
 | .buildSlice t len parts=>aS0 P look slot t len (parts.toList.map fun p=>(p.1,ρ p.2))
 | .load t a=>loadA P look t (ρ a)
 | .store t a x=>mQ0 P look t (ρ a) (ρ x)
 | .nilCheck x=>nilCheckA look (ρ x)
 | .binOp op t x y _=>binL P look op t (pZ0 x||pZ0 y) (ρ x) (ρ y)
 | .unOp op _ x=>unA op (ρ x)
 | .convert a b x=>aB0 P a b (ρ x)
 | .makeInterface t x=>cW0 P look t (ρ x)
 | .makeFunc fn first caps=>aA0 fn (first.toList.map ρ) (caps.toList.map ρ)
 | .makeSlice t l c=>hD0 P slot t (ρ l) (ρ c)
 | .slice t x lo hi mx=>jD0 P look slot t (ρ x) (lo.map ρ) (hi.map ρ) (mx.map ρ)
 | .fieldAddr t x f=>fieldAddrA P look t (ρ x) f
 | .field t x f=>fieldA P t (ρ x) f
 | .indexAddr t x i=>indexAddrA P look t (ρ x) (ρ i)
 | .index t x i=>indexA P t (ρ x) (ρ i)
 | .extract x i=>extractA (ρ x) i
 | .panic x=>aO1 (ρ x)
 | .makeMap t r=>rL0 P slot t (r.map ρ)
 | .mapUpdate t m k x=>dG0 P look t (ρ m) (ρ k) (ρ x)
 | .insert t m k x=>dG0 P look t (ρ m) (ρ k) (ρ x)
 | .lookup t x ix ok=>iT0 P look t (ρ x) (ρ ix) ok
 | .range t x=>iD1 P slot t (ρ x)
 | .next it s=>vJ0 look (ρ it) s
 | .call c=>callOpA P rec look slot ρ c
 | _=>none
end
section
open Go

abbrev Ext := FuncId→Option (List V→List O→Option Out)

def wantedA (all:Array Oper)(env:Env)(g:Option (Nat × Bool)):Option Bool:=
 match g with
 | none=>some true
 | some (j,want)=>match all[j]? with
  | some oj=>match oj.dst with
   | some t=>match gt env t with
    | .c (.d (.v (.bool b)))=>some (b==want)
    | .tup []=>some false
    | _=>none
   | none=>none
  | none=>none
def hC0 (nt:Nat)(dst:Option Nat):Bool:=match dst with | some t=>decide (t<nt) | none=>true

def dR0 (look:Look):O→O
 | .box cs=> .box (cs.map (nY0 look))
 | o=>o
def kept (m:Nat)(roots:List Nat)(loc:List O):List Nat:=
 reach (lk loc) 200 (List.range m) (((List.range m).flatMap fun id=>dH1 (lk loc id))++roots)
def vD0 (ids:List Nat)(loc:List O):Option (List O):=
 match mapO (lk loc) ids with
 | some os=>mapO (renO (pos ids)) os
 | none=>none
def kH0 (P:Program)(env:Env)(loc:List O):ResultVar→Option V
 | .tmp t=>some (gt env t)
 | .cell a t=>match loadA P (lk loc) t (gt env a) with
  | some { res:= .val v,.. }=>some v
  | _=>none
def kA0 (P:Program)(cf:Cf)(env:Env)(loc0:List O):Option Out:=
 match mapO (kH0 P env loc0) cf.res with
 | some vs0=>match eD0 cf.keep (lk loc0) vs0 with
  | some (vs,own)=>
   let loc1:=updO loc0 (aU0 own)
   let loc:=loc1.map (dR0 (lk loc1))
   let ids:=kept cf.m (vs.flatMap iZ0) loc
   if decide ids.Nodup&&decide (cf.m≤loc.length) then
    match mapO (renV (pos ids)) vs with
    | some vs'=>match vD0 ids loc with
     | some os=>some (.ret vs' os)
     | none=>none
    | none=>none
   else none
  | none=>none
 | none=>none
def nF0 (cf:Cf)(x:Value)(loc1:List O):Option Out:=
 let loc:=loc1.map (dR0 (lk loc1))
 let ids:=kept cf.m [] loc
 if decide ids.Nodup&&decide (cf.m≤loc.length) then
  match vD0 ids loc with
  | some os=>some (.pan x os)
  | none=>none
 else none

def mJ1 : Op→Bool
 | .assign _=>true
 | _=>false
def dO1 : Operand→List Nat
 | .tmp t=>[t]
 | _=>[]
def zU0 (w e:List Nat):List Oper→List Nat × List Nat
 | []=>(w,e)
 | o::l=>zU0 (o.dst.toList++w) (((o.op.operands.toList.flatMap dO1).filter fun t=> !w.contains t)++e) l
def pM0 (w e:List Nat):Code→List Nat × List Nat
 | .region _ ops _=>zU0 w e ops.toList
 | .seq a b=>pM0 (pM0 w e a).1 (pM0 w e a).2 b
 | .cond x a b=>((pM0 w ((dO1 x).filter (fun t=> !w.contains t)++e) a).1++(pM0 w (pM0 w ((dO1 x).filter (fun t=> !w.contains t)++e) a).2 b).1,(pM0 w (pM0 w ((dO1 x).filter (fun t=> !w.contains t)++e) a).2 b).2)
 | .block _ a=>pM0 w e a
 | .loop a=>pM0 w e a
 | _=>(w,e)
def yQ0 (r:Nat→Option Nat)(p:Nat × V):Option (Nat × V):=match renV r p.2 with | some v=>some (p.1,v) | none=>none
def sW1 (m:Nat)(forget:List Nat)(env0:Env)(loc1:List O):Option (Env × List O):=
 let look:=lk loc1
 let env:=(env0.filter fun p=> !forget.contains p.1).map fun p=>(p.1,zS0 look p.2)
 let loc:=loc1.map (dR0 look)
 let ids:=kept m (env.flatMap fun p=>iZ0 p.2) loc
 if decide ids.Nodup&&decide (m≤loc.length) then
  match mapO (yQ0 (pos ids)) env with
  | some env'=>match vD0 ids loc with
   | some os=>some (env',os)
   | none=>none
  | none=>none
 else none

def asgOps (ops:List Oper):List Nat:=ops.filterMap fun o=>if mJ1 o.op then o.dst else none
def asgs : Code→List Nat
 | .region _ ops _=>asgOps ops.toList
 | .seq a b=>asgs a++asgs b
 | .cond _ a b=>asgs a++asgs b
 | .block _ a=>asgs a
 | .loop a=>asgs a
 | _=>[]
def padE (l:List Nat)(env:Env):Env:=
 match l with
 | []=>env
 | t::r=>padE r (if env.any (fun p=>p.1==t) then env else pt env t (.c .any))
def uni (a b:List Nat):List Nat:=a++b.filter fun t=> !a.contains t
def uP1 (all:Array Oper)(o:Oper):List Nat:=
 (o.op.operands.toList.flatMap dO1)++(match o.guard with | some (j,_)=>((all[j]?).bind (·.dst)).toList | none=>[])
def yH0 (all:Array Oper):List Oper→List Nat→List Nat
 | [],L=>L
 | o::l,L=>uni (uP1 all o) ((yH0 all l L).filter fun t=> !o.dst.toList.contains t)
def rG0 (res:List Nat):Code→List (Nat × List Nat)→List Nat→List Nat
 | .ret,_,_=>res
 | .seq a b,ex,L=>rG0 res a ex (rG0 res b ex L)
 | .cond x a b,ex,L=>uni (dO1 x) (uni (rG0 res a ex L) (rG0 res b ex L))
 | .block id a,ex,L=>rG0 res a ((id,L)::ex) L
 | .loop a,ex,_=>rG0 res a ex []
 | .exit id,ex,_=>(ex.lookup id).getD []
 | .region _ ops _,_,L=>yH0 ops ops.toList L
 | _,_,L=>L
def oK0 (res:List Nat):List It→List Nat × List (Nat × List Nat)
 | []=>(res,[])
 | .code c::K=>(rG0 res c (oK0 res K).2 (oK0 res K).1,(oK0 res K).2)
 | .inBlock id::K=>((oK0 res K).1,(id,(oK0 res K).1)::(oK0 res K).2)
 | .inLoop c::K=>(rG0 res c (oK0 res K).2 [],(oK0 res K).2)
 | .ops all l::K=>(yH0 all l (oK0 res K).1,(oK0 res K).2)
def resT : ResultVar→Nat
 | .tmp t=>t
 | .cell a _=>a
def gX1 (cf:Cf)(c:Code)(K:List It)(env:Env)(loc:List O):Option (Env × List O):=
 let live:=rG0 (cf.res.map resT) c (oK0 (cf.res.map resT) K).2 []
 let e:=padE ((asgs c).filter fun t=>live.contains t) env
 sW1 cf.m ((e.map (·.1)).filter fun t=> !live.contains t) e loc

def iH0 (n:Nat):List O:=List.replicate n .hole
def bD0 (P:Program)(rec:Rec)(nt:Nat)(all:Array Oper)(base:Nat):List Oper→Nat→Env→List O→Option (Env × List O × List (List Nat × List Nat))
 | [],_,env,loc=>some (env,loc,[])
 | o::l,i,env,loc=>
  if hC0 nt o.dst then
   match wantedA all env o.guard with
   | some true=>match opA P rec (lk loc) (base+i) (ev env) o.op with
    | some { res:= .val v,upd,rd }=>if upd.all (fun p=>decide (p.1≤base+i)) then
      match bD0 P rec nt all base l (i+1) (putO env o.dst v) (updO loc upd) with
      | some (e,lo,fps)=>some (e,lo,(rd,(base+i)::upd.map (·.1))::fps)
      | none=>none
     else none
    | _=>none
   | some false=>match bD0 P rec nt all base l (i+1) (putO env o.dst (.tup [])) loc with
    | some (e,lo,fps)=>some (e,lo,([],[base+i])::fps)
    | none=>none
   | none=>none
  else none
def qS0 (a b:List Nat):Bool:=a.all fun x=> !b.contains x
def seen (all:Array Oper)(o:Oper):List Nat:=
 (o.op.operands.toList.filterMap fun | .tmp t=>some t | _=>none)++(match o.guard with | some (j,_)=>((all[j]?).bind (·.dst)).toList | none=>[])
structure Foot where
 seen:List Nat
 dst:List Nat
 rd:List Nat
 wr:List Nat
def foot (all:Array Oper)(o:Oper)(fp:List Nat × List Nat):Foot:=⟨seen all o,o.dst.toList,fp.1,fp.2⟩
def jQ0 (x y:Foot):Bool:=
 qS0 x.dst y.seen&&qS0 y.dst x.seen&&qS0 x.dst y.dst&&qS0 x.wr y.rd&&qS0 y.wr x.rd&&qS0 x.wr y.wr
def mask (acc:List Nat)(es:List Edge):Nat:=
 match es with
 | []=>0
 | e::r=>if Region.binds .any e then 2^e.on ||| acc.getD e.on 0 ||| mask acc r else mask acc r
def befs (acc:List Nat):List Oper→List Nat
 | []=>acc
 | o::l=>befs (acc++[mask acc o.after.toList]) l
def zH0 : Nat→List Oper→Bool
 | _,[]=>true
 | i,o::l=>o.after.toList.all (fun e=> !Region.binds .any e||decide (e.on<i))&&zH0 (i+1) l
def gQ1 (b:List Nat)(xs:List Foot):Bool:=
 (List.range xs.length).all fun j=>(List.range j).all fun i=>(b.getD j 0).testBit i||(match xs[i]?,xs[j]? with | some x,some y=>jQ0 x y | _,_=>true)
def feet (all:Array Oper):List Oper→List (List Nat × List Nat)→List Foot
 | o::l,fp::r=>foot all o fp::feet all l r
 | _,_=>[]
def nZ0 (all:Array Oper)(fps:List (List Nat × List Nat)):Bool:=
 zH0 0 all.toList&&gQ1 (befs [] all.toList) (feet all all.toList fps)

def jZ0 (id:Nat):List It→Option (List It)
 | .inBlock id'::k=>if id'==id then some k else jZ0 id k
 | _::k=>jZ0 id k
 | []=>none

def gC0 (rec:Rec)(cf:Cf)(all:Array Oper)(dst:Option Nat)(l:List Oper)(K:List It)(env:Env)(loc:List O)(r:Option Eff):Option Out:=
 match r with
 | some { res:= .val v,upd,.. }=>rec (.k cf (.ops all l::K) (putO env dst v) (updO loc upd))
 | some { res:= .pan x,upd,.. }=>nF0 cf x (updO loc upd)
 | none=>none
def dE0 (rec:Rec)(cf:Cf)(all:Array Oper)(K:List It)(r:Option (Env × List O × List (List Nat × List Nat))):Option Out:=
 match r with
 | some (env,loc,fps)=>if nZ0 all fps then rec (.k cf K env loc) else none
 | none=>none
def nM0 (rec:Rec)(cf:Cf)(K:List It)(r:Option (Env × List O)):Option Out:=
 match r with
 | some (env,loc)=>rec (.k cf K env loc)
 | none=>none
def pK0 (P:Program)(rec:Rec)(cf:Cf)(c:Code)(K:List It)(env:Env)(loc:List O):Option Out:=
 match c with
 | .skip=>rec (.k cf K env loc)
 | .ret=>kA0 P cf env loc
 | .seq a b=>rec (.k cf (.code a :: .code b::K) env loc)
 | .cond x a b=>match ev env x with
  | .c (.d (.v (.bool t)))=>rec (.k cf (.code (if t then a else b)::K) env loc)
  | _=>none
 | .block id a=>rec (.k cf (.code a :: .inBlock id::K) env loc)
 | .loop a=>rec (.k cf (.inLoop a::K) env loc)
 | .exit id=>match jZ0 id K with
  | some K'=>rec (.k cf K' env loc)
  | none=>none
 | .region _ ops false=>rec (.k cf (.ops ops ops.toList::K) env loc)
 | .region _ ops true=>match bD0 P rec cf.nt ops loc.length ops.toList 0 env (loc++iH0 ops.size) with
  | some r=>dE0 rec cf ops K (some r)
  | none=>none
 | _=>none
def hW0 (P:Program)(ext:Ext)(rec:Rec):Entry→Option Out
 | .call f args objs=>match ext f with
  | some g=>g args objs
  | none=>match P.funcs[f]? with
   | some fn=>match fn.body with
    | some c=>if args.length≤fn.ntmps then
      rec (.k ⟨fn.ntmps,objs.length,fn.results.toList,retF f⟩ [.code c] (args.zipIdx.map fun(v,i)=>(i,v)) objs)
     else none
    | none=>none
   | none=>none
 | .k cf todo env loc=>match todo with
  | []=>kA0 P cf env loc
  | .code c::K=>pK0 P rec cf c K env loc
  | .inBlock _::K=>rec (.k cf K env loc)
  | .inLoop c::K=>nM0 rec cf (.code c :: .inLoop c::K) (gX1 cf c K env loc)
  | .ops _ []::K=>rec (.k cf K env loc)
  | .ops all (o::l)::K=>
   if hC0 cf.nt o.dst then
    match wantedA all env o.guard with
    | some true=>gC0 rec cf all o.dst l K env loc (opA P rec (lk loc) loc.length (ev env) o.op)
    | some false=>rec (.k cf (.ops all l::K) (putO env o.dst (.tup [])) loc)
    | none=>none
   else none

def runN (P:Program)(ext:Ext):Nat→Rec
 | 0,_=>none
 | n+1,e=>hW0 P ext (runN P ext n) e
open Classical in
noncomputable def run (P:Program)(ext:Ext)(e:Entry):Option Out:=
 if h:∃ o n,runN P ext n e=some o then some h.choose else none
end
section
open Go

def Cont {γ:Type} (g:Rec→Option γ):Prop:=
 ∀ rec o,g rec=some o→∃ l:List (Entry × Out),(∀ p∈l,rec p.1=some p.2)∧∀ rec':Rec,(∀ p∈l,rec' p.1=some p.2)→g rec'=some o
theorem aY0 {γ:Type} (x:Option γ):Cont (fun _=>x):=fun _ _ h=>⟨[],by simp,fun _ _=>h⟩
theorem dP0 (e:Entry):Cont (fun rec=>rec e):=fun rec o h=>⟨[(e,o)],by simpa using h,fun rec' h'=>by simpa using h'⟩
theorem qX0 {γ δ:Type}{g:Rec→Option γ} (h:Option γ→Option δ)(hn:h none=none)(hg:Cont g):Cont (fun rec=>h (g rec)):=by
 intro rec o ho
 dsimp only at ho
 cases hr:g rec with
 | none=>rw[hr,hn]at ho;cases ho
 | some x=>
  obtain⟨l,h1,h2⟩:=hg rec x hr
  exact⟨l,h1,fun rec' h'=>by dsimp only;rw[h2 rec' h',← hr];exact ho⟩
theorem uK0 (f:FuncId)(args:List V)(objs:List O):Cont (fun rec=>dX0 rec f args objs):=by
 unfold dX0
 split
 ·split
  ·exact qX0 (eW1 objs) rfl (fun rec o h=>⟨[(_,o)],by simpa using h,fun rec' h'=>h' _ List.mem_cons_self⟩)
  ·exact aY0 _
 ·exact fun rec o h=>⟨[(_,o)],by simpa using h,fun rec' h'=>h' _ List.mem_cons_self⟩
theorem cC1 (look:Look)(slot:Nat)(f:FuncId)(args:List V):Cont (fun rec=>dD0 rec look slot f args):=by
 unfold dD0
 refine qX0 (eR0 look _) rfl ?_
 cases cB0 f look args with
 | none=>exact aY0 _
 | some p=>exact qX0 (bB0 p.1 p.2.1 slot) rfl (uK0 f p.2.2.1 p.2.2.2)
theorem zT0 (P:Program)(look:Look)(slot:Nat)(ρ:Operand→V)(o:Op):Cont (fun rec=>opA P rec look slot ρ o):=by
 cases o with
 | call c=>
  show Cont (fun rec=>callOpA P rec look slot ρ c)
  unfold callOpA
  cases c.callee with
  | builtin b=>exact aY0 _
  | invoke _ _=>exact aY0 _
  | value f=>
   dsimp only
   unfold callV
   cases target (ρ f) (c.args.toList.map ρ) with
   | none=>exact aY0 _
   | some p=>exact cC1 _ _ _ _
 | _=>exact aY0 _
theorem uJ0 (P:Program)(cf:Cf)(all:Array Oper)(dst:Option Nat)(l:List Oper)(K:List It)(env:Env)(loc:List O)(o:Op) :
  Cont (fun rec=>gC0 rec cf all dst l K env loc (opA P rec (lk loc) loc.length (ev env) o)):=by
 intro rec out h
 dsimp only at h
 cases hr:opA P rec (lk loc) loc.length (ev env) o with
 | none=>simp[hr,gC0]at h
 | some e=>
  obtain⟨l1,h1,h2⟩:=zT0 P (lk loc) loc.length (ev env) o rec e hr
  rw[hr]at h
  obtain⟨res,upd,rd⟩:=e
  cases res with
  | pan x=>exact⟨l1,h1,fun rec' h'=>by have e1:=h2 rec' h';dsimp only at e1 ⊢;rw[e1];exact h⟩
  | val v=>
   refine⟨(.k cf (.ops all l::K) (putO env dst v) (updO loc upd),out)::l1,?_,fun rec' h'=> ?_⟩
   ·intro p hp
    rcases List.mem_cons.1 hp with rfl | hp
    ·exact h
    ·exact h1 p hp
   ·have e1:=h2 rec' (fun p hp=>h' p (List.mem_cons_of_mem _ hp))
    dsimp only at e1 ⊢
    rw[e1]
    exact h' _ (List.mem_cons_self)
theorem jH0 (P:Program)(nt:Nat)(all:Array Oper)(base:Nat):∀ (l:List Oper)(i:Nat)(env:Env)(loc:List O),Cont (fun rec=>bD0 P rec nt all base l i env loc)
 | [],_,_,_=>aY0 _
 | o::l,i,env,loc=>by
  intro rec out h
  simp only[bD0]at h
  by_cases hd:hC0 nt o.dst=true
  case neg=>simp[hd]at h
  simp only[hd,if_true]at h
  cases hw:wantedA all env o.guard with
  | none=>simp[hw]at h
  | some t=>
   cases t with
   | false=>
    simp only[hw]at h
    cases hr:bD0 P rec nt all base l (i+1) (putO env o.dst (.tup [])) loc with
    | none=>simp[hr]at h
    | some x=>
     obtain⟨l1,h1,h2⟩:=jH0 P nt all base l (i+1) _ _ rec x hr
     refine⟨l1,h1,fun rec' h'=> ?_⟩
     simp only[bD0,hd,if_true,hw]
     have:=h2 rec' h'
     dsimp only at this
     rw[this];rw[hr]at h;exact h
   | true=>
    simp only[hw]at h
    cases hr:opA P rec (lk loc) (base+i) (ev env) o.op with
    | none=>simp[hr]at h
    | some e=>
     obtain⟨l1,h1,h2⟩:=zT0 P (lk loc) (base+i) (ev env) o.op rec e hr
     rw[hr]at h
     obtain⟨res,upd,rd⟩:=e
     cases res with
     | pan x=>simp at h
     | val v=>
      dsimp only at h
      by_cases hu:(upd.all fun p=>decide (p.1≤base+i))=true
      case neg=>simp[hu]at h
      simp only[hu,if_true]at h
      cases hq:bD0 P rec nt all base l (i+1) (putO env o.dst v) (updO loc upd) with
      | none=>simp[hq]at h
      | some x=>
       obtain⟨l3,h3,h4⟩:=jH0 P nt all base l (i+1) _ _ rec x hq
       refine⟨l1++l3,?_,fun rec' h'=> ?_⟩
       ·intro p hp
        rcases List.mem_append.1 hp with hp | hp
        ·exact h1 p hp
        ·exact h3 p hp
       ·have e1:=h2 rec' (fun p hp=>h' p (List.mem_append_left _ hp))
        have e2:=h4 rec' (fun p hp=>h' p (List.mem_append_right _ hp))
        dsimp only at e1 e2
        simp only[bD0,hd,if_true,hw,e1,hu,e2]
        rw[hq]at h;exact h
theorem pL0 (P:Program)(cf:Cf)(ops:Array Oper)(K:List It)(env:Env)(loc:List O) :
  Cont (fun rec=>dE0 rec cf ops K (bD0 P rec cf.nt ops loc.length ops.toList 0 env (loc++iH0 ops.size))):=by
 intro rec out h
 dsimp only at h
 cases hr:bD0 P rec cf.nt ops loc.length ops.toList 0 env (loc++iH0 ops.size) with
 | none=>simp[hr,dE0]at h
 | some x=>
  obtain⟨l1,h1,h2⟩:=jH0 P cf.nt ops loc.length ops.toList 0 env (loc++iH0 ops.size) rec x hr
  obtain⟨e,lo,fps⟩:=x
  rw[hr]at h
  simp only[dE0]at h
  by_cases hd:nZ0 ops fps=true
  case neg=>simp[hd]at h
  simp only[hd,if_true]at h
  refine⟨(.k cf K e lo,out)::l1,?_,fun rec' h'=> ?_⟩
  ·intro p hp
   rcases List.mem_cons.1 hp with rfl | hp
   ·exact h
   ·exact h1 p hp
  ·have e1:=h2 rec' (fun p hp=>h' p (List.mem_cons_of_mem _ hp))
   dsimp only at e1 ⊢
   rw[e1]
   simp only[dE0,hd,if_true]
   exact h' _ (List.mem_cons_self)
theorem gA1 (P:Program)(cf:Cf)(ops:Array Oper)(K:List It)(env:Env)(loc:List O)(n:Nat) :
  Cont (fun rec=>pK0 P rec cf (.region n ops true) K env loc):=by
 intro rec out h
 dsimp only[pK0]at h
 cases hr:bD0 P rec cf.nt ops loc.length ops.toList 0 env (loc++iH0 ops.size) with
 | some x=>
  have h':dE0 rec cf ops K (bD0 P rec cf.nt ops loc.length ops.toList 0 env (loc++iH0 ops.size))=some out:=by
   rw[hr]at h ⊢;exact h
  obtain⟨l1,h1,h2⟩:=jH0 P cf.nt ops loc.length ops.toList 0 env (loc++iH0 ops.size) rec x hr
  obtain⟨l3,h3,h4⟩:=pL0 P cf ops K env loc rec out h'
  refine⟨l1++l3,?_,fun rec' h'=> ?_⟩
  ·intro p hp
   rcases List.mem_append.1 hp with hp | hp
   ·exact h1 p hp
   ·exact h3 p hp
  ·have e1:=h2 rec' (fun p hp=>h' p (List.mem_append_left _ hp))
   have e2:=h4 rec' (fun p hp=>h' p (List.mem_append_right _ hp))
   dsimp only at e1 e2
   dsimp only[pK0]
   rw[e1]at e2 ⊢
   exact e2
 | none=>
  rw[hr]at h
  dsimp only at h
  cases h
theorem cD1 (P:Program)(cf:Cf)(c:Code)(K:List It)(env:Env)(loc:List O):Cont (fun rec=>pK0 P rec cf c K env loc):=by
 cases c with
 | region n ops d=>
  cases d with
  | false=>exact dP0 _
  | true=>exact gA1 P cf ops K env loc n
 | cond x a b=>
  simp only[pK0]
  split
  ·exact dP0 _
  ·exact aY0 _
 | exit id=>
  simp only[pK0]
  split
  ·exact dP0 _
  ·exact aY0 _
 | skip=>exact dP0 _
 | seq _ _=>exact dP0 _
 | block _ _=>exact dP0 _
 | loop _=>exact dP0 _
 | _=>exact aY0 _
theorem lV0 (P:Program)(ext:Ext)(e:Entry):Cont (fun rec=>hW0 P ext rec e):=by
 cases e with
 | call f args objs=>
  simp only[hW0]
  split
  ·exact aY0 _
  ·split
   ·split
    ·split
     ·exact dP0 _
     ·exact aY0 _
    ·exact aY0 _
   ·exact aY0 _
 | k cf todo env loc=>
  cases todo with
  | nil=>exact aY0 _
  | cons x K=>
   cases x with
   | code c=>exact cD1 P cf c K env loc
   | inBlock _=>exact dP0 _
   | inLoop c=>
    simp only[hW0]
    cases gX1 cf c K env loc with
    | none=>exact aY0 _
    | some p=>exact dP0 _
   | ops all l=>
    cases l with
    | nil=>exact dP0 _
    | cons o l=>
     simp only[hW0]
     split
     ·split
      ·exact uJ0 P cf all o.dst l K env loc o.op
      ·exact dP0 _
      ·exact aY0 _
     ·exact aY0 _
theorem vQ0 (P:Program)(ext:Ext):∀ (n:Nat)(e:Entry)(o:Out),runN P ext n e=some o→runN P ext (n+1) e=some o
 | 0,_,_,h=>by simp[runN]at h
 | n+1,e,o,h=>by
  obtain⟨l,h1,h2⟩:=lV0 P ext e (runN P ext n) o h
  exact h2 (runN P ext (n+1)) (fun p hp=>vQ0 P ext n p.1 p.2 (h1 p hp))
theorem sA0 (P:Program)(ext:Ext){n m:Nat} (h:n≤m){e:Entry}{o:Out} (hr:runN P ext n e=some o):runN P ext m e=some o:=by
 induction h with
 | refl=>exact hr
 | step _ ih=>exact vQ0 P ext _ e o ih
theorem cJ0 (P:Program)(ext:Ext)(e:Entry)(o:Out):run P ext e=some o↔∃ n,runN P ext n e=some o:=by
 unfold run
 constructor
 ·intro h
  split at h
  ·rename_i hx
   obtain⟨n,hn⟩:=hx.choose_spec
   exact⟨n,by rw[hn];exact h⟩
  ·simp at h
 ·rintro⟨n,hn⟩
  have hx:∃ o n,runN P ext n e=some o:=⟨o,n,hn⟩
  rw[dif_pos hx]
  obtain⟨m,hm⟩:=hx.choose_spec
  have a:=sA0 P ext (Nat.le_max_left n m) hn
  have b:=sA0 P ext (Nat.le_max_right n m) hm
  exact b.symm.trans a
theorem oY1 (P:Program)(ext:Ext):∀ l:List (Entry × Out),(∀ p∈l,run P ext p.1=some p.2)→∃ n,∀ p∈l,runN P ext n p.1=some p.2
 | [],_=>⟨0,by simp⟩
 | p::l,h=>by
  obtain⟨n,hn⟩:=oY1 P ext l (fun q hq=>h q (List.mem_cons_of_mem _ hq))
  obtain⟨m,hm⟩:=(cJ0 P ext p.1 p.2).1 (h p List.mem_cons_self)
  refine⟨max n m,fun q hq=> ?_⟩
  rcases List.mem_cons.1 hq with rfl | hq
  ·exact sA0 P ext (Nat.le_max_right n m) hm
  ·exact sA0 P ext (Nat.le_max_left n m) (hn q hq)
theorem eA0 (P:Program)(ext:Ext)(e:Entry):run P ext e=hW0 P ext (run P ext) e:=by
 have key:∀ o,run P ext e=some o↔hW0 P ext (run P ext) e=some o:=by
  intro o
  constructor
  ·intro h
   obtain⟨n,hn⟩:=(cJ0 P ext e o).1 h
   cases n with
   | zero=>simp[runN]at hn
   | succ n=>
    obtain⟨l,h1,h2⟩:=lV0 P ext e (runN P ext n) o hn
    exact h2 _ (fun p hp=>(cJ0 P ext p.1 p.2).2 ⟨n,h1 p hp⟩)
  ·intro h
   obtain⟨l,h1,h2⟩:=lV0 P ext e (run P ext) o h
   obtain⟨n,hn⟩:=oY1 P ext l h1
   exact(cJ0 P ext e o).2 ⟨n+1,h2 _ hn⟩
 cases h:hW0 P ext (run P ext) e with
 | some o=>exact(key o).2 h
 | none=>
  cases hr:run P ext e with
  | none=>rfl
  | some o=>rw[(key o).1 hr]at h;cases h
end
section
open Go

inductive All2 {α β:Type} (R:α→β→Prop):List α→List β→Prop
 | nil:All2 R [] []
 | cons {a b l m}:R a b→All2 R l m→All2 R (a::l) (b::m)
section all2
variable {α β:Type}{R S:α→β→Prop}
theorem All2.mono (h:∀ a b,R a b→S a b){l:List α}{m:List β} (hl:All2 R l m):All2 S l m:=by
 induction hl with
 | nil=>exact .nil
 | cons a _ ih=>exact .cons (h _ _ a) ih
theorem All2.length {l:List α}{m:List β} (hl:All2 R l m):l.length=m.length:=by
 induction hl with
 | nil=>rfl
 | cons _ _ ih=>simp[ih]
theorem All2.get {l:List α}{m:List β} (hl:All2 R l m):∀ {i:Nat}{a:α}{b:β},l[i]? = some a→m[i]? = some b→R a b:=by
 induction hl with
 | nil=>intro i a b h;simp at h
 | cons r _ ih=>
  intro i a b h1 h2
  cases i with
  | zero=>simp at h1 h2;subst h1 h2;exact r
  | succ i=>exact ih (by simpa using h1) (by simpa using h2)
theorem All2.of_get : ∀ {l:List α}{m:List β},l.length=m.length→(∀ (i:Nat)(a:α)(b:β),l[i]? = some a→m[i]? = some b→R a b)→All2 R l m
 | [],[],_,_=> .nil
 | a::l,b::m,hl,h=> .cons (h 0 a b (by simp) (by simp)) (All2.of_get (by simpa using hl) (fun i x y h1 h2=>h (i+1) x y (by simpa using h1) (by simpa using h2)))
 | [],_::_,hl,_=>by simp at hl
 | _::_,[],hl,_=>by simp at hl
theorem All2.append {l l':List α}{m m':List β} (h:All2 R l m)(h':All2 R l' m'):All2 R (l++l') (m++m'):=by
 induction h with
 | nil=>exact h'
 | cons r _ ih=>exact .cons r ih
theorem All2.take {l:List α}{m:List β} (h:All2 R l m)(n:Nat):All2 R (l.take n) (m.take n):=by
 induction h generalizing n with
 | nil=>simp;exact .nil
 | cons r _ ih=>cases n with
  | zero=>exact .nil
  | succ n=>exact .cons r (ih n)
theorem All2.drop {l:List α}{m:List β} (h:All2 R l m)(n:Nat):All2 R (l.drop n) (m.drop n):=by
 induction h generalizing n with
 | nil=>simp;exact .nil
 | cons r t ih=>cases n with
  | zero=>exact .cons r t
  | succ n=>exact ih n
theorem All2.get_right {l:List α}{m:List β} (h:All2 R l m){i:Nat}{b:β} (hb:m[i]? = some b):∃ a,l[i]? = some a∧R a b:=by
 have hl:=h.length
 have hi:i<m.length:=by
  rcases Nat.lt_or_ge i m.length with x | x
  ·exact x
  ·simp[List.getElem?_eq_none x]at hb
 have:i<l.length:=by omega
 exact⟨l[i],by simp[this],h.get (by simp[this]) hb⟩
theorem All2.get_left {l:List α}{m:List β} (h:All2 R l m){i:Nat}{a:α} (ha:l[i]? = some a):∃ b,m[i]? = some b∧R a b:=by
 have hl:=h.length
 have hi:i<l.length:=by
  rcases Nat.lt_or_ge i l.length with x | x
  ·exact x
  ·simp[List.getElem?_eq_none x]at ha
 have:i<m.length:=by omega
 exact⟨m[i],by simp[this],h.get ha (by simp[this])⟩
theorem All2.map_map {γ δ:Type}{T:γ→δ→Prop}{f:α→γ}{g:β→δ} (h:∀ a b,R a b→T (f a) (g b)){l:List α}{m:List β} (hl:All2 R l m):All2 T (l.map f) (m.map g):=by
 induction hl with
 | nil=>exact .nil
 | cons r _ ih=>exact .cons (h _ _ r) ih
end all2

class Guest where
 G:Nat→Prop
variable [Guest]
def Ng (N:Nat→Prop):Bool→Nat→Prop
 | true,b=>Guest.G b
 | false,b=>N b
inductive RepD (w:World)(N:Nat→Prop):Value→D→Prop
 | v {x:Value}:cellB x=true→RepD w N x (.v x)
 | e (a:Option Addr) (cap k:Nat) (g:Bool):RepD w N (.slice a 0 cap) (.s k [] g)
 | s {b o cap k:Nat}{els:List (List D)}{g:Bool} (c:Nat→Nat→Value):Ng N g b→els.length≤cap→(∀ l∈els,l.length=k) →
   (∀ i l j x,els[i]? = some l→l[j]? = some x→w.cell? ⟨b,o+i*k+j,none⟩=some (c i j)) →
   (∀ i l j x,els[i]? = some l→l[j]? = some x→RepD w N (c i j) x)→RepD w N (.slice (some ⟨b,o,none⟩) els.length cap) (.s k els g)
 | i {t:TypeId}{a:Array Value}{xs:List D}:a.size=xs.length→(∀ (j:Nat) v x,a[j]? = some v→xs[j]? = some x→RepD w N v x)→RepD w N (.iface t (.agg a)) (.i t xs)
def dP1 (w w':World):Prop:=∀ b,Guest.G b→w'.heap[b]? = w.heap[b]?
theorem Ng.mono {w w':World}{N N':Nat→Prop} (h:∀ b,N b→N' b∧w'.heap[b]? = w.heap[b]?)(hG:dP1 w w'){g:Bool}{b:Nat} (hb:Ng N g b):Ng N' g b∧w'.heap[b]? = w.heap[b]? := by
 cases g with
 | true=>exact⟨hb,hG b hb⟩
 | false=>exact⟨(h b hb).1,(h b hb).2⟩
theorem RepD.mono {w w':World}{N N':Nat→Prop} (h:(∀ b,N b→N' b∧w'.heap[b]? = w.heap[b]?)∧dP1 w w'){v:Value}{x:D} (hr:RepD w N v x):RepD w' N' v x:=by
 induction hr with
 | v hx=>exact .v hx
 | e a cap k g=>exact .e a cap k g
 | @s b o cap k els g c hb hc hk hcell _ ih=>
  refine .s c (Ng.mono h.1 h.2 hb).1 hc hk (fun i l j x h1 h2=> ?_) ih
  rw[World.cell?_of_block (w:=w) (Ng.mono h.1 h.2 hb).2]
  exact hcell i l j x h1 h2
 | i hn _ ih=>exact .i hn ih
theorem RepD.cell {w:World}{N:Nat→Prop}{v:Value}{x:D} (hr:RepD w N v x):cellB v=true:=by
 cases hr <;> first | assumption | rfl

inductive Sh where
 | box
 | arr (k n:Nat)
 | stk (k n:Nat)
 | raw
 | gone
def arrS : Sh→Bool
 | .arr _ _=>true
 | .stk _ _=>true
 | _=>false
def shO : O→Option Sh
 | .box _=>some .box
 | .arr k els=>some (.arr k els.length)
 | .raw _=>some .raw
 | .stk k els _ _=>some (.stk k els.length)
 | .gone=>some .gone
 | .hole=>none
def shL (look:Look):Nat→Option Sh:=fun id=>(look id).bind shO
def bs (β:Int→Nat)(id:Nat):Nat:=β (Int.negSucc id)
def iJ0 (b:Nat):Value:= .pointer (some ⟨b,0,none⟩)
def rawV (m:Bool)(b:Nat):Value:=if m then .map (some b) else .pointer (some ⟨b,0,none⟩)
theorem iF1 (m:Bool)(b:Nat):cellB (rawV m b)=true:=by cases m <;> rfl
def RC (w:World)(N:Nat→Prop)(β:Int→Nat)(sh:Nat→Option Sh)(v:Value):C→Prop
 | .d x=>RepD w N v x
 | .ptr id off=>sh id=some .box∧v = .pointer (some ⟨β id,off,none⟩)
 | .elt k els i off g=>∃ b o cap,RepD w N (.slice (some ⟨b,o,none⟩) els.length cap) (.s k els g)∧i<els.length∧v = .pointer (some ⟨b,o+i*k+off,none⟩)
 | .own id=>(∃ k n cap,sh id=some (.arr k n)∧v = .slice (some ⟨β id,bs β id,none⟩) n cap∧n≤cap∧∃ e sz,w.shape? (β id)=some (e,sz)∧bs β id+cap*k≤sz)∨(sh id=some .gone∧cellB v=true)∨(∃ k n cap,sh id=some (.stk k n)∧v = .slice (some ⟨β id,bs β id,none⟩) n cap∧n≤cap∧∃ e sz,w.shape? (β id)=some (e,sz)∧bs β id+cap*k≤sz)
 | .ap id i off=>(∃ k n,sh id=some (.arr k n)∧v = .pointer (some ⟨β id,bs β id+(i*k+off),none⟩))∨(sh id=some .gone∧cellB v=true)
 | .fn f a b=>v = .func (.func f) (a.map fun id:Nat=>iJ0 (β id)).toArray (b.map fun id:Nat=>iJ0 (β id)).toArray∧∀ id,id∈a∨id∈b→sh id=some .box
 | .rf m id=>sh id=some .raw∧v=rawV m (β id)
 | .any=>True
theorem RC.cell {w:World}{N:Nat→Prop}{β:Int→Nat}{sh:Nat→Option Sh}{v:Value}{c:C} (h:RC w N β sh v c)(hc:okC c=true):cellB v=true:=by
 cases c with
 | d x=>exact RepD.cell h
 | ptr id off=>rw[h.2];rfl
 | elt k els i off g=>obtain⟨b,o,cap,_,_,rfl⟩:=h;rfl
 | own id=>rcases h with⟨k,n,cap,_,rfl,_⟩ | ⟨_,h⟩ | ⟨k,n,cap,_,rfl,_⟩;rfl;exact h;rfl
 | ap id i off=>rcases h with⟨k,n,_,rfl⟩ | ⟨_,h⟩;rfl;exact h
 | fn f a b=>rw[h.1];rfl
 | rf m id=>rw[h.2];exact iF1 m _
 | any=>cases hc
def Ids (m:Nat→Prop)(w:World)(β:Int→Nat)(sh:Nat→Option Sh)(w':World)(β':Int→Nat)(sh':Nat→Option Sh):Prop:=
 ∀ id s,m id→sh id=some s→(β' id=β id∧sh' id=some s∧w'.shape? (β id)=w.shape? (β id)∧bs β' id=bs β id)∨(arrS s=true∧sh' id=some .gone)∨(s = .gone∧sh' id=some .gone)
def Keep (w:World)(N:Nat→Prop)(w':World)(N':Nat→Prop):Prop:=(∀ b,N b→N' b∧w'.heap[b]? = w.heap[b]?)∧dP1 w w'
theorem RC.mono {w w':World}{N N':Nat→Prop}{β β':Int→Nat}{sh sh':Nat→Option Sh} (hk:Keep w N w' N')(hi:Ids (fun _=>True) w β sh w' β' sh')
  {v:Value}{c:C} (h:RC w N β sh v c):RC w' N' β' sh' v c:=by
 cases c with
 | d x=>exact RepD.mono hk h
 | ptr id off=>
  obtain⟨h1,rfl⟩:=h
  rcases hi id _ trivial h1 with⟨a,b,_⟩ | ⟨e,_⟩ | ⟨e,_⟩
  ·exact⟨b,by rw[a]⟩
  ·cases e
  ·cases e
 | elt k els i off g=>obtain⟨b,o,cap,h1,h2,rfl⟩:=h;exact⟨b,o,cap,RepD.mono hk h1,h2,rfl⟩
 | own id=>
  rcases h with⟨k,n,cap,h1,rfl,h2,e,sz,h3,h4⟩ | ⟨h1,h2⟩ | ⟨k,n,cap,h1,rfl,h2,e,sz,h3,h4⟩
  ·rcases hi id _ trivial h1 with⟨a,b,c,d⟩ | ⟨_,g⟩ | ⟨e,_⟩
   ·exact .inl ⟨k,n,cap,b,by rw[a,d],h2,e,sz,by rw[a,c];exact h3,by rw[d];exact h4⟩
   ·exact .inr (.inl ⟨g,rfl⟩)
   ·cases e
  ·rcases hi id _ trivial h1 with⟨a,b,c⟩ | ⟨e,_⟩ | ⟨_,g⟩
   ·exact .inr (.inl ⟨b,h2⟩)
   ·cases e
   ·exact .inr (.inl ⟨g,h2⟩)
  ·rcases hi id _ trivial h1 with⟨a,b,c,d⟩ | ⟨_,g⟩ | ⟨e,_⟩
   ·exact .inr (.inr ⟨k,n,cap,b,by rw[a,d],h2,e,sz,by rw[a,c];exact h3,by rw[d];exact h4⟩)
   ·exact .inr (.inl ⟨g,rfl⟩)
   ·cases e
 | ap id i off=>
  rcases h with⟨k,n,h1,rfl⟩ | ⟨h1,h2⟩
  ·rcases hi id _ trivial h1 with⟨a,b,_,d⟩ | ⟨_,g⟩ | ⟨e,_⟩
   ·exact .inl ⟨k,n,b,by rw[a,d]⟩
   ·exact .inr ⟨g,rfl⟩
   ·cases e
  ·rcases hi id _ trivial h1 with⟨a,b,c⟩ | ⟨e,_⟩ | ⟨_,g⟩
   ·exact .inr ⟨b,h2⟩
   ·cases e
   ·exact .inr ⟨g,h2⟩
 | fn f a b=>
  obtain⟨rfl,h2⟩:=h
  have key:∀ id,id∈a∨id∈b→β' id=β id∧sh' id=some .box:=by
   intro id hid
   rcases hi id _ trivial (h2 id hid) with⟨x,y,_⟩ | ⟨e,_⟩ | ⟨e,_⟩
   ·exact⟨x,y⟩
   ·cases e
   ·cases e
  refine⟨?_,fun id hid=>(key id hid).2⟩
  congr 2
  ·apply List.map_congr_left;intro id hid;rw[(key id (.inl hid)).1]
  ·apply List.map_congr_left;intro id hid;rw[(key id (.inr hid)).1]
 | rf m id=>
  obtain⟨h1,rfl⟩:=h
  rcases hi id _ trivial h1 with⟨a,b,_⟩ | ⟨e,_⟩ | ⟨e,_⟩
  ·exact⟨b,by rw[a]⟩
  ·cases e
  ·cases e
 | any=>trivial

def RK (w:World)(N:Nat→Prop)(β:Int→Nat)(sh:Nat→Option Sh)(v:Value)(c:C):Prop:=cellB v=true∧RC w N β sh v c
def RPt (w:World)(N:Nat→Prop)(β:Int→Nat)(sh:Nat→Option Sh)(v:Value)(p:Bool × List C):Prop:=
 if p.1 then ∃ a,v = .agg a∧All2 (RK w N β sh) a.toList p.2 else ∃ x,p.2=[x]∧RC w N β sh v x
def RV (w:World)(N:Nat→Prop)(β:Int→Nat)(sh:Nat→Option Sh)(v:Value):V→Prop
 | .c x=>RC w N β sh v x
 | .agg cs=>∃ a,v = .agg a∧All2 (RK w N β sh) a.toList cs
 | .tup vs=>∃ a,v = .tuple a∧All2 (RPt w N β sh) a.toList vs
def RO (w:World)(N:Nat→Prop)(β:Int→Nat)(sh:Nat→Option Sh)(b z:Nat):O→Prop
 | .box cs=>∃ vals ty,w.heap[b]? = some (.cells vals ty (0,0))∧All2 (RK w N β sh) vals.toList cs
 | .arr k els=>∃ vals ty,w.heap[b]? = some (.cells vals ty (0,0))∧0<k∧(∀ l∈els,l.length=k)∧z+els.length*k≤vals.size ∧
   ∀ i l j x,els[i]? = some l→l[j]? = some x→∃ v,vals[z+(i*k+j)]? = some v∧RepD w N v x
 | .raw x=>w.heap[b]? = some x
 | .stk k els _ _=>∃ vals ty,w.heap[b]? = some (.cells vals ty (0,0))∧0<k∧(∀ l∈els,l.length=k)∧z+els.length*k≤vals.size ∧
   ∀ i l j x,els[i]? = some l→l[j]? = some x→∃ v,vals[z+(i*k+j)]? = some v∧RepD w N v x
 | _=>True
section mono
variable {w w':World}{N N':Nat→Prop}{β β':Int→Nat}{sh sh':Nat→Option Sh}
theorem RK.mono (hk:Keep w N w' N')(hi:Ids (fun _=>True) w β sh w' β' sh'){v:Value}{c:C} (h:RK w N β sh v c):RK w' N' β' sh' v c:=⟨h.1,RC.mono hk hi h.2⟩
theorem RPt.mono (hk:Keep w N w' N')(hi:Ids (fun _=>True) w β sh w' β' sh'){v:Value}{p:Bool × List C} (h:RPt w N β sh v p):RPt w' N' β' sh' v p:=by
 obtain⟨b,cs⟩:=p
 cases b with
 | true=>obtain⟨a,rfl,h⟩:=h;exact⟨a,rfl,h.mono fun _ _=>RK.mono hk hi⟩
 | false=>obtain⟨x,e,h⟩:=h;exact⟨x,e,RC.mono hk hi h⟩
theorem RV.mono (hk:Keep w N w' N')(hi:Ids (fun _=>True) w β sh w' β' sh'){v:Value}{x:V} (h:RV w N β sh v x):RV w' N' β' sh' v x:=by
 cases x with
 | c x=>exact RC.mono hk hi h
 | agg cs=>obtain⟨a,rfl,h⟩:=h;exact⟨a,rfl,h.mono fun _ _=>RK.mono hk hi⟩
 | tup vs=>obtain⟨a,rfl,h⟩:=h;exact⟨a,rfl,h.mono fun _ _=>RPt.mono hk hi⟩
theorem RO.mono (hk:Keep w N w' N')(hi:Ids (fun _=>True) w β sh w' β' sh'){b z:Nat} (hb:w'.heap[b]? = w.heap[b]?){o:O} (h:RO w N β sh b z o):RO w' N' β' sh' b z o:=by
 cases o with
 | box cs=>obtain⟨vals,ty,e,h⟩:=h;exact⟨vals,ty,by rw[hb,e],h.mono fun _ _=>RK.mono hk hi⟩
 | arr k els=>obtain⟨vals,ty,e,h0,h1,h2,h3⟩:=h;exact⟨vals,ty,by rw[hb,e],h0,h1,h2,fun i l j x a b=>let ⟨v,p,q⟩:=h3 i l j x a b;⟨v,p,RepD.mono hk q⟩⟩
 | raw x=>exact hb.trans h
 | stk k els _ _=>obtain⟨vals,ty,e,h0,h1,h2,h3⟩:=h;exact⟨vals,ty,by rw[hb,e],h0,h1,h2,fun i l j x a b=>let ⟨v,p,q⟩:=h3 i l j x a b;⟨v,p,RepD.mono hk q⟩⟩
 | _=>trivial
end mono

def bL0 : O→Bool
 | .box _=>true
 | .arr _ _=>true
 | .raw _=>true
 | .stk .. => true
 | _=>false
def Kin (β:Int→Nat)(look:Look)(i j:Nat):Prop:=∃ k l l' r c,look i=some (.stk k l (some j) r)∧look j=some (.stk k l' c false)∧bs β i=bs β j∧l <+: l'
def Live (β:Int→Nat)(look:Look)(b:Nat):Prop:=∃ id o,look id=some o∧bL0 o=true∧β id=b
def Soft (w:World)(b:Nat):Prop:=b<w.heap.size∧∀ vals ty fr,w.heap[b]? = some (.cells vals ty fr)→fr=(0,0)
def Nn (w:World)(F:Nat→Prop)(β:Int→Nat)(look:Look)(b:Nat):Prop:=Soft w b∧¬ F b∧¬ Live β look b
theorem Soft.same {w w':World}{b:Nat} (h:Soft w b)(h1:b<w'.heap.size)(h2:w'.heap[b]? = w.heap[b]?):Soft w' b:=⟨h1,fun vals ty fr e=>h.2 vals ty fr (by rw[← h2];exact e)⟩
theorem Soft.of {w:World}{b:Nat}{vals:Array Value}{ty:TypeId} (h:w.heap[b]? = some (.cells vals ty (0,0))):Soft w b:=by
 refine⟨?_,fun vals' ty' fr e=> ?_⟩
 ·rcases Nat.lt_or_ge b w.heap.size with h' | h'
  ·exact h'
  ·rw[Array.getElem?_eq_none h']at h;cases h
 ·rw[h]at e;cases e;rfl
def dI0 : Nat:=0
def lZ0 : Value:= .iface 203 (.agg #[.pointer (some ⟨1,85,none⟩)])
def LaidIn (w:World)(β:Int→Nat)(look:Look):Prop:=w.cell? ⟨dI0,0,none⟩=some lZ0∧¬ Live β look dI0
theorem LaidIn.same {w:World}{β β':Int→Nat}{look look':Look} (h:LaidIn w β look)(hl:∀ b,Live β' look' b→Live β look b):LaidIn w β' look':=⟨h.1,fun hb=>h.2 (hl _ hb)⟩
structure Sim (w:World)(F:Nat→Prop)(β:Int→Nat)(look:Look):Prop where
 flt:∀ b,F b→b<w.heap.size
 live:∀ id o,look id=some o→bL0 o=true→β id<w.heap.size∧¬ F (β id)∧RO w (Nn w F β look) β (shL look) (β id) (bs β id) o
 inj:∀ id id' o o',look id=some o→look id'=some o'→bL0 o=true→bL0 o'=true→β id=β id'→id=id'∨Kin β look id id'∨Kin β look id' id
 laid:LaidIn w β look
 gst:∀ b,Guest.G b→F b
structure St (m:Nat→Prop)(w:World)(β:Int→Nat)(look:Look)(w':World)(β':Int→Nat)(look':Look):Prop where
 os:w'.os=w.os
 tape:w'.tape=w.tape
 output:w'.output=w.output
 size:w.heap.size≤w'.heap.size
 block:∀ b,b<w.heap.size→¬ Live β look b→w'.heap[b]? = w.heap[b]?
 born:∀ b,Live β' look' b→Live β look b∨w.heap.size≤b
 ids:Ids m w β (shL look) w' β' (shL look')
 guest:dP1 w w'
theorem LaidIn.st {m:Nat→Prop}{w w':World}{β β':Int→Nat}{look look':Look} (h:LaidIn w β look)(hst:St m w β look w' β' look'):LaidIn w' β' look':=by
 obtain⟨h1,h2⟩:=h
 have hlt:dI0<w.heap.size:=by
  rcases Nat.lt_or_ge dI0 w.heap.size with h | h
  ·exact h
  ·simp[World.cell?,Array.getElem?_eq_none h]at h1
 refine⟨?_,fun hb=> ?_⟩
 ·rw[World.cell?_of_block (w:=w) (hst.block _ hlt h2)];exact h1
 ·rcases hst.born _ hb with h | h
  ·exact h2 h
  ·omega
theorem St.keep {m:Nat→Prop}{w w':World}{β β':Int→Nat}{look look':Look}{F:Nat→Prop} (h:St m w β look w' β' look'):Keep w (Nn w F β look) w' (Nn w' F β' look'):=by
 refine⟨?_,h.guest⟩
 intro b ⟨h1,h2,h3⟩
 refine⟨⟨h1.same (Nat.lt_of_lt_of_le h1.1 h.size) (h.block b h1.1 h3),h2,fun hl=> ?_⟩,h.block b h1.1 h3⟩
 rcases h.born b hl with h | h
 ·exact h3 h
 ·have:=h1.1;omega
theorem Ids.refl (m:Nat→Prop)(w:World)(β:Int→Nat)(sh:Nat→Option Sh):Ids m w β sh w β sh:=fun _ _ _ h=> .inl ⟨rfl,h,rfl,rfl⟩
theorem St.refl (m:Nat→Prop)(w:World)(β:Int→Nat)(look:Look):St m w β look w β look:=
 ⟨rfl,rfl,rfl,Nat.le_refl _,fun _ _ _=>rfl,fun _ h=> .inl h,Ids.refl _ _ _ _,fun _ _=>rfl⟩
theorem Ids.trans {m:Nat→Prop}{w w' w'':World}{β β' β'':Int→Nat}{sh sh' sh'':Nat→Option Sh} (h:Ids m w β sh w' β' sh')(k:Ids m w' β' sh' w'' β'' sh''):Ids m w β sh w'' β'' sh'':=by
 intro id s hm hs
 rcases h id s hm hs with⟨a,b,c,d⟩ | ⟨a,b⟩ | ⟨rfl,b⟩
 ·rcases k id s hm b with⟨a',b',c',d'⟩ | h' | h'
  ·exact .inl ⟨by rw[a',a],b',by rw[← c,← a];exact c',by rw[d',d]⟩
  ·exact .inr (.inl h')
  ·exact .inr (.inr h')
 ·rcases k id _ hm b with⟨_,b',_⟩ | ⟨e,_⟩ | ⟨_,b'⟩
  ·exact .inr (.inl ⟨a,b'⟩)
  ·cases e
  ·exact .inr (.inl ⟨a,b'⟩)
 ·rcases k id _ hm b with⟨_,b',_⟩ | ⟨e,_⟩ | ⟨_,b'⟩
  ·exact .inr (.inr ⟨rfl,b'⟩)
  ·cases e
  ·exact .inr (.inr ⟨rfl,b'⟩)
theorem St.trans {m:Nat→Prop}{w w' w'':World}{β β' β'':Int→Nat}{look look' look'':Look} (h:St m w β look w' β' look')(k:St m w' β' look' w'' β'' look''):St m w β look w'' β'' look'':=by
 refine⟨k.os.trans h.os,k.tape.trans h.tape,k.output.trans h.output,Nat.le_trans h.size k.size,fun b hb hl=> ?_,fun b hb=> ?_,h.ids.trans k.ids,fun b hb=>(k.guest b hb).trans (h.guest b hb)⟩
 ·rw[k.block b (Nat.lt_of_lt_of_le hb h.size),h.block b hb hl]
  intro hl'
  rcases h.born b hl' with h | h
  ·exact hl h
  ·omega
 ·rcases k.born b hb with h' | h'
  ·exact h.born b h'
  ·exact .inr (Nat.le_trans h.size h')
theorem St.some {m:Nat→Prop}{w w':World}{β β':Int→Nat}{look look':Look} (h:St (fun _=>True) w β look w' β' look'):St m w β look w' β' look':=
 ⟨h.os,h.tape,h.output,h.size,h.block,h.born,fun id s _ hs=>h.ids id s trivial hs,h.guest⟩
theorem Sim.kg {w w':World}{F:Nat→Prop}{β:Int→Nat}{look:Look} (hS:Sim w F β look)(h:∀ b,b<w.heap.size→¬ Live β look b→w'.heap[b]? = w.heap[b]?):dP1 w w':=fun b hb=>
 h b (hS.flt b (hS.gst b hb)) (by rintro⟨id,o,h1,h2,h3⟩;exact(hS.live id o h1 h2).2.1 (h3 ▸ hS.gst b hb))
structure St7 (m:Nat→Prop)(w:World)(β:Int→Nat)(look:Look)(w':World)(β':Int→Nat)(look':Look):Prop where
 os:w'.os=w.os
 tape:w'.tape=w.tape
 output:w'.output=w.output
 size:w.heap.size≤w'.heap.size
 block:∀ b,b<w.heap.size→¬ Live β look b→w'.heap[b]? = w.heap[b]?
 born:∀ b,Live β' look' b→Live β look b∨w.heap.size≤b
 ids:Ids m w β (shL look) w' β' (shL look')
theorem St.of7 {m:Nat→Prop}{w w':World}{F:Nat→Prop}{β β':Int→Nat}{look look':Look} (hS:Sim w F β look)(h:St7 m w β look w' β' look'):St m w β look w' β' look':=
 ⟨h.os,h.tape,h.output,h.size,h.block,h.born,h.ids,hS.kg h.block⟩
end
section
open Go
variable [Guest]

def upd1 (look:Look)(id:Nat)(o:O):Look:=fun j=>if j=id then(match o with | .hole=>none | o=>some o) else look j
def updL (look:Look):List (Nat × O)→Look
 | []=>look
 | (id,o)::r=>updL (upd1 look id o) r
theorem uF1 (loc:List O)(id:Nat)(o:O):lk (setO loc id o)=upd1 (lk loc) id o:=by
 funext j
 unfold setO
 by_cases h:id<loc.length
 ·simp only[h,if_true,lk,upd1,List.getElem?_set]
  by_cases e:j=id
  ·subst e;simp[h];cases o <;> rfl
  ·simp[e,Ne.symm e]
 ·simp only[h,if_false,lk,upd1]
  by_cases e:j=id
  ·subst e
   have:(loc++List.replicate (j - loc.length) O.hole++[o])[j]? = some o:=by
    rw[List.getElem?_append_right (by simp;omega)]
    simp only[List.length_append,List.length_replicate]
    rw[show j - (loc.length+(j - loc.length))=0 by omega];rfl
   simp only[this,if_true]
   cases o <;> rfl
  ·simp only[e,if_false]
   rcases Nat.lt_or_ge j loc.length with hj | hj
   ·rw[List.append_assoc,List.getElem?_append_left hj]
   ·rw[List.getElem?_eq_none hj]
    rcases Nat.lt_or_ge j id with hj' | hj'
    ·rw[List.getElem?_append_left (by simp;omega),List.getElem?_append_right hj,List.getElem?_replicate,if_pos (by omega)]
    ·rw[List.getElem?_eq_none (by simp;omega)]
theorem eP0 : ∀ (u:List (Nat × O))(loc:List O),lk (updO loc u)=updL (lk loc) u
 | [],_=>rfl
 | (id,o)::r,loc=>by rw[updO,eP0 r,uF1];rfl
theorem bA0 (look:Look)(a b:List (Nat × O)):updL look (a++b)=updL (updL look a) b:=by
 induction a generalizing look with
 | nil=>rfl
 | cons x a ih=>exact ih _

def newβ (β:Int→Nat)(slot b z:Nat):Int→Nat
 | .ofNat j=>if j=slot then b else β (.ofNat j)
 | .negSucc j=>if j=slot then z else β (.negSucc j)
theorem newβ_eq {β:Int→Nat}{slot b z:Nat}:newβ β slot b z slot=b:=by show(if slot=slot then b else _)=b;simp
theorem newβ_ne {β:Int→Nat}{slot b z j:Nat} (h:j≠slot):newβ β slot b z j=β j:=by show(if j=slot then b else β j)=_;simp[h]
theorem rQ0 {β:Int→Nat}{slot b z:Nat}:bs (newβ β slot b z) slot=z:=by show(if slot=slot then z else _)=z;simp
theorem rR0 {β:Int→Nat}{slot b z j:Nat} (h:j≠slot):bs (newβ β slot b z) j=bs β j:=by show(if j=slot then z else bs β j)=_;simp[h]
def ROc (w:World)(N:Nat→Prop)(β:Int→Nat)(sh:Nat→Option Sh)(vals:Array Value)(z:Nat):O→Prop
 | .box cs=>All2 (RK w N β sh) vals.toList cs
 | .arr k els=>0<k∧(∀ l∈els,l.length=k)∧z+els.length*k≤vals.size ∧
   ∀ i l j x,els[i]? = some l→l[j]? = some x→∃ v,vals[z+(i*k+j)]? = some v∧RepD w N v x
 | .stk k els _ _=>0<k∧(∀ l∈els,l.length=k)∧z+els.length*k≤vals.size ∧
   ∀ i l j x,els[i]? = some l→l[j]? = some x→∃ v,vals[z+(i*k+j)]? = some v∧RepD w N v x
 | _=>True
def jU0 : O→Bool
 | .box _=>true
 | .arr _ _=>true
 | .stk .. => true
 | _=>false
theorem gP0 {o:O} (h:jU0 o=true):bL0 o=true:=by cases o <;> first | rfl | cases h
theorem gW0 {w:World}{N:Nat→Prop}{β:Int→Nat}{sh:Nat→Option Sh}{b z:Nat}{o:O} (ho:jU0 o=true) :
  RO w N β sh b z o↔∃ vals ty,w.heap[b]? = some (.cells vals ty (0,0))∧ROc w N β sh vals z o:=by
 cases o with
 | box cs=>rfl
 | arr k els=>rfl
 | stk k els _ _=>rfl
 | raw x=>cases ho
 | gone=>cases ho
 | hole=>cases ho
theorem ROc.mono {w w':World}{N N':Nat→Prop}{β β':Int→Nat}{sh sh':Nat→Option Sh} (hk:Keep w N w' N')(hi:Ids (fun _=>True) w β sh w' β' sh'){vals:Array Value}{z:Nat}{o:O} (h:ROc w N β sh vals z o):ROc w' N' β' sh' vals z o:=by
 cases o with
 | box cs=>exact All2.mono (fun _ _=>RK.mono hk hi) h
 | arr k els=>obtain⟨h0,h1,h2,h3⟩:=h;exact⟨h0,h1,h2,fun i l j x a b=>let ⟨v,p,q⟩:=h3 i l j x a b;⟨v,p,RepD.mono hk q⟩⟩
 | stk k els _ _=>obtain⟨h0,h1,h2,h3⟩:=h;exact⟨h0,h1,h2,fun i l j x a b=>let ⟨v,p,q⟩:=h3 i l j x a b;⟨v,p,RepD.mono hk q⟩⟩
 | _=>trivial
theorem Kin.mono {β β':Int→Nat}{look look':Look}{i j:Nat} (h:Kin β look i j)(hi:look' i=look i)(hj:look' j=look j)(bi:bs β' i=bs β i)(bj:bs β' j=bs β j):Kin β' look' i j:=by
 obtain⟨k,l,l',r,c,h1,h2,h3,h4⟩:=h
 exact⟨k,l,l',r,c,by rw[hi,h1],by rw[hj,h2],by rw[bi,bj,h3],h4⟩
theorem Kin.stk {β:Int→Nat}{look:Look}{i j:Nat} (h:Kin β look i j):bI0 (look i)=true∧bI0 (look j)=true:=by
 obtain⟨k,l,l',r,c,h1,h2,_⟩:=h
 rw[h1,h2];exact⟨rfl,rfl⟩
theorem hS0 {β β':Int→Nat}{look look':Look}{i j:Nat} (h:i=j∨Kin β look i j∨Kin β look j i)(hi:look' i=look i)(hj:look' j=look j)(bi:bs β' i=bs β i)(bj:bs β' j=bs β j):i=j∨Kin β' look' i j∨Kin β' look' j i:=by
 rcases h with h | h | h
 ·exact .inl h
 ·exact .inr (.inl (h.mono hi hj bi bj))
 ·exact .inr (.inr (h.mono hj hi bj bi))
theorem Sim.inj1 {w:World}{F:Nat→Prop}{β:Int→Nat}{look:Look} (hS:Sim w F β look)(id id':Nat)(o o':O)(h1:look id=some o)(h2:look id'=some o')(h3:bL0 o=true)(h4:bL0 o'=true)(he:β id=β id')(hs:bI0 (some o)=false∨bI0 (some o')=false):id=id':=by
 rcases hS.inj id id' o o' h1 h2 h3 h4 he with h | h | h
 ·exact h
 ·have:=h.stk
  rw[h1,h2]at this
  rcases hs with hs | hs
  ·rw[hs]at this;cases this.1
  ·rw[hs]at this;cases this.2
 ·have:=h.stk
  rw[h1,h2]at this
  rcases hs with hs | hs
  ·rw[hs]at this;cases this.2
  ·rw[hs]at this;cases this.1
theorem gL0 {look:Look}{id:Nat}{s:Sh} (h:shL look id=some s):∃ o,look id=some o∧shO o=some s:=by
 unfold shL at h
 cases hl:look id with
 | none=>simp[hl]at h
 | some o=>exact⟨o,rfl,by simpa [hl] using h⟩
theorem eM0 {o:O}{s:Sh} (h:shO o=some s)(hs:s ≠ .gone):bL0 o=true:=by
 cases o <;> simp_all [shO,bL0]
theorem bC0 {w:World}{b:Nat}{c:Array Value}{t:TypeId}{f:Nat × Nat} (h:w.heap[b]? = some (.cells c t f)):w.shape? b=some (t,c.size):=by
 simp[World.shape?,h]
theorem bQ0 {w w':World}{b:Nat} (h:w'.heap[b]? = w.heap[b]?):w'.shape? b=w.shape? b:=by simp[World.shape?,h]

theorem oV0 {w w':World}{F:Nat→Prop}{β:Int→Nat}{look:Look} (hS:Sim w F β look)(h1:w'.heap=w.heap)(h2:w'.os=w.os)(h3:w'.tape=w.tape)(h4:w'.output=w.output) :
  Sim w' F β look∧St (fun _=>True) w β look w' β look:=by
 have st:St (fun _=>True) w β look w' β look:=
  (St.of7 hS ⟨h2,h3,h4,by rw[h1];exact Nat.le_refl _,fun b _ _=>by rw[h1],fun _ h=> .inl h,fun id s _ hs=> .inl ⟨rfl,hs,by simp[World.shape?,h1],rfl⟩⟩)
 refine⟨⟨fun b hb=>by rw[h1];exact hS.flt b hb,fun id o hl ha=> ?_,hS.inj,hS.laid.st st,hS.gst⟩,st⟩
 obtain⟨a,b,c⟩:=hS.live id o hl ha
 exact⟨by rw[h1];exact a,b,RO.mono st.keep st.ids (by rw[h1]) c⟩

theorem sE0 {w:World}{F:Nat→Prop}{β:Int→Nat}{look:Look} (hS:Sim w F β look){id:Nat} (hid:∃ s,shL look id=some s∧s ≠ .box∧s ≠ .raw) :
  Sim w F β (upd1 look id .gone)∧St (fun _=>True) w β look w β (upd1 look id .gone):=by
 have hl':∀ j o,upd1 look id .gone j=some o→bL0 o=true→look j=some o∧j≠id:=by
  intro j o hj ho
  unfold upd1 at hj
  by_cases e:j=id
  ·simp only[e,if_true,Option.some.injEq]at hj;subst hj;cases ho
  ·simp only[e,if_false]at hj;exact⟨hj,e⟩
 have st:St (fun _=>True) w β look w β (upd1 look id .gone):=by
  refine St.of7 hS ⟨rfl,rfl,rfl,Nat.le_refl _,fun _ _ _=>rfl,fun b ⟨j,o,hj,ho,hb⟩=> .inl ⟨j,o,(hl' j o hj ho).1,ho,hb⟩,fun j s _ hs=> ?_⟩
  by_cases e:j=id
  ·subst e
   obtain⟨s',h1,h2,h3⟩:=hid
   obtain rfl:s'=s:=by rw[h1]at hs;exact Option.some.inj hs
   have:shL (upd1 look j .gone) j=some .gone:=by simp[shL,upd1,shO]
   cases s' with
   | box=>exact absurd rfl h2
   | arr k n=>exact .inr (.inl ⟨rfl,this⟩)
   | stk k n=>exact .inr (.inl ⟨rfl,this⟩)
   | raw=>exact absurd rfl h3
   | gone=>exact .inr (.inr ⟨rfl,this⟩)
  ·refine .inl ⟨rfl,?_,rfl,rfl⟩
   simp only[shL,upd1,e,if_false];exact hs
 refine⟨⟨hS.flt,fun j o hj ho=> ?_,fun j j' o o' hj hj' ho ho' hb=>hS0 (hS.inj j j' o o' (hl' j o hj ho).1 (hl' j' o' hj' ho').1 ho ho' hb) (by rw[hj,(hl' j o hj ho).1]) (by rw[hj',(hl' j' o' hj' ho').1]) rfl rfl,hS.laid.st st,hS.gst⟩,st⟩
 obtain⟨a,b,c⟩:=hS.live j o (hl' j o hj ho).1 ho
 exact⟨a,b,RO.mono st.keep st.ids rfl c⟩
theorem gM0 {w:World}{F:Nat→Prop}{β:Int→Nat}:∀ (ids:List Nat){look:Look},Sim w F β look→(∀ id∈ids,∃ s,shL look id=some s∧s ≠ .box∧s ≠ .raw) →
  Sim w F β (updL look (aU0 ids))∧St (fun _=>True) w β look w β (updL look (aU0 ids))
 | [],look,hS,_=>⟨hS,St.refl _ _ _ _⟩
 | id::r,look,hS,h=>by
  obtain⟨h1,h2⟩:=sE0 hS (h id List.mem_cons_self)
  obtain⟨h3,h4⟩:=gM0 r h1 (fun j hj=>by
   by_cases e:j=id
   ·exact⟨.gone,by simp[shL,upd1,e,shO],by simp,by simp⟩
   ·obtain⟨s,a,b⟩:=h j (List.mem_cons_of_mem _ hj)
    exact⟨s,by simp only[shL,upd1,e,if_false];exact a,b⟩)
  exact⟨h3,h2.trans h4⟩

theorem kJ0 {w w':World}{F:Nat→Prop}{β:Int→Nat}{look:Look} (hS:Sim w F β look){slot:Nat} (hs:look slot=none){o:O} (ho:jU0 o=true){vals:Array Value}{ty:TypeId}
  (hw:w'.heap=w.heap.push (.cells vals ty)) (h2:w'.os=w.os) (h3:w'.tape=w.tape) (h4:w'.output=w.output) (hc:ROc w (Nn w F β look) β (shL look) vals 0 o) :
  let β':=newβ β slot w.heap.size 0
  Sim w' F β' (upd1 look slot o)∧St (fun _=>True) w β look w' β' (upd1 look slot o)∧shL (upd1 look slot o) slot=shO o∧β' slot=w.heap.size∧bs β' slot=0∧w'.shape? w.heap.size=some (ty,vals.size):=by
 intro β'
 have hal:=gP0 ho
 have hup:upd1 look slot o slot=some o:=by unfold upd1;simp;cases o <;> first | rfl | cases ho
 have hother:∀ j,j≠slot→upd1 look slot o j=look j:=fun j hj=>by simp[upd1,hj]
 have hold:∀ b,b<w.heap.size→w'.heap[b]? = w.heap[b]? := fun b hb=>by rw[hw,Array.getElem?_push,if_neg (by omega)]
 have hnew:w'.heap[w.heap.size]? = some (.cells vals ty (0,0)):=by rw[hw];simp
 have hsz:w'.heap.size=w.heap.size+1:=by rw[hw];simp
 have hβ:∀ j:Nat,j≠slot→β' j=β j:=fun j hj=>newβ_ne hj
 have hβs:β' slot=w.heap.size:=newβ_eq
 have hbs:∀ j:Nat,j≠slot→bs β' j=bs β j:=fun j hj=>rR0 hj
 have hbss:bs β' slot=0:=rQ0
 have st:St (fun _=>True) w β look w' β' (upd1 look slot o):=by
  refine St.of7 hS ⟨h2,h3,h4,by omega,fun b hb _=>hold b hb,fun b ⟨j,x,hj,hx,hb⟩=> ?_,fun j s _ hj=> ?_⟩
  ·by_cases e:j=slot
   ·subst e;right;rw[← hb,hβs];exact Nat.le_refl _
   ·left;rw[hother j e]at hj;rw[hβ j e]at hb;exact⟨j,x,hj,hx,hb⟩
  ·have e:j≠slot:=by rintro rfl;simp[shL,hs]at hj
   by_cases hg:s = .gone
   ·subst hg;exact .inr (.inr ⟨rfl,by simp only[shL,hother j e];exact hj⟩)
   ·obtain⟨x,hx,hxs⟩:=gL0 hj
    refine .inl ⟨hβ j e,by simp only[shL,hother j e];exact hj,bQ0 (hold _ (hS.live j x hx (eM0 hxs hg)).1),hbs j e⟩
 refine⟨⟨fun b hb=>by have:=hS.flt b hb;omega,fun j x hj hx=> ?_,fun j j' x x' hj hj' hx hx' hb=> ?_,hS.laid.st st,hS.gst⟩,st,by simp[shL,hup],hβs,hbss,bC0 hnew⟩
 ·by_cases e:j=slot
  ·subst e
   rw[hup]at hj
   obtain rfl:=Option.some.inj hj
   refine⟨by rw[hβs];omega,fun hf=> ?_,?_⟩
   ·have:=hS.flt _ hf;rw[hβs]at this;omega
   ·rw[gW0 ho,hβs,hbss];exact⟨vals,ty,hnew,ROc.mono st.keep st.ids hc⟩
  ·rw[hother j e]at hj
   obtain⟨a,b,c⟩:=hS.live j x hj hx
   rw[hβ j e,hbs j e]
   exact⟨by omega,b,RO.mono st.keep st.ids (hold _ a) c⟩
 ·by_cases e:j=slot
  ·by_cases e':j'=slot
   ·left;rw[e,e']
   ·rw[e,hβs,hβ j' e']at hb
    rw[hother j' e']at hj'
    have:=(hS.live j' x' hj' hx').1;omega
  ·by_cases e':j'=slot
   ·rw[e',hβs,hβ j e]at hb
    rw[hother j e]at hj
    have:=(hS.live j x hj hx).1;omega
   ·rw[hother j e]at hj;rw[hother j' e']at hj';rw[hβ j e,hβ j' e']at hb
    exact hS0 (hS.inj j j' x x' hj hj' hx hx' hb) (hother j e) (hother j' e') (hbs j e) (hbs j' e')

theorem aZ1 {w w':World}{F:Nat→Prop}{β:Int→Nat}{look:Look} (hS:Sim w F β look){id k:Nat}{els:List (List D)} (hid:look id=some (.arr k els)){slot:Nat} (hs:look slot=none){o:O} (ho:jU0 o=true){vals:Array Value}{ty:TypeId}
  (hb:w'.heap[β id]? = some (.cells vals ty (0,0))) (hsize:w'.heap.size=w.heap.size) (hoth:∀ b,b≠β id→w'.heap[b]? = w.heap[b]?) (h2:w'.os=w.os) (h3:w'.tape=w.tape) (h4:w'.output=w.output)
  {z:Nat} (hc:ROc w (Nn w F β look) β (shL look) vals z o) :
  let β':=newβ β slot (β id) z
  Sim w' F β' (upd1 (upd1 look id .gone) slot o)∧St (fun _=>True) w β look w' β' (upd1 (upd1 look id .gone) slot o)∧shL (upd1 (upd1 look id .gone) slot o) slot=shO o∧β' slot=β id∧bs β' slot=z:=by
 intro β'
 have hal:=gP0 ho
 have hne:slot≠id:=by rintro rfl;rw[hs]at hid;cases hid
 have hup:upd1 (upd1 look id .gone) slot o slot=some o:=by unfold upd1;simp;cases o <;> first | rfl | cases ho
 have hgo:upd1 (upd1 look id .gone) slot o id=some .gone:=by simp[upd1,hne.symm]
 have hother:∀ j,j≠slot→j≠id→upd1 (upd1 look id .gone) slot o j=look j:=fun j hj hj'=>by simp[upd1,hj,hj']
 have hβ:∀ j:Nat,j≠slot→β' j=β j:=fun j hj=>newβ_ne hj
 have hβs:β' slot=β id:=newβ_eq
 have hbs:∀ j:Nat,j≠slot→bs β' j=bs β j:=fun j hj=>rR0 hj
 have hbss:bs β' slot=z:=rQ0
 have hlive:∀ j x,upd1 (upd1 look id .gone) slot o j=some x→bL0 x=true→(j=slot∧x=o)∨(j≠slot∧j≠id∧look j=some x):=by
  intro j x hj hx
  by_cases e:j=slot
  ·subst e;rw[hup]at hj;exact .inl ⟨rfl,(Option.some.inj hj).symm⟩
  ·by_cases e':j=id
   ·subst e';rw[hgo]at hj;cases hj;cases hx
   ·rw[hother j e e']at hj;exact .inr ⟨e,e',hj⟩
 obtain⟨l1,l2,l3⟩:=hS.live id _ hid rfl
 have st:St (fun _=>True) w β look w' β' (upd1 (upd1 look id .gone) slot o):=by
  refine St.of7 hS ⟨h2,h3,h4,by omega,fun b hb1 hl=>hoth b ?_,fun b ⟨j,x,hj,hx,hb1⟩=> .inl ?_,fun j s _ hj=> ?_⟩
  ·rintro rfl;exact hl ⟨id,_,hid,rfl,rfl⟩
  ·rcases hlive j x hj hx with⟨rfl,rfl⟩ | ⟨e,e',hj'⟩
   ·exact⟨id,_,hid,rfl,by rw[← hb1,hβs]⟩
   ·exact⟨j,x,hj',hx,by rw[← hb1,hβ j e]⟩
  ·have e:j≠slot:=by rintro rfl;simp[shL,hs]at hj
   by_cases e':j=id
   ·subst e'
    have:s = .arr k els.length:=by simpa [shL,hid,shO] using hj.symm
    exact .inr (.inl ⟨by rw[this];rfl,by simp[shL,hgo,shO]⟩)
   ·by_cases hg:s = .gone
    ·subst hg;exact .inr (.inr ⟨rfl,by simp only[shL,hother j e e'];exact hj⟩)
    ·obtain⟨x,hx,hxs⟩:=gL0 hj
     refine .inl ⟨hβ j e,by simp only[shL,hother j e e'];exact hj,bQ0 (hoth _ fun hbb=>e' ?_),hbs j e⟩
     exact hS.inj1 j id x _ hx hid (eM0 hxs hg) rfl hbb (.inr rfl)
 refine⟨⟨fun b hb1=>by rw[hsize];exact hS.flt b hb1,fun j x hj hx=> ?_,fun j j' x x' hj hj' hx hx' hbb=> ?_,hS.laid.st st,hS.gst⟩,st,by simp[shL,hup],hβs,hbss⟩
 ·rcases hlive j x hj hx with⟨rfl,rfl⟩ | ⟨e,e',hj'⟩
  ·rw[hβs,hbss]
   exact⟨by omega,l2,by rw[gW0 ho];exact⟨vals,ty,hb,ROc.mono st.keep st.ids hc⟩⟩
  ·obtain⟨a,b,c⟩:=hS.live j x hj' hx
   rw[hβ j e,hbs j e]
   exact⟨by omega,b,RO.mono st.keep st.ids (hoth _ fun hbb=>e' (hS.inj1 j id x _ hj' hid hx rfl hbb (.inr rfl))) c⟩
 ·rcases hlive j x hj hx with⟨rfl,rfl⟩ | ⟨e,e',hj1⟩ <;> rcases hlive j' x' hj' hx' with⟨rfl,rfl⟩ | ⟨f,f',hj2⟩
  ·exact .inl rfl
  ·rw[hβs,hβ j' f]at hbb;exact absurd (hS.inj1 j' id x' _ hj2 hid hx' rfl hbb.symm (.inr rfl)) f'
  ·rw[hβs,hβ j e]at hbb;exact absurd (hS.inj1 j id x _ hj1 hid hx rfl hbb (.inr rfl)) e'
  ·rw[hβ j e,hβ j' f]at hbb;exact hS0 (hS.inj j j' x x' hj1 hj2 hx hx' hbb) (hother j e e') (hother j' f f') (hbs j e) (hbs j' f)

theorem iU1 {w w':World}{F:Nat→Prop}{β:Int→Nat}{look:Look} (hS:Sim w F β look){id:Nat}{o o':O} (hid:look id=some o)(ho':jU0 o=true)(hns:bI0 (some o)=false)(hsh:shO o'=shO o){vals vals':Array Value}{ty:TypeId}
  (hb:w.heap[β id]? = some (.cells vals ty (0,0))) (hb':w'.heap[β id]? = some (.cells vals' ty (0,0))) (hsz:vals'.size=vals.size) (hsize:w'.heap.size=w.heap.size) (hoth:∀ b,b≠β id→w'.heap[b]? = w.heap[b]?)
  (h2:w'.os=w.os) (h3:w'.tape=w.tape) (h4:w'.output=w.output) (hc:ROc w (Nn w F β look) β (shL look) vals' (bs β id) o') :
  Sim w' F β (upd1 look id o')∧St (fun _=>True) w β look w' β (upd1 look id o'):=by
 have ho:=gP0 ho'
 have hc':jU0 o'=true:=by cases o <;> cases o' <;> simp_all [shO,jU0]
 have ho':bL0 o'=true:=gP0 hc'
 have hup:upd1 look id o' id=some o':=by unfold upd1;simp;cases o' <;> first | rfl | cases ho'
 have hother:∀ j,j≠id→upd1 look id o' j=look j:=fun j hj=>by simp[upd1,hj]
 have hshE:shL (upd1 look id o')=shL look:=by
  funext j
  by_cases e:j=id
  ·subst e;simp[shL,hup,hid,hsh]
  ·simp[shL,hother j e]
 have st:St (fun _=>True) w β look w' β (upd1 look id o'):=by
  refine St.of7 hS ⟨h2,h3,h4,by omega,fun b hb1 hl=>hoth b ?_,fun b ⟨j,x,hj,hx,hb1⟩=> .inl ?_,fun j s _ hj=> .inl ⟨rfl,by rw[hshE];exact hj,?_,rfl⟩⟩
  ·rintro rfl;exact hl ⟨id,o,hid,ho,rfl⟩
  ·by_cases e:j=id
   ·subst e;exact⟨j,o,hid,ho,hb1⟩
   ·rw[hother j e]at hj;exact⟨j,x,hj,hx,hb1⟩
  ·by_cases e:β j=β id
   ·rw[e,bC0 hb,bC0 hb',hsz]
   ·exact bQ0 (hoth _ e)
 refine⟨⟨fun b hb1=>by rw[hsize];exact hS.flt b hb1,fun j x hj hx=> ?_,fun j j' x x' hj hj' hx hx' hbb=> ?_,hS.laid.st st,hS.gst⟩,st⟩
 ·by_cases e:j=id
  ·subst e
   rw[hup]at hj
   obtain rfl:=Option.some.inj hj
   obtain⟨a,b,_⟩:=hS.live j o hid ho
   refine⟨by rw[hsize];exact a,b,?_⟩
   rw[gW0 hc'];exact⟨vals',ty,hb',ROc.mono st.keep st.ids hc⟩
  ·rw[hother j e]at hj
   obtain⟨a,b,c⟩:=hS.live j x hj hx
   refine⟨by rw[hsize];exact a,b,RO.mono st.keep st.ids (hoth _ fun hbb=>e ?_) c⟩
   exact hS.inj1 j id x o hj hid hx ho hbb (.inr hns)
 ·have hns':bI0 (some o')=false:=by cases o <;> cases o' <;> simp_all [shO,bI0]
  have f:∀ i y,upd1 look id o' i=some y→bL0 y=true→∃ z,look i=some z∧bL0 z=true:=by
   intro i y hi hy
   by_cases e:i=id
   ·subst e;exact⟨o,hid,ho⟩
   ·rw[hother i e]at hi;exact⟨y,hi,hy⟩
  obtain⟨z,a,b⟩:=f j x hj hx
  obtain⟨z',a',b'⟩:=f j' x' hj' hx'
  rcases hS.inj j j' z z' a a' b b' hbb with h | h | h
  ·exact .inl h
  ·have e1:j≠id:=by rintro rfl;have:=h.stk.1;rw[hid,hns]at this;cases this
   have e2:j'≠id:=by rintro rfl;have:=h.stk.2;rw[hid,hns]at this;cases this
   exact .inr (.inl (h.mono (hother j e1) (hother j' e2) rfl rfl))
  ·have e1:j'≠id:=by rintro rfl;have:=h.stk.1;rw[hid,hns]at this;cases this
   have e2:j≠id:=by rintro rfl;have:=h.stk.2;rw[hid,hns]at this;cases this
   exact .inr (.inr (h.mono (hother j' e1) (hother j e2) rfl rfl))
theorem bA1 {w w':World}{F:Nat→Prop}{β:Int→Nat}{look:Look} (hS:Sim w F β look){slot:Nat} (hs:look slot=none){x:Obj}
  (hw:w'.heap=w.heap.push x) (h2:w'.os=w.os) (h3:w'.tape=w.tape) (h4:w'.output=w.output) :
  let β':=newβ β slot w.heap.size 0
  Sim w' F β' (upd1 look slot (.raw x))∧St (fun _=>True) w β look w' β' (upd1 look slot (.raw x))∧shL (upd1 look slot (.raw x)) slot=some .raw∧β' slot=w.heap.size:=by
 intro β'
 have hup:upd1 look slot (.raw x) slot=some (.raw x):=by simp[upd1]
 have hother:∀ j,j≠slot→upd1 look slot (.raw x) j=look j:=fun j hj=>by simp[upd1,hj]
 have hold:∀ b,b<w.heap.size→w'.heap[b]? = w.heap[b]? := fun b hb=>by rw[hw,Array.getElem?_push,if_neg (by omega)]
 have hnew:w'.heap[w.heap.size]? = some x:=by rw[hw];simp
 have hsz:w'.heap.size=w.heap.size+1:=by rw[hw];simp
 have hβ:∀ j:Nat,j≠slot→β' j=β j:=fun j hj=>newβ_ne hj
 have hβs:β' slot=w.heap.size:=newβ_eq
 have hbs:∀ j:Nat,j≠slot→bs β' j=bs β j:=fun j hj=>rR0 hj
 have hbss:bs β' slot=0:=rQ0
 have st:St (fun _=>True) w β look w' β' (upd1 look slot (.raw x)):=by
  refine St.of7 hS ⟨h2,h3,h4,by omega,fun b hb _=>hold b hb,fun b ⟨j,y,hj,hx,hb⟩=> ?_,fun j s _ hj=> ?_⟩
  ·by_cases e:j=slot
   ·subst e;right;rw[← hb,hβs];exact Nat.le_refl _
   ·left;rw[hother j e]at hj;rw[hβ j e]at hb;exact⟨j,y,hj,hx,hb⟩
  ·have e:j≠slot:=by rintro rfl;simp[shL,hs]at hj
   by_cases hg:s = .gone
   ·subst hg;exact .inr (.inr ⟨rfl,by simp only[shL,hother j e];exact hj⟩)
   ·obtain⟨y,hx,hxs⟩:=gL0 hj
    refine .inl ⟨hβ j e,by simp only[shL,hother j e];exact hj,bQ0 (hold _ (hS.live j y hx (eM0 hxs hg)).1),hbs j e⟩
 refine⟨⟨fun b hb=>by have:=hS.flt b hb;omega,fun j y hj hx=> ?_,fun j j' y y' hj hj' hx hx' hb=> ?_,hS.laid.st st,hS.gst⟩,st,by simp[shL,hup,shO],hβs⟩
 ·by_cases e:j=slot
  ·subst e
   rw[hup]at hj
   obtain rfl:=Option.some.inj hj
   refine⟨by rw[hβs];omega,fun hf=> ?_,?_⟩
   ·have:=hS.flt _ hf;rw[hβs]at this;omega
   ·rw[hβs];exact hnew
  ·rw[hother j e]at hj
   obtain⟨a,b,c⟩:=hS.live j y hj hx
   rw[hβ j e,hbs j e]
   exact⟨by omega,b,RO.mono st.keep st.ids (hold _ a) c⟩
 ·by_cases e:j=slot
  ·by_cases e':j'=slot
   ·left;rw[e,e']
   ·rw[e,hβs,hβ j' e']at hb
    rw[hother j' e']at hj'
    have:=(hS.live j' y' hj' hx').1;omega
  ·by_cases e':j'=slot
   ·rw[e',hβs,hβ j e]at hb
    rw[hother j e]at hj
    have:=(hS.live j y hj hx).1;omega
   ·rw[hother j e]at hj;rw[hother j' e']at hj';rw[hβ j e,hβ j' e']at hb
    exact hS0 (hS.inj j j' y y' hj hj' hx hx' hb) (hother j e) (hother j' e') (hbs j e) (hbs j' e')
def oN0 : Obj→Bool
 | .cells .. => false
 | _=>true
theorem vT0 {w:World}{b:Nat}{x:Obj} (h:w.heap[b]? = some x)(hx:oN0 x=true):w.shape? b=none:=by
 simp only[World.shape?,h]
 cases x <;> first | rfl | cases hx
theorem nK1 {w w':World}{F:Nat→Prop}{β:Int→Nat}{look:Look} (hS:Sim w F β look){id:Nat}{x x':Obj} (hid:look id=some (.raw x))(hn:oN0 x=true)(hn':oN0 x'=true)
  (hb':w'.heap[β id]? = some x') (hsize:w'.heap.size=w.heap.size) (hoth:∀ b,b≠β id→w'.heap[b]? = w.heap[b]?)
  (h2:w'.os=w.os) (h3:w'.tape=w.tape) (h4:w'.output=w.output) :
  Sim w' F β (upd1 look id (.raw x'))∧St (fun _=>True) w β look w' β (upd1 look id (.raw x')):=by
 have hup:upd1 look id (.raw x') id=some (.raw x'):=by simp[upd1]
 have hother:∀ j,j≠id→upd1 look id (.raw x') j=look j:=fun j hj=>by simp[upd1,hj]
 have hb:w.heap[β id]? = some x:=(hS.live id _ hid rfl).2.2
 have hshE:shL (upd1 look id (.raw x'))=shL look:=by
  funext j
  by_cases e:j=id
  ·subst e;simp[shL,hup,hid,shO]
  ·simp[shL,hother j e]
 have st:St (fun _=>True) w β look w' β (upd1 look id (.raw x')):=by
  refine St.of7 hS ⟨h2,h3,h4,by omega,fun b hb1 hl=>hoth b ?_,fun b ⟨j,y,hj,hx,hb1⟩=> .inl ?_,fun j s _ hj=> .inl ⟨rfl,by rw[hshE];exact hj,?_,rfl⟩⟩
  ·rintro rfl;exact hl ⟨id,_,hid,rfl,rfl⟩
  ·by_cases e:j=id
   ·subst e;exact⟨j,_,hid,rfl,hb1⟩
   ·rw[hother j e]at hj;exact⟨j,y,hj,hx,hb1⟩
  ·by_cases e:β j=β id
   ·rw[e,vT0 hb hn,vT0 hb' hn']
   ·exact bQ0 (hoth _ e)
 refine⟨⟨fun b hb1=>by rw[hsize];exact hS.flt b hb1,fun j y hj hx=> ?_,fun j j' y y' hj hj' hx hx' hbb=> ?_,hS.laid.st st,hS.gst⟩,st⟩
 ·by_cases e:j=id
  ·subst e
   rw[hup]at hj
   obtain rfl:=Option.some.inj hj
   obtain⟨a,b,_⟩:=hS.live j _ hid rfl
   exact⟨by rw[hsize];exact a,b,hb'⟩
  ·rw[hother j e]at hj
   obtain⟨a,b,c⟩:=hS.live j y hj hx
   refine⟨by rw[hsize];exact a,b,RO.mono st.keep st.ids (hoth _ fun hbb=>e ?_) c⟩
   exact hS.inj1 j id y _ hj hid hx rfl hbb (.inr rfl)
 ·have f:∀ i y,upd1 look id (.raw x') i=some y→bL0 y=true→∃ z,look i=some z∧bL0 z=true:=by
   intro i y hi hy
   by_cases e:i=id
   ·subst e;exact⟨_,hid,rfl⟩
   ·rw[hother i e]at hi;exact⟨y,hi,hy⟩
  obtain⟨z,a,b⟩:=f j y hj hx
  obtain⟨z',a',b'⟩:=f j' y' hj' hx'
  rcases hS.inj j j' z z' a a' b b' hbb with h | h | h
  ·exact .inl h
  ·have e1:j≠id:=by rintro rfl;have:=h.stk.1;rw[hid]at this;cases this
   have e2:j'≠id:=by rintro rfl;have:=h.stk.2;rw[hid]at this;cases this
   exact .inr (.inl (h.mono (hother j e1) (hother j' e2) rfl rfl))
  ·have e1:j'≠id:=by rintro rfl;have:=h.stk.1;rw[hid]at this;cases this
   have e2:j≠id:=by rintro rfl;have:=h.stk.2;rw[hid]at this;cases this
   exact .inr (.inr (h.mono (hother j' e1) (hother j e2) rfl rfl))
theorem vW0 {w:World}{F:Nat→Prop}{β:Int→Nat}{look:Look} (hS:Sim w F β look){id k:Nat}{els:List (List D)}{cur:Option Nat} (hl:look id=some (.stk k els cur true))(hc:∀ c,cur=some c→bI0 (look c)=false) :
  ∀ (j:Nat) o,look j=some o→bL0 o=true→β j=β id→j=id:=by
 intro j o hj ho hb
 rcases hS.inj j id o _ hj hl ho rfl hb with h | h | h
 ·exact h
 ·obtain⟨k',l,l',r,c,h1,h2,_⟩:=h
  rw[hl]at h2
  have:=Option.some.inj h2
  injection this with _ _ _ hr
  cases hr
 ·obtain⟨k',l,l',r,c,h1,h2,_⟩:=h
  rw[hl]at h1
  have:=Option.some.inj h1
  injection this with _ _ hcur _
  have:=hc j hcur
  rw[h2]at this
  cases this
theorem vA1 {w:World}{F:Nat→Prop}{β:Int→Nat}{look:Look} (hS:Sim w F β look){id k:Nat}{els:List (List D)}{cur:Option Nat} (hl:look id=some (.stk k els cur true))(hc:∀ c,cur=some c→bI0 (look c)=false)(cur':Option Nat) :
  Sim w F β (upd1 look id (.stk k els cur' true))∧St (fun _=>True) w β look w β (upd1 look id (.stk k els cur' true)):=by
 have hup:upd1 look id (.stk k els cur' true) id=some (.stk k els cur' true):=by simp[upd1]
 have hother:∀ j,j≠id→upd1 look id (.stk k els cur' true) j=look j:=fun j hj=>by simp[upd1,hj]
 have hshE:shL (upd1 look id (.stk k els cur' true))=shL look:=by
  funext j
  by_cases e:j=id
  ·subst e;simp[shL,hup,hl,shO]
  ·simp[shL,hother j e]
 have st:St (fun _=>True) w β look w β (upd1 look id (.stk k els cur' true)):=by
  refine St.of7 hS ⟨rfl,rfl,rfl,Nat.le_refl _,fun b _ _=>rfl,fun b ⟨j,x,hj,hx,hb1⟩=> .inl ?_,fun j s _ hj=> .inl ⟨rfl,by rw[hshE];exact hj,rfl,rfl⟩⟩
  by_cases e:j=id
  ·subst e;exact⟨j,_,hl,rfl,hb1⟩
  ·rw[hother j e]at hj;exact⟨j,x,hj,hx,hb1⟩
 refine⟨⟨hS.flt,fun j x hj hx=> ?_,fun j j' x x' hj hj' hx hx' hbb=> ?_,hS.laid.st st,hS.gst⟩,st⟩
 ·by_cases e:j=id
  ·subst e
   rw[hup]at hj
   obtain rfl:=Option.some.inj hj
   obtain⟨a,b,c⟩:=hS.live j _ hl rfl
   exact⟨a,b,RO.mono st.keep st.ids rfl (show RO w (Nn w F β look) β (shL look) (β j) (bs β j) (.stk k els cur' true) from c)⟩
  ·rw[hother j e]at hj
   obtain⟨a,b,c⟩:=hS.live j x hj hx
   exact⟨a,b,RO.mono st.keep st.ids rfl c⟩
 ·have al:=vW0 hS hl hc
  by_cases e:j=id
  ·by_cases e':j'=id
   ·exact .inl (by rw[e,e'])
   ·rw[hother j' e']at hj'
    rw[e]at hbb
    exact absurd (al j' x' hj' hx' hbb.symm) e'
  ·by_cases e':j'=id
   ·rw[hother j e]at hj
    rw[e']at hbb
    exact absurd (al j x hj hx hbb) e
   ·rw[hother j e]at hj;rw[hother j' e']at hj'
    exact hS0 (hS.inj j j' x x' hj hj' hx hx' hbb) (hother j e) (hother j' e') rfl rfl
theorem ROc.pre {w:World}{N:Nat→Prop}{β:Int→Nat}{sh:Nat→Option Sh}{vals:Array Value}{z k:Nat}{els t:List (List D)}{cur cur':Option Nat}{r r':Bool} (h:ROc w N β sh vals z (.stk k (els++t) cur r)):ROc w N β sh vals z (.stk k els cur' r'):=by
 obtain⟨h0,h1,h2,h3⟩:=h
 refine⟨h0,fun l hl=>h1 l (List.mem_append_left _ hl),?_,fun i l j x a b=>h3 i l j x ?_ b⟩
 ·have:els.length*k≤(els++t).length*k:=Nat.mul_le_mul_right k (by simp)
  omega
 ·rw[List.getElem?_append_left,a]
  rcases Nat.lt_or_ge i els.length with h | h
  ·exact h
  ·rw[List.getElem?_eq_none h]at a;cases a
theorem iV1 {w w':World}{F:Nat→Prop}{β:Int→Nat}{look:Look} (hS:Sim w F β look){id k:Nat}{els t:List (List D)}{cur:Option Nat} (hl:look id=some (.stk k els cur true))(hc:∀ c,cur=some c→bI0 (look c)=false){slot:Nat} (hs:look slot=none)
  {vals vals':Array Value}{ty:TypeId} (hb:w.heap[β id]? = some (.cells vals ty (0,0))) (hb':w'.heap[β id]? = some (.cells vals' ty (0,0))) (hsz:vals'.size=vals.size) (hsize:w'.heap.size=w.heap.size) (hoth:∀ b,b≠β id→w'.heap[b]? = w.heap[b]?)
  (h2:w'.os=w.os) (h3:w'.tape=w.tape) (h4:w'.output=w.output) (hcont:ROc w (Nn w F β look) β (shL look) vals' (bs β id) (.stk k (els++t) none false)) :
  let β':=newβ β slot (β id) (bs β id)
  let look':=upd1 (upd1 look id (.stk k els (some slot) true)) slot (.stk k (els++t) none false)
  Sim w' F β' look'∧St (fun _=>True) w β look w' β' look'∧shL look' slot=some (.stk k (els++t).length)∧β' slot=β id∧bs β' slot=bs β id:=by
 intro β' look'
 have hne:slot≠id:=by rintro rfl;rw[hs]at hl;cases hl
 have al:=vW0 hS hl hc
 have hup:look' slot=some (.stk k (els++t) none false):=by simp[look',upd1]
 have hid:look' id=some (.stk k els (some slot) true):=by simp[look',upd1,hne.symm]
 have hother:∀ j,j≠slot→j≠id→look' j=look j:=fun j hj hj'=>by simp[look',upd1,hj,hj']
 have hβ:∀ j:Nat,j≠slot→β' j=β j:=fun j hj=>newβ_ne hj
 have hβs:β' slot=β id:=newβ_eq
 have hbs:∀ j:Nat,j≠slot→bs β' j=bs β j:=fun j hj=>rR0 hj
 have hbss:bs β' slot=bs β id:=rQ0
 have hcase:∀ j x,look' j=some x→bL0 x=true→(j=slot∧x = .stk k (els++t) none false)∨(j=id∧x = .stk k els (some slot) true)∨(j≠slot∧j≠id∧look j=some x):=by
  intro j x hj hx
  by_cases e:j=slot
  ·subst e;rw[hup]at hj;exact .inl ⟨rfl,(Option.some.inj hj).symm⟩
  ·by_cases e':j=id
   ·subst e';rw[hid]at hj;exact .inr (.inl ⟨rfl,(Option.some.inj hj).symm⟩)
   ·rw[hother j e e']at hj;exact .inr (.inr ⟨e,e',hj⟩)
 obtain⟨l1,l2,_⟩:=hS.live id _ hl rfl
 have st:St (fun _=>True) w β look w' β' look':=by
  refine St.of7 hS ⟨h2,h3,h4,by omega,fun b hb1 hlv=>hoth b ?_,fun b ⟨j,x,hj,hx,hb1⟩=> .inl ?_,fun j s _ hj=> ?_⟩
  ·rintro rfl;exact hlv ⟨id,_,hl,rfl,rfl⟩
  ·rcases hcase j x hj hx with⟨rfl,rfl⟩ | ⟨rfl,rfl⟩ | ⟨e,e',hj'⟩
   ·exact⟨id,_,hl,rfl,by rw[← hb1,hβs]⟩
   ·exact⟨j,_,hl,rfl,by rw[← hb1,hβ j hne.symm]⟩
   ·exact⟨j,x,hj',hx,by rw[← hb1,hβ j e]⟩
  ·have e:j≠slot:=by rintro rfl;simp[shL,hs]at hj
   by_cases e':j=id
   ·subst e'
    refine .inl ⟨hβ j e,?_,by rw[bC0 hb,bC0 hb',hsz],hbs j e⟩
    rw[← hj];simp[shL,hid,hl,shO]
   ·by_cases hg:s = .gone
    ·subst hg;exact .inr (.inr ⟨rfl,by simp only[shL,hother j e e'];exact hj⟩)
    ·obtain⟨x,hx,hxs⟩:=gL0 hj
     exact .inl ⟨hβ j e,by simp only[shL,hother j e e'];exact hj,bQ0 (hoth _ fun hbb=>e' (al j x hx (eM0 hxs hg) hbb)),hbs j e⟩
 have hcont':=ROc.mono st.keep st.ids hcont
 refine⟨⟨fun b hb1=>by rw[hsize];exact hS.flt b hb1,fun j x hj hx=> ?_,fun j j' x x' hj hj' hx hx' hbb=> ?_,hS.laid.st st,hS.gst⟩,st,by simp[shL,hup,shO],hβs,hbss⟩
 ·rcases hcase j x hj hx with⟨rfl,rfl⟩ | ⟨rfl,rfl⟩ | ⟨e,e',hj'⟩
  ·rw[hβs,hbss]
   exact⟨by omega,l2,by rw[gW0 rfl];exact⟨vals',ty,hb',hcont'⟩⟩
  ·rw[hβ j hne.symm,hbs j hne.symm]
   exact⟨by omega,l2,by rw[gW0 rfl];exact⟨vals',ty,hb',hcont'.pre⟩⟩
  ·obtain⟨a,b,c⟩:=hS.live j x hj' hx
   rw[hβ j e,hbs j e]
   exact⟨by omega,b,RO.mono st.keep st.ids (hoth _ fun hbb=>e' (al j x hj' hx hbb)) c⟩
 ·have kin:Kin β' look' id slot:=⟨k,els,els++t,true,none,hid,hup,by rw[hbs id hne.symm,hbss],List.prefix_append _ _⟩
  rcases hcase j x hj hx with⟨rfl,rfl⟩ | ⟨rfl,rfl⟩ | ⟨e,e',hj1⟩ <;> rcases hcase j' x' hj' hx' with⟨rfl,rfl⟩ | ⟨rfl,rfl⟩ | ⟨f,f',hj2⟩
  ·exact .inl rfl
  ·exact .inr (.inr kin)
  ·rw[hβs,hβ j' f]at hbb;exact absurd (al j' x' hj2 hx' hbb.symm) f'
  ·exact .inr (.inl kin)
  ·exact .inl rfl
  ·rw[hβ j hne.symm,hβ j' f]at hbb;exact absurd (al j' x' hj2 hx' hbb.symm) f'
  ·rw[hβs,hβ j e]at hbb;exact absurd (al j x hj1 hx hbb) e'
  ·rw[hβ j e,hβ j' hne.symm]at hbb;exact absurd (al j x hj1 hx hbb) e'
  ·rw[hβ j e,hβ j' f]at hbb
   exact hS0 (hS.inj j j' x x' hj1 hj2 hx hx' hbb) (hother j e e') (hother j' f f') (hbs j e) (hbs j' f)
end
section
open Go
variable [Guest]

section
variable {P:Program}{w:World}
theorem aV0 {t:TypeId}{n:Nat} (h:bN0 P t=some n)(w:World):(sizeOf t).run P w = .ok n w:=by
 unfold bN0 at h
 cases hi:P.info? t with
 | none=>simp[hi]at h
 | some i=>simp[hi]at h;simp[sizeOf,typeInfo,hi,h]
theorem jB0 {t:TypeId}{b:Bool} (h:aggT P t=some b)(w:World):(isAgg t).run P w = .ok b w:=by
 unfold aggT at h
 cases hu:P.underlying t with
 | none=>simp[hu]at h
 | some d=>cases d <;> simp_all [isAgg,run_underlying hu]
theorem nI0 {t e:TypeId} (h:iF0 P t=some e):P.underlying t=some (.slice e):=by
 unfold iF0 at h
 split at h
 ·rename_i x hx;rw[hx];cases h;rfl
 ·cases h
theorem dV0 (b o j:Nat):(⟨b,o,none⟩:Addr).add j=⟨b,o+j,none⟩:=by unfold Addr.add;split <;> simp_all

def At (w:World)(b o:Nat)(vals:List Value):Prop:=∀ j x,vals[j]? = some x→w.cell? ⟨b,o+j,none⟩=some x
theorem At.drop {b o:Nat}{vals:List Value} (h:At w b o vals)(n:Nat):At w b (o+n) (vals.drop n):=by
 intro j x hj
 rw[List.getElem?_drop]at hj
 have:=h (n+j) x hj
 rwa[← Nat.add_assoc]at this
theorem At.take {b o:Nat}{vals:List Value} (h:At w b o vals)(n:Nat):At w b o (vals.take n):=by
 intro j x hj
 rw[List.getElem?_take]at hj
 split at hj
 ·exact h j x hj
 ·cases hj
theorem At.of_block {b:Nat}{vals:Array Value}{ty:TypeId}{fr:Nat × Nat} (h:w.heap[b]? = some (.cells vals ty fr)):At w b 0 vals.toList:=by
 intro j x hj
 simp only[World.cell?,h,Nat.zero_add]
 simpa using hj
theorem mX0 {b o:Nat}{vals:List Value} (h:At w b o vals):(loadCells ⟨b,o,none⟩ vals.length).run P w = .ok vals.toArray w:=
 run_loadCells_list w _ vals (fun j v hv=>by rw[dV0];exact h j v hv)
variable {N:Nat→Prop}{β:Int→Nat}{sh:Nat→Option Sh}
theorem sB0 {t:TypeId}{b o off:Nat}{vals:List Value}{cs:List C}{v:V} (hr:All2 (RK w N β sh) vals cs)(hat:At w b o vals)(hc:cutC P t cs off=some v) :
  ∃ x,(loadVar t ⟨b,o+off,none⟩).run P w = .ok x w∧RV w N β sh x v:=by
 unfold cutC at hc
 cases hs:bN0 P t with
 | none=>simp[hs]at hc
 | some n=>
  cases ha:aggT P t with
  | none=>simp[hs,ha]at hc
  | some g=>
   cases g with
   | true=>
    simp only[hs,ha]at hc
    by_cases hl:off+n≤cs.length
    ·simp only[hl,if_true,Option.some.injEq]at hc
     subst hc
     have hlen:=hr.length
     have hn:((vals.drop off).take n).length=n:=by simp;omega
     have h1:=mX0 (P:=P) ((hat.drop off).take n)
     rw[hn]at h1
     refine⟨.agg ((vals.drop off).take n).toArray,?_,_,rfl,?_⟩
     ·simp[loadVar,jB0 ha,aV0 hs,h1]
     ·simpa using (hr.drop off).take n
    ·simp[hl]at hc
   | false=>
    simp only[hs,ha]at hc
    cases hx:cs[off]? with
    | none=>simp[hx]at hc
    | some c=>
     simp only[hx,Option.some.injEq]at hc
     subst hc
     obtain⟨x,h1,h2⟩:=hr.get_right hx
     refine⟨x,?_,h2.2⟩
     have:=hat off x h1
     simp[loadVar,jB0 ha,this]
theorem yS0 {t:TypeId}{off:Nat}{vals:Array Value}{cs:List C}{v:V} (hr:All2 (RK w N β sh) vals.toList cs)(hc:cutC P t cs off=some v) :
  ∃ x,(part t vals off).run P w = .ok x w∧RV w N β sh x v:=by
 unfold cutC at hc
 cases hs:bN0 P t with
 | none=>simp[hs]at hc
 | some n=>
  cases ha:aggT P t with
  | none=>simp[hs,ha]at hc
  | some g=>
   cases g with
   | true=>
    simp only[hs,ha]at hc
    by_cases hl:off+n≤cs.length
    ·simp only[hl,if_true,Option.some.injEq]at hc
     subst hc
     refine⟨.agg (vals.extract off (off+n)),?_,_,rfl,?_⟩
     ·simp[part,jB0 ha,aV0 hs]
     ·have:=(hr.drop off).take n
      simpa [Array.toList_extract,List.extract_eq_take_drop,Nat.add_sub_cancel_left] using this
    ·simp[hl]at hc
   | false=>
    simp only[hs,ha]at hc
    cases hx:cs[off]? with
    | none=>simp[hx]at hc
    | some c=>
     simp only[hx,Option.some.injEq]at hc
     subst hc
     obtain⟨x,h1,h2⟩:=hr.get_right hx
     refine⟨x,?_,h2.2⟩
     have h1':vals[off]? = some x:=by simpa using h1
     simp[part,jB0 ha,h1']
theorem kV0 {x:Value}{v:V}{ys:List C} (h:RV w N β sh x v)(hc:cells v=some ys):All2 (RK w N β sh) x.cells.toList ys:=by
 cases v with
 | c y=>
  simp only[cells]at hc
  split at hc
  ·rename_i hok
   cases hc
   have hcell:=RC.cell h hok
   have:x.cells = #[x]:=by cases x <;> first | rfl | cases hcell
   rw[this]
   exact .cons ⟨hcell,h⟩ .nil
  ·cases hc
 | agg cs=>
  simp only[cells]at hc
  split at hc
  ·cases hc
   obtain⟨a,rfl,h⟩:=h
   exact h
  ·cases hc
 | tup vs=>cases hc
theorem mF0 {x:Value} (h:cellB x=true):x.oneCell'=true:=by cases x <;> first | rfl | cases h
theorem gJ0 {t:TypeId}{b off:Nat}{x:Value}{n:Nat} (hs:bN0 P t=some n)(hn:x.cells.size=n){vals:Array Value}{ty:TypeId} (hb:w.heap[b]? = some (.cells vals ty (0,0)))
  (hl:off+n≤vals.size) (h1:∀ y∈x.cells.toList,cellB y=true) :
  (storeVar t ⟨b,off,none⟩ x).run P w = .ok () (w.setRow b (vals.toList.take off++x.cells.toList++vals.toList.drop (off+n)).toArray):=by
 have:=run_storeCells_at P b off ty x.cells.toList 0 vals w hb (by simp;omega) (fun v hv=>mF0 (h1 v hv))
 simp only[Nat.add_zero,Array.length_toList,hn]at this
 simp[storeVar,aV0 hs,hn,this]
theorem All2.over {vals:List Value}{cs:List C}{xs:List Value}{ys:List C}{off:Nat} (h:All2 (RK w N β sh) vals cs)(h':All2 (RK w N β sh) xs ys) :
  All2 (RK w N β sh) (vals.take off++xs++vals.drop (off+xs.length)) (over cs off ys):=by
 unfold Am.over
 rw[← h'.length]
 exact((h.take off).append h').append (h.drop _)
theorem dT0 (w:World)(b:Nat)(cs:Array Value)(i:Nat)(h:i≠b):(w.setRow b cs).heap[i]? = w.heap[i]? := by
 simp only[World.setRow,Array.getElem?_modify]
 rw[if_neg (fun e=>h e.symm)]
theorem gK0 (w:World)(b:Nat)(cs:Array Value):(w.setRow b cs).heap.size=w.heap.size:=by simp[World.setRow]

theorem lN0 {t:TypeId}{cs:List C} (h:cV0 P t=some cs):∃ i z,P.info? t=some i∧i.zero=some z∧(zeroValue t).run P w = .ok z w∧All2 (RK w N β sh) z.cells.toList cs:=by
 unfold cV0 at h
 cases hi:P.info? t with
 | none=>simp[hi]at h
 | some i=>
  simp only[hi]at h
  cases hz:i.zero with
  | none=>simp[hz]at h
  | some z=>
   simp only[hz]at h
   split at h
   ·rename_i hall
    cases h
    refine⟨i,z,rfl,hz,by simp[zeroValue,typeInfo,hi,hz],?_⟩
    have key:∀ l:List Value,l.all cellB=true→All2 (RK w N β sh) l (l.map fun y=>C.d (D.v y)):=by
     intro l
     induction l with
     | nil=>intro _;exact .nil
     | cons y l ih=>
      intro hy
      simp only[List.all_cons,Bool.and_eq_true]at hy
      exact .cons ⟨hy.1,.v hy.1⟩ (ih hy.2)
    exact key _ hall
   ·cases h
end
theorem qB0 (off:Nat):∀ (vs:List Value)(i:Nat)(cur:Array Value),off+i+vs.length≤cur.size →
  ((vs.zipIdx i).foldl (fun(cs:Array Value) (p:Value × Nat)=>cs.setIfInBounds (off+p.2) p.1) cur).toList=cur.toList.take (off+i)++vs++cur.toList.drop (off+i+vs.length)
 | [],i,cur,_=>by simp
 | v::rest,i,cur,h=>by
  have hi:off+i<cur.size:=by simp at h;omega
  rw[List.zipIdx_cons,List.foldl_cons,qB0 off rest (i+1) (cur.setIfInBounds (off+i) v) (by simp at h ⊢;omega)]
  have e:=list_seg_step cur.toList (off+i) v rest (by simp at h ⊢;omega)
  simpa [Array.toList_setIfInBounds,Nat.add_assoc] using e
theorem uT0 {place:Nat→Option (Nat × Nat)}{cur:Array Value}{i off n:Nat}{v:Value}{rest:List (Nat × Value)} (hp:place i=some (off,n))(hn:v.cells.size=n)(hl:off+n≤cur.size) :
  Instr.fill place cur ((i,v)::rest)=Instr.fill place (cur.toList.take off++v.cells.toList++cur.toList.drop (off+n)).toArray rest:=by
 rw[Instr.fill,hp]
 simp only
 rw[if_neg (by simp;omega)]
 congr 1
 apply Array.ext'
 have:=qB0 off v.cells.toList 0 cur (by simp;omega)
 simp only[Nat.add_zero,Array.length_toList,hn]at this
 rw[← Array.foldl_toList]
 simpa using this
end
section
open Go
variable [Guest]

theorem bO0 : ∀ (own:List Nat)(look:Look)(j:Nat),updL look (aU0 own) j=if j∈own then some .gone else look j
 | [],look,j=>by simp[aU0,updL]
 | id::r,look,j=>by
  have:=bO0 r (upd1 look id .gone) j
  simp only[aU0,List.map_cons,updL]at this ⊢
  rw[this]
  by_cases h1:j∈r
  ·simp[h1]
  ·by_cases h2:j=id
   ·subst h2;simp[upd1]
   ·simp[h1,h2,upd1]
def Flat (w:World)(N:Nat→Prop)(k:Nat)(els:List (List D))(news:List Value):Prop:=
 0<k∧(∀ l∈els,l.length=k)∧news.length=els.length*k∧∀ i l j x,els[i]? = some l→l[j]? = some x→∃ v,news[i*k+j]? = some v∧RepD w N v x
section
variable {w:World}{N:Nat→Prop}{k:Nat}{els:List (List D)}{news:List Value}
theorem Flat.cell (h:Flat w N k els news):∀ v∈news,cellB v=true:=by
 obtain⟨hk,hl,hn,hr⟩:=h
 intro v hv
 obtain⟨m,hm⟩:=List.getElem?_of_mem hv
 have hlt:m<els.length*k:=by
  rw[← hn]
  rcases Nat.lt_or_ge m news.length with h | h
  ·exact h
  ·rw[List.getElem?_eq_none h]at hm;cases hm
 have hi:m / k<els.length:=by rw[Nat.div_lt_iff_lt_mul hk];exact hlt
 have hj:m % k<k:=Nat.mod_lt _ hk
 have e1:els[m / k]? = some els[m / k]:=by simp[hi]
 have e2:(els[m / k]).length=k:=hl _ (List.getElem_mem hi)
 have e3:(els[m / k])[m % k]? = some ((els[m / k])[m % k]'(by omega)):=by simp[e2,hj]
 obtain⟨v',h1,h2⟩:=hr _ _ _ _ e1 e3
 have:m / k*k+m % k=m:=by rw[Nat.mul_comm];exact Nat.div_add_mod m k
 rw[this]at h1
 rw[h1]at hm
 cases hm
 exact h2.cell
theorem Flat.append {els':List (List D)}{news':List Value} (h:Flat w N k els news)(h':Flat w N k els' news'):Flat w N k (els++els') (news++news'):=by
 obtain⟨hk,hl,hn,hr⟩:=h
 obtain⟨_,hl',hn',hr'⟩:=h'
 refine⟨hk,fun l hx=> ?_,by simp[hn,hn',Nat.add_mul],fun i l j x h1 h2=> ?_⟩
 ·rcases List.mem_append.1 hx with hx | hx
  ·exact hl l hx
  ·exact hl' l hx
 ·rcases Nat.lt_or_ge i els.length with hi | hi
  ·rw[List.getElem?_append_left hi]at h1
   obtain⟨v,a,b⟩:=hr i l j x h1 h2
   refine⟨v,?_,b⟩
   rw[List.getElem?_append_left,a]
   rcases Nat.lt_or_ge (i*k+j) news.length with h | h
   ·exact h
   ·rw[List.getElem?_eq_none h]at a;cases a
  ·rw[List.getElem?_append_right hi]at h1
   obtain⟨v,a,b⟩:=hr' _ l j x h1 h2
   refine⟨v,?_,b⟩
   have e:els.length*k≤i*k:=Nat.mul_le_mul_right k hi
   rw[List.getElem?_append_right (by omega),hn,← a]
   congr 1
   rw[Nat.sub_mul];omega
theorem Flat.mono {w':World}{N':Nat→Prop} (hk:Keep w N w' N')(h:Flat w N k els news):Flat w' N' k els news:=
 ⟨h.1,h.2.1,h.2.2.1,fun i l j x a b=>let ⟨v,p,q⟩:=h.2.2.2 i l j x a b;⟨v,p,q.mono hk⟩⟩
theorem Flat.content {β:Int→Nat}{sh:Nat→Option Sh}{vals:Array Value}{z:Nat} (h:Flat w N k els news)(hz:z≤vals.size)(hv:(vals.toList.drop z).take news.length=news):ROc w N β sh vals z (.arr k els):=by
 refine⟨h.1,h.2.1,?_,fun i l j x a b=> ?_⟩
 ·have:=congrArg List.length hv
  simp only[List.length_take,List.length_drop,Array.length_toList]at this
  rw[← h.2.2.1];omega
 ·obtain⟨v,p,q⟩:=h.2.2.2 i l j x a b
  refine⟨v,?_,q⟩
  rw[← hv,List.getElem?_take]at p
  split at p
  ·rw[List.getElem?_drop]at p
   simpa using p
  ·cases p
theorem ROc.flat {β:Int→Nat}{sh:Nat→Option Sh}{vals:Array Value}{z:Nat} (h:ROc w N β sh vals z (.arr k els)):Flat w N k els ((vals.toList.drop z).take (els.length*k)):=by
 obtain⟨h0,h1,h2,h3⟩:=h
 refine⟨h0,h1,by simp;omega,fun i l j x a b=> ?_⟩
 obtain⟨v,p,q⟩:=h3 i l j x a b
 refine⟨v,?_,q⟩
 have hi:i<els.length:=by
  rcases Nat.lt_or_ge i els.length with h | h
  ·exact h
  ·rw[List.getElem?_eq_none h]at a;cases a
 have hj:j<k:=by
  have e:=h1 l (List.mem_of_getElem? a)
  rcases Nat.lt_or_ge j l.length with h | h
  ·omega
  ·rw[List.getElem?_eq_none h]at b;cases b
 have:i*k+j<els.length*k:=Nat.lt_of_lt_of_le (show i*k+j<(i+1)*k by rw[Nat.succ_mul];omega) (Nat.mul_le_mul_right k hi)
 rw[List.getElem?_take,if_pos this,List.getElem?_drop]
 simpa using p
theorem At.of_drop {b:Nat}{vals:Array Value}{ty:TypeId}{fr:Nat × Nat} (h:w.heap[b]? = some (.cells vals ty fr))(z:Nat):At w b z (vals.toList.drop z):=by
 have:=(At.of_block h).drop z
 rwa[Nat.zero_add]at this
theorem RepD.flat {b:Option Addr}{n cap:Nat}{gc:Bool} (hk:0<k)(h:RepD w N (.slice b n cap) (.s k els gc)):n=els.length∧((els=[])∨∃ g o news,b=some ⟨g,o,none⟩∧Ng N gc g∧Flat w N k els news∧At w g o news∧els.length≤cap):=by
 cases h with
 | e=>exact⟨rfl,.inl rfl⟩
 | @s g o _ _ _ _ c hb hc hl hcell hrep=>
  refine⟨rfl,.inr ⟨g,o,(List.range (els.length*k)).map fun m=>c (m / k) (m % k),rfl,hb,⟨hk,hl,by simp,fun i l j x a b=> ?_⟩,fun m x hm=> ?_,hc⟩⟩
  ·have hi:i<els.length:=by
    rcases Nat.lt_or_ge i els.length with h | h
    ·exact h
    ·rw[List.getElem?_eq_none h]at a;cases a
   have hj:j<k:=by
    have e:=hl l (List.mem_of_getElem? a)
    rcases Nat.lt_or_ge j l.length with h | h
    ·omega
    ·rw[List.getElem?_eq_none h]at b;cases b
   have hlt:i*k+j<els.length*k:=Nat.lt_of_lt_of_le (show i*k+j<(i+1)*k by rw[Nat.succ_mul];omega) (Nat.mul_le_mul_right k hi)
   have e1:(i*k+j) / k=i:=by rw[Nat.mul_comm,Nat.mul_add_div hk,Nat.div_eq_of_lt hj];rfl
   have e2:(i*k+j) % k=j:=by rw[Nat.mul_comm,Nat.mul_add_mod];exact Nat.mod_eq_of_lt hj
   exact⟨c i j,by rw[List.getElem?_map,List.getElem?_range hlt];simp only[Option.map_some,e1,e2],hrep i l j x a b⟩
  ·have hlt:m<els.length*k:=by
    rcases Nat.lt_or_ge m (els.length*k) with h | h
    ·exact h
    ·rw[List.getElem?_eq_none (by simp;omega)]at hm;cases hm
   rw[List.getElem?_map,List.getElem?_range hlt]at hm
   simp only[Option.map_some,Option.some.injEq]at hm
   have hi:m / k<els.length:=by rw[Nat.div_lt_iff_lt_mul hk];exact hlt
   have hj:m % k<k:=Nat.mod_lt _ hk
   have e1:els[m / k]? = some els[m / k]:=by simp[hi]
   have e2:(els[m / k]).length=k:=hl _ (List.getElem_mem hi)
   have e3:(els[m / k])[m % k]? = some ((els[m / k])[m % k]'(by omega)):=by simp[e2,hj]
   have:=hcell _ _ _ _ e1 e3
   rw[Nat.add_assoc,show m / k*k+m % k=m by rw[Nat.mul_comm];exact Nat.div_add_mod m k]at this
   rw[this,hm]
theorem Flat.rep {g o cap:Nat} (h:Flat w N k els news)(hg:N g)(ha:At w g o news)(hc:els.length≤cap):RepD w N (.slice (some ⟨g,o,none⟩) els.length cap) (.s k els):=by
 have key:∀ i l j x,els[i]? = some l→l[j]? = some x→w.cell? ⟨g,o+i*k+j,none⟩=some (news.getD (i*k+j) undef)∧RepD w N (news.getD (i*k+j) undef) x:=by
  intro i l j x a b
  obtain⟨v,p,q⟩:=h.2.2.2 i l j x a b
  have:=ha _ _ p
  rw[← Nat.add_assoc]at this
  have e:news.getD (i*k+j) undef=v:=by simp[List.getD,p]
  rw[e]
  exact⟨this,q⟩
 exact .s (fun i j=>news.getD (i*k+j) undef) hg hc h.2.1 (fun i l j x a b=>(key i l j x a b).1) (fun i l j x a b=>(key i l j x a b).2)
end

structure Wide (N N':Nat→Prop)(β:Int→Nat)(own:List Nat):Prop where
 all:∀ b,N b→N' b
 own:∀ id∈own,N' (β id)
section
variable {w:World}{F:Nat→Prop}{β:Int→Nat}{look:Look}{N':Nat→Prop}
theorem bM0 {N N':Nat→Prop} (h:∀ b,N b→N' b):Keep w N w N':=⟨fun b hb=>⟨h b hb,rfl⟩,fun _ _=>rfl⟩
theorem wL0 (hS:Sim w F β look){id k:Nat}{els:List (List D)}{v:Value} (hl:look id=some (.arr k els))(h:RC w (Nn w F β look) β (shL look) v (.own id))(hw:∀ b,Nn w F β look b→N' b)(hN:N' (β id)) :
  RepD w N' v (.s k els):=by
 have hs:shL look id=some (.arr k els.length):=by simp[shL,hl,shO]
 rcases h with⟨k',n,cap,h1,rfl,h2,_⟩ | ⟨h1,_⟩ | ⟨k',n,cap,h1,_⟩
 ·rw[hs]at h1
  cases h1
  obtain⟨_,_,hr⟩:=hS.live id _ hl rfl
  obtain⟨vals,ty,hb,hc⟩:=(gW0 rfl).1 hr
  have hf:=(ROc.flat hc).mono (bM0 hw)
  exact hf.rep hN ((At.of_drop hb _).take _) h2
 ·rw[hs]at h1;cases h1
 ·rw[hs]at h1;cases h1
theorem wB1 (hS:Sim w F β look){c:C}{x:D}{own:List Nat}{v:Value} (h:RC w (Nn w F β look) β (shL look) v c)(hd:toD look c=some (x,own))(hw:Wide (Nn w F β look) N' β own):RepD w N' v x:=by
 cases c with
 | d y=>simp only[toD,Option.some.injEq,Prod.mk.injEq]at hd;obtain⟨rfl,rfl⟩:=hd;exact RepD.mono (bM0 hw.all) h
 | own id=>
  simp only[toD]at hd
  cases hl:look id with
  | none=>simp[hl]at hd
  | some o=>
   cases o <;> simp[hl]at hd
   obtain⟨rfl,rfl⟩:=hd
   exact wL0 hS hl h hw.all (hw.own id (by simp))
 | _=>cases hd
theorem wA1 {c:C}{x:D}{own:List Nat} (hd:toD look c=some (x,own)):∀ id∈own,∃ k els,look id=some (.arr k els):=by
 cases c with
 | d y=>simp only[toD,Option.some.injEq,Prod.mk.injEq]at hd;obtain⟨rfl,rfl⟩:=hd;simp
 | own id=>
  simp only[toD]at hd
  cases hl:look id with
  | none=>simp[hl]at hd
  | some o=>
   cases o <;> simp[hl]at hd
   obtain⟨rfl,rfl⟩:=hd
   intro j hj
   simp at hj
   subst hj
   exact⟨_,_,hl⟩
 | _=>cases hd
theorem sL0 (hS:Sim w F β look):∀ {cs:List C}{xs:List D}{own:List Nat}{vs:List Value},All2 (RK w (Nn w F β look) β (shL look)) vs cs→toDs look cs=some (xs,own)→Wide (Nn w F β look) N' β own→All2 (RepD w N') vs xs:=by
 intro cs
 induction cs with
 | nil=>intro xs own vs h hd _;simp only[toDs,Option.some.injEq,Prod.mk.injEq]at hd;obtain⟨rfl,rfl⟩:=hd;cases h;exact .nil
 | cons c cs ih=>
  intro xs own vs h hd hw
  cases h with
  | cons h1 h2=>
   simp only[toDs]at hd
   cases e1:toD look c with
   | none=>simp[e1]at hd
   | some p=>
    obtain⟨d,a⟩:=p
    cases e2:toDs look cs with
    | none=>simp[e1,e2]at hd
    | some q=>
     obtain⟨ds,b⟩:=q
     simp only[e1,e2,Option.some.injEq,Prod.mk.injEq]at hd
     obtain⟨rfl,rfl⟩:=hd
     exact .cons (wB1 hS h1.2 e1 ⟨hw.all,fun id hid=>hw.own id (List.mem_append_left _ hid)⟩) (ih h2 e2 ⟨hw.all,fun id hid=>hw.own id (List.mem_append_right _ hid)⟩)
theorem sK0 : ∀ {cs:List C}{xs:List D}{own:List Nat},toDs look cs=some (xs,own)→∀ id∈own,∃ k els,look id=some (.arr k els):=by
 intro cs
 induction cs with
 | nil=>intro xs own hd;simp only[toDs,Option.some.injEq,Prod.mk.injEq]at hd;obtain⟨rfl,rfl⟩:=hd;simp
 | cons c cs ih=>
  intro xs own hd
  simp only[toDs]at hd
  cases e1:toD look c with
  | none=>simp[e1]at hd
  | some p=>
   obtain⟨d,a⟩:=p
   cases e2:toDs look cs with
   | none=>simp[e1,e2]at hd
   | some q=>
    obtain⟨ds,b⟩:=q
    simp only[e1,e2,Option.some.injEq,Prod.mk.injEq]at hd
    obtain⟨rfl,rfl⟩:=hd
    intro id hid
    rcases List.mem_append.1 hid with h | h
    ·exact wA1 e1 id h
    ·exact ih e2 id h
theorem zA0 : ∀ {cs:List C}{xs:List D}{own:List Nat},toDs look cs=some (xs,own)→xs.length=cs.length:=by
 intro cs
 induction cs with
 | nil=>intro xs own hd;simp only[toDs,Option.some.injEq,Prod.mk.injEq]at hd;obtain⟨rfl,rfl⟩:=hd;rfl
 | cons c cs ih=>
  intro xs own hd
  simp only[toDs]at hd
  cases e1:toD look c with
  | none=>simp[e1]at hd
  | some p=>
   obtain⟨d,a⟩:=p
   cases e2:toDs look cs with
   | none=>simp[e1,e2]at hd
   | some q=>
    obtain⟨ds,b⟩:=q
    simp only[e1,e2,Option.some.injEq,Prod.mk.injEq]at hd
    obtain⟨rfl,rfl⟩:=hd
    simp[ih e2]
theorem jH1 : ∀ {vs:List V}{xs:List (List D)}{own:List Nat},hZ0 look vs=some (xs,own)→∀ id∈own,∃ k els,look id=some (.arr k els):=by
 intro vs
 induction vs with
 | nil=>intro xs own hd;simp only[hZ0,Option.some.injEq,Prod.mk.injEq]at hd;obtain⟨rfl,rfl⟩:=hd;simp
 | cons v vs ih=>
  intro xs own hd
  simp only[hZ0]at hd
  cases e0:cells v with
  | none=>simp[e0]at hd
  | some cs=>
   cases e1:toDs look cs with
   | none=>simp[e0,e1]at hd
   | some p=>
    obtain⟨d,a⟩:=p
    cases e2:hZ0 look vs with
    | none=>simp[e0,e1,e2]at hd
    | some q=>
     obtain⟨ds,b⟩:=q
     simp only[e0,e1,e2,Option.some.injEq,Prod.mk.injEq]at hd
     obtain⟨rfl,rfl⟩:=hd
     intro id hid
     rcases List.mem_append.1 hid with h | h
     ·exact sK0 e1 id h
     ·exact ih e2 id h
theorem jI1 (hS:Sim w F β look):∀ {vs:List V}{xs:List (List D)}{own:List Nat}{us:List Value},All2 (RV w (Nn w F β look) β (shL look)) us vs→hZ0 look vs=some (xs,own)→Wide (Nn w F β look) N' β own →
  All2 (fun(u:Value) x=>All2 (RepD w N') u.cells.toList x) us xs:=by
 intro vs
 induction vs with
 | nil=>intro xs own us h hd _;simp only[hZ0,Option.some.injEq,Prod.mk.injEq]at hd;obtain⟨rfl,rfl⟩:=hd;cases h;exact .nil
 | cons v vs ih=>
  intro xs own us h hd hw
  cases h with
  | cons h1 h2=>
   simp only[hZ0]at hd
   cases e0:cells v with
   | none=>simp[e0]at hd
   | some cs=>
    cases e1:toDs look cs with
    | none=>simp[e0,e1]at hd
    | some p=>
     obtain⟨d,a⟩:=p
     cases e2:hZ0 look vs with
     | none=>simp[e0,e1,e2]at hd
     | some q=>
      obtain⟨ds,b⟩:=q
      simp only[e0,e1,e2,Option.some.injEq,Prod.mk.injEq]at hd
      obtain⟨rfl,rfl⟩:=hd
      exact .cons (sL0 hS (kV0 h1 e0) e1 ⟨hw.all,fun id hid=>hw.own id (List.mem_append_left _ hid)⟩) (ih h2 e2 ⟨hw.all,fun id hid=>hw.own id (List.mem_append_right _ hid)⟩)
theorem hJ0 (hS:Sim w F β look){own:List Nat} (ho:∀ id∈own,∃ k els,look id=some (.arr k els)) :
  Wide (Nn w F β look) (Nn w F β (updL look (aU0 own))) β own:=by
 have hlive:∀ b,Live β (updL look (aU0 own)) b→Live β look b∧∀ id∈own,β id≠b:=by
  rintro b ⟨id,o,h1,h2,h3⟩
  rw[bO0]at h1
  split at h1
  ·cases h1;cases h2
  ·rename_i hn
   refine⟨⟨id,o,h1,h2,h3⟩,fun j hj e=> ?_⟩
   obtain⟨k,els,hk⟩:=ho j hj
   have:=hS.inj1 j id _ o hk h1 rfl h2 (by rw[e,h3]) (.inl rfl)
   subst this
   exact hn hj
 refine⟨fun b ⟨h1,h2,h3⟩=>⟨h1,h2,fun h=>h3 (hlive b h).1⟩,fun id hid=> ?_⟩
 obtain⟨k,els,hk⟩:=ho id hid
 obtain⟨h1,h2,vals,ty,h3,_⟩:=hS.live id _ hk rfl
 exact⟨Soft.of h3,h2,fun h=>(hlive _ h).2 id hid rfl⟩
theorem lA0 {own:List Nat} (ho:∀ id∈own,∃ k els,look id=some (.arr k els)):∀ id∈own,∃ s,shL look id=some s∧s ≠ .box∧s ≠ .raw:=by
 intro id hid
 obtain⟨k,els,hk⟩:=ho id hid
 exact⟨.arr k els.length,by simp[shL,hk,shO],by simp,by simp⟩
end
end
section
open Go
variable [Guest]

structure Good (w:World)(F:Nat→Prop)(β:Int→Nat)(look:Look)(upd:List (Nat × O))(w':World)(β':Int→Nat):Prop where
 sim:Sim w' F β' (updL look upd)
 st:St (fun _=>True) w β look w' β' (updL look upd)
abbrev RVs (w:World)(F:Nat→Prop)(β:Int→Nat)(look:Look)(x:Value)(v:V):Prop:=RV w (Nn w F β look) β (shL look) x v
def Runs (w:World)(F:Nat→Prop)(β:Int→Nat)(look:Look)(e:Eff)(r:Result Next):Prop:=
 ∃ w' β',Good w F β look e.upd w' β'∧match e.res with
  | .val v=>(∃ x,r = .ok (.value x) w'∧RVs w' F β' (updL look e.upd) x v)∨(r = .ok .skip w'∧v = .c .any)
  | .pan x=>r = .halt (.panic x) w'
section
variable {P:Program}{w:World}{F:Nat→Prop}{β:Int→Nat}{look:Look}
theorem Good.refl (hS:Sim w F β look):Good w F β look [] w β:=⟨hS,St.refl _ _ _ _⟩
theorem Runs.pure (hS:Sim w F β look){r:Result Next}{x:Value}{v:V}{rd:List Nat} (hr:r = .ok (.value x) w)(h:RVs w F β look x v):Runs w F β look ⟨.val v,[],rd⟩ r:=
 ⟨w,β,Good.refl hS,.inl ⟨x,hr,h⟩⟩
theorem Runs.eff (hS:Sim w F β look){r:Result Next}{x:Value}{v:V}{rd:List Nat}{e:Eff} (he:eff v rd=some e)(hr:r = .ok (.value x) w)(h:RVs w F β look x v):Runs w F β look e r:=by
 cases he;exact Runs.pure hS hr h
theorem rv_int {k:IntKind}{n:Int}:RVs w F β look (.int k n) (.c (.d (.v (.int k n)))):=RepD.v rfl
theorem rv_v {x y:Value} (h:RVs w F β look x (.c (.d (.v y)))):x=y∧cellB y=true:=by cases h with | v h=>exact⟨rfl,h⟩

theorem bL1 (hS:Sim w F β look){slot:Nat} (hs:look slot=none){t:TypeId}{e:Eff} (h:allocA P slot t=some e) :
  Runs w F β look e ((do let v ← Instr.alloc t true (.tuple #[]);pure (.value v):Sem Next).run P w):=by
 unfold allocA at h
 cases hz:cV0 P t with
 | none=>simp[hz]at h
 | some cs=>
  simp only[hz,Option.some.injEq]at h
  subst h
  obtain⟨i,z,_,_,hrun,hall⟩:=lN0 (P:=P) (w:=w) (N:=Nn w F β look) (β:=β) (sh:=shL look) hz
  obtain⟨h1,h2,h3,h4,h5⟩:=kJ0 (w':=w.alloc (.cells z.cells t)) hS hs (o:= .box cs) rfl rfl rfl rfl rfl hall
  exact⟨_,_,⟨h1,h2⟩,.inl ⟨.pointer (some ⟨w.heap.size,0,none⟩),by simp[Instr.alloc,hrun,newVar,newRow],⟨h3,by rw[h4]⟩⟩⟩
theorem kP1 (hS:Sim w F β look){slot:Nat} (hs:look slot=none){t:TypeId}{x:Value}{v:V} (hx:RVs w F β look x v){e:Eff} (h:boxA slot v=some e) :
  Runs w F β look e ((do let v ← Instr.box t x;pure (.value v):Sem Next).run P w):=by
 unfold boxA at h
 cases hc:cells v with
 | none=>simp[hc]at h
 | some cs=>
  simp only[hc,Option.some.injEq]at h
  subst h
  obtain⟨h1,h2,h3,h4,h5⟩:=kJ0 (w':=w.alloc (.cells x.cells t)) hS hs (o:= .box cs) rfl rfl rfl rfl rfl (kV0 hx hc)
  exact⟨_,_,⟨h1,h2⟩,.inl ⟨.pointer (some ⟨w.heap.size,0,none⟩),by simp[Instr.box,newVar,newRow],⟨h3,by rw[h4]⟩⟩⟩
theorem mE1 {N:Nat→Prop}{sh:Nat→Option Sh}{places:List (Nat × Nat)}:∀ {parts:List (Nat × V)}{vals:List (Nat × Value)}{cs out:List C}{cur:Array Value},
  All2 (fun(p:Nat × Value) (q:Nat × V)=>p.1=q.1∧RV w N β sh p.2 q.2) vals parts→All2 (RK w N β sh) cur.toList cs→fillA places cs parts=some out →
  ∃ cells,Instr.fill (places.toArray[·]?) cur vals=some cells∧All2 (RK w N β sh) cells.toList out:=by
 intro parts
 induction parts with
 | nil=>intro vals cs out cur h hc hf;cases h;simp only[fillA,Option.some.injEq]at hf;subst hf;exact⟨cur,rfl,hc⟩
 | cons p parts ih=>
  intro vals cs out cur h hc hf
  cases h with
  | @cons a _ l _ h1 h2=>
   obtain⟨i,x⟩:=p
   obtain⟨i',y⟩:=a
   obtain⟨rfl,hy⟩:=h1
   dsimp only at hy
   simp only[fillA]at hf
   cases hp:places[i']? with
   | none=>simp[hp]at hf
   | some on=>
    obtain⟨off,n⟩:=on
    cases hcx:cells x with
    | none=>simp[hp,hcx]at hf
    | some ys=>
     simp only[hp,hcx]at hf
     split at hf
     ·rename_i hh
      obtain⟨hn,hl⟩:=hh
      have hr:=kV0 hy hcx
      have e1:y.cells.size=n:=by have:=hr.length;simp at this;omega
      have e2:off+n≤cur.size:=by have:=hc.length;simp at this;omega
      have hstep:=uT0 (place:=(places.toArray[·]?)) (cur:=cur) (i:=i') (off:=off) (n:=n) (v:=y) (rest:=l) (by simpa using hp) e1 e2
      rw[hstep]
      refine ih h2 ?_ hf
      have:=All2.over (off:=off) hc hr
      simpa [e1] using this
     ·cases hf
theorem uS0 {p q:Nat→Option (Nat × Nat)} (hpq:∀ i x,p i=some x→q i=some x):∀ {l:List (Nat × Value)}{cur r:Array Value},Instr.fill p cur l=some r→Instr.fill q cur l=some r
 | [],_,_,h=>h
 | (i,v)::l,cur,r,h=>by
  rw[Instr.fill]at h ⊢
  cases hp:p i with
  | none=>simp[hp]at h
  | some x=>
   rw[hpq i x hp]
   simp only[hp]at h
   dsimp only
   split at h
   ·cases h
   ·rename_i hh
    rw[if_neg hh]
    exact uS0 hpq h
theorem bS1 (hS:Sim w F β look){t:TypeId}{parts:List (Nat × Operand)}{ρc:Operand→Value}{ρ:Operand→V} (hE:∀ y,RVs w F β look (ρc y) (ρ y)){e:Eff}
  (h:buildA P t (parts.map fun p=>(p.1,ρ p.2))=some e) :
  Runs w F β look e ((do let v ← Instr.build t (parts.toArray.map fun(i,x)=>(i,ρc x));pure (.value v):Sem Next).run P w):=by
 unfold buildA at h
 cases hp:eQ0 P t with
 | none=>simp[hp]at h
 | some places=>
  cases hz:cV0 P t with
  | none=>simp[hp,hz]at h
  | some zs=>
   cases hf:fillA places zs (parts.map fun p=>(p.1,ρ p.2)) with
   | none=>simp[hp,hz,hf]at h
   | some cs=>
    simp only[hp,hz,hf]at h
    obtain⟨it,z,hi,hz',_,hall⟩:=lN0 (P:=P) (w:=w) (N:=Nn w F β look) (β:=β) (sh:=shL look) hz
    have hparts:All2 (fun(p:Nat × Value) (q:Nat × V)=>p.1=q.1∧RV w (Nn w F β look) β (shL look) p.2 q.2) (parts.map fun p=>(p.1,ρc p.2)) (parts.map fun p=>(p.1,ρ p.2)):=by
     clear hf h
     induction parts with
     | nil=>exact .nil
     | cons p l ih=>exact .cons ⟨rfl,hE p.2⟩ ih
    obtain⟨cells,h1,h2⟩:=mE1 hparts hall hf
    have hb:P.built t (parts.toArray.map fun(i,x)=>(i,ρc x)).toList=some cells:=by
     unfold eQ0 at hp
     unfold Program.built
     cases hu:P.underlying t with
     | none=>simp[hu]at hp
     | some d=>
      cases d <;> simp[hu]at hp
      ·rename_i len el
       cases hie:P.info? el with
       | none=>simp[hie]at hp
       | some ie=>
        simp only[hie,Option.some.injEq]at hp
        subst hp
        simp only[hi,hz',hie]
        refine uS0 (fun i x hx=> ?_) (by simpa using h1)
        cases hr:(List.range len)[i]? with
        | none=>simp[hr]at hx
        | some j=>
         have:j=i:=by
          have:=List.getElem?_eq_some_iff.1 hr
          obtain⟨a,b⟩:=this
          simp at b
          exact b.symm
         subst this
         simpa [hr] using hx
      ·simp only[hi,hz',hp]
       simpa using h1
    exact Runs.eff hS h (x:= .agg cells) (by rw[Sem.run_bind,run_build w t _ cells hb];rfl) ⟨cells,rfl,h2⟩
theorem vM0 (hS:Sim w F β look){id:Nat}{cs:List C} (hl:look id=some (.box cs)):∃ vals ty,w.heap[β id]? = some (.cells vals ty (0,0))∧All2 (RK w (Nn w F β look) β (shL look)) vals.toList cs:=(hS.live id _ hl rfl).2.2
theorem RepD.inv {N:Nat→Prop}{v:Value}{k:Nat}{els:List (List D)}{gc:Bool} (h:RepD w N v (.s k els gc)):(els=[]∧∃ a cap,v = .slice a 0 cap) ∨
  ∃ b o cap,∃ c:Nat→Nat→Value,v = .slice (some ⟨b,o,none⟩) els.length cap∧Ng N gc b∧els.length≤cap∧(∀ l∈els,l.length=k)∧(∀ i l j x,els[i]? = some l→l[j]? = some x→w.cell? ⟨b,o+i*k+j,none⟩=some (c i j)) ∧
   (∀ i l j x,els[i]? = some l→l[j]? = some x→RepD w N (c i j) x):=by
 cases h with
 | e a cap=>exact .inl ⟨rfl,a,cap,rfl⟩
 | s c h1 h2 h3 h4 h5=>exact .inr ⟨_,_,_,c,rfl,h1,h2,h3,h4,h5⟩
theorem elt_at {N:Nat→Prop}{b o cap k:Nat}{els:List (List D)}{i:Nat}{l:List D}{sh:Nat→Option Sh}{gc:Bool} (h:RepD w N (.slice (some ⟨b,o,none⟩) els.length cap) (.s k els gc))(hi:els[i]? = some l) :
  ∃ vals,At w b (o+i*k) vals∧All2 (RK w N β sh) vals (l.map .d):=by
 rcases RepD.inv h with⟨rfl,_⟩ | ⟨b',o',cap',c,e,hb,hc,hk,hcell,hrep⟩
 ·simp at hi
 ·cases e
  have hlk:=hk l (List.mem_of_getElem? hi)
  refine⟨(List.range k).map (c i),fun j x hj=> ?_,All2.of_get (by simp[hlk]) fun j x y h1 h2=> ?_⟩
  ·have hj':j<k:=by
    rcases Nat.lt_or_ge j k with h | h
    ·exact h
    ·rw[List.getElem?_eq_none (by simp;omega)]at hj;cases hj
   rw[List.getElem?_map,List.getElem?_range hj']at hj
   simp only[Option.map_some,Option.some.injEq]at hj
   subst hj
   exact hcell i l j _ hi (List.getElem?_eq_getElem (by omega))
  ·have hj':j<k:=by
    rcases Nat.lt_or_ge j k with h | h
    ·exact h
    ·rw[List.getElem?_eq_none (by simp;omega)]at h1;cases h1
   rw[List.getElem?_map,List.getElem?_range hj']at h1
   simp only[Option.map_some,Option.some.injEq]at h1
   subst h1
   rw[List.getElem?_map,List.getElem?_eq_getElem (by omega)]at h2
   simp only[Option.map_some,Option.some.injEq]at h2
   subst h2
   have:=hrep i l j _ hi (List.getElem?_eq_getElem (by omega))
   exact⟨this.cell,this⟩
theorem aI1 (hS:Sim w F β look){t:TypeId}{x:Value}{v:V} (hx:RVs w F β look x v){e:Eff} (h:loadA P look t v=some e) :
  ∃ ad y u rd,x = .pointer (some ad)∧e=⟨.val u,[],rd⟩∧(loadVar t ad).run P w = .ok y w∧RVs w F β look y u:=by
 unfold loadA at h
 split at h
 ·rename_i id off
  cases hl:look id with
  | none=>simp[hl]at h
  | some o=>
   cases o with
   | box cs=>
    simp only[hl]at h
    cases hc:cutC P t cs off with
    | none=>simp[hc]at h
    | some u=>
     simp only[hc]at h
     obtain⟨_,rfl⟩:=hx
     obtain⟨vals,ty,hb,hall⟩:=vM0 hS hl
     obtain⟨y,h1,h2⟩:=sB0 (P:=P) hall (At.of_block hb) hc
     rw[Nat.zero_add]at h1
     cases h;exact⟨_,y,_,_,rfl,rfl,h1,h2⟩
   | _=>simp[hl]at h
 ·rename_i id i off
  cases hl:look id with
  | none=>simp[hl]at h
  | some o=>
   cases o with
   | arr k els=>
    simp only[hl]at h
    cases he:els[i]? with
    | none=>simp[he]at h
    | some l=>
     simp only[he]at h
     cases hc:cutC P t (l.map .d) off with
     | none=>simp[hc]at h
     | some u=>
      simp only[hc]at h
      have hs:shL look id=some (.arr k els.length):=by simp[shL,hl,shO]
      rcases hx with⟨k',n,h1,rfl⟩ | ⟨h1,_⟩
      ·rw[hs]at h1
       cases h1
       obtain⟨vals,ty,hb,h0,hk,hsz,hall⟩:=(hS.live id _ hl rfl).2.2
       have hlk:=hk l (List.mem_of_getElem? he)
       have hr:All2 (RK w (Nn w F β look) β (shL look)) ((vals.toList.drop (bs β id+i*k)).take k) (l.map .d):=by
        have hi:i<els.length:=by
         rcases Nat.lt_or_ge i els.length with h | h
         ·exact h
         ·rw[List.getElem?_eq_none h]at he;cases he
        have hle:bs β id+i*k+k≤vals.size:=by
         have:(i+1)*k≤els.length*k:=Nat.mul_le_mul_right k hi
         rw[Nat.succ_mul]at this;omega
        refine All2.of_get (by simp[hlk];omega) fun j x y h1 h2=> ?_
        rw[List.getElem?_map]at h2
        cases hj:l[j]? with
        | none=>rw[hj]at h2;cases h2
        | some d=>
         rw[hj]at h2
         simp only[Option.map_some,Option.some.injEq]at h2
         subst h2
         obtain⟨z,h3,h4⟩:=hall i l j d he hj
         rw[List.getElem?_take]at h1
         split at h1
         ·rw[List.getElem?_drop]at h1
          have:vals[bs β id+(i*k+j)]? = some x:=by simpa [Nat.add_assoc] using h1
          rw[h3]at this
          cases this
          exact⟨h4.cell,h4⟩
         ·cases h1
       obtain⟨y,h3,h4⟩:=sB0 (P:=P) hr ((At.of_drop hb (bs β id+i*k)).take k) hc
       rw[Nat.add_assoc]at h3
       cases h;exact⟨_,y,_,_,rfl,rfl,h3,h4⟩
      ·rw[hs]at h1;cases h1
   | _=>simp[hl]at h
 ·rename_i k els i off gc
  cases he:els[i]? with
  | none=>simp[he]at h
  | some l=>
   simp only[he]at h
   cases hc:cutC P t (l.map .d) off with
   | none=>simp[hc]at h
   | some u=>
    simp only[hc]at h
    obtain⟨b,o,cap,h1,h2,rfl⟩:=hx
    obtain⟨vals,h3,h4⟩:=elt_at (β:=β) (sh:=shL look) h1 he
    obtain⟨y,h5,h6⟩:=sB0 (P:=P) h4 h3 hc
    cases h;exact⟨_,y,_,_,rfl,rfl,h5,h6⟩
 ·cases h
theorem hH1 (hS:Sim w F β look){t:TypeId}{x:Value}{v:V} (hx:RVs w F β look x v){e:Eff} (h:loadA P look t v=some e) :
  Runs w F β look e ((do let v ← Instr.loadAt t x;pure (.value v):Sem Next).run P w):=by
 obtain⟨ad,y,u,rd,rfl,rfl,h1,h2⟩:=aI1 hS hx h
 exact Runs.pure hS (x:=y) (by simp[Instr.loadAt,Instr.sureAddr,h1]) h2
theorem dN1 (hS:Sim w F β look){t:TypeId}{a x:Value}{va vx:V} (ha:RVs w F β look a va)(hx:RVs w F β look x vx){e:Eff} (h:mQ0 P look t va vx=some e) :
  Runs w F β look e ((do Instr.storeAt t a x;pure .skip:Sem Next).run P w):=by
 unfold mQ0 at h
 cases hcx:cells vx with
 | none=>simp[hcx]at h
 | some ys=>
  simp only[hcx]at h
  split at h
  case isFalse=>cases h
  rename_i hsz
  have hr:=kV0 hx hcx
  have hn:x.cells.size=ys.length:=by have:=hr.length;simpa using this
  have hone:∀ y∈x.cells.toList,cellB y=true:=by
   intro y hy
   obtain⟨j,hj⟩:=List.getElem?_of_mem hy
   obtain⟨c,_,h⟩:=hr.get_left hj
   exact h.1
  split at h
  ·rename_i id off
   cases hl:look id with
   | none=>simp[hl]at h
   | some o=>
    cases o with
    | box cs=>
     simp only[hl]at h
     split at h
     case isFalse=>cases h
     rename_i hle
     cases h
     obtain⟨_,rfl⟩:=ha
     obtain⟨vals,ty,hb,hall⟩:=vM0 hS hl
     have hlen:=hall.length
     have hrun:=gJ0 (P:=P) (n:=ys.length) (off:=off) hsz hn hb (by simp at hlen;omega) hone
     have hover:=All2.over (off:=off) hall hr
     rw[show x.cells.toList.length=ys.length by simpa using hn]at hover
     have hlen':=hover.length
     obtain⟨h1,h2⟩:=iU1 (o':= .box (over cs off ys)) (vals':=(vals.toList.take off++x.cells.toList++vals.toList.drop (off+ys.length)).toArray) (w':=w.setRow (β id) (vals.toList.take off++x.cells.toList++vals.toList.drop (off+ys.length)).toArray) hS hl rfl rfl rfl hb (setRow_heap w _ _ _ ty _ hb)
      (by simp at hlen ⊢;omega) (gK0 _ _ _) (fun b hb=>dT0 _ _ _ _ hb) rfl rfl rfl (by simpa [ROc] using hover)
     refine⟨_,_,⟨h1,h2⟩,.inr ⟨?_,rfl⟩⟩
     simp[Instr.storeAt,Instr.sureAddr,hrun]
    | _=>simp[hl]at h
  ·rename_i id i off
   cases hl:look id with
   | none=>simp[hl]at h
   | some o=>
    cases o with
    | arr k els=>
     simp only[hl]at h
     cases he:els[i]? with
     | none=>simp[he]at h
     | some l=>
      simp only[he]at h
      cases hd:toDs look ys with
      | none=>simp[hd]at h
      | some p=>
       obtain⟨ds,own⟩:=p
       simp only[hd]at h
       split at h
       case isFalse=>cases h
       rename_i hh
       obtain⟨hle,hno⟩:=hh
       cases h
       have hs:shL look id=some (.arr k els.length):=by simp[shL,hl,shO]
       rcases ha with⟨k',n,h1,rfl⟩ | ⟨h1,_⟩
       case inr=>rw[hs]at h1;cases h1
       rw[hs]at h1
       cases h1
       have hown:=sK0 hd
       have hnot:id ∉ own:=by simpa using hno
       obtain⟨hS1,st1⟩:=gM0 (F:=F) own hS (lA0 hown)
       have hwide:=hJ0 hS hown
       have hrep:=sL0 hS hr hd hwide
       have hl1:updL look (aU0 own) id=some (.arr k els):=by rw[bO0,if_neg hnot,hl]
       obtain⟨vals,ty,hb,h0,hk,hsz',hall⟩:=(hS1.live id _ hl1 rfl).2.2
       have hlk:=hk l (List.mem_of_getElem? he)
       have hi:i<els.length:=by
        rcases Nat.lt_or_ge i els.length with h | h
        ·exact h
        ·rw[List.getElem?_eq_none h]at he;cases he
       have hdl:=zA0 hd
       have hle':i*k+k≤els.length*k:=by
        have:(i+1)*k≤els.length*k:=Nat.mul_le_mul_right k hi
        rw[Nat.succ_mul]at this;omega
       have hrun:=gJ0 (P:=P) (n:=ys.length) (off:=bs β id+(i*k+off)) hsz hn hb (by omega) hone
       have hcont:ROc w (Nn w F β (updL look (aU0 own))) β (shL (updL look (aU0 own))) (vals.toList.take (bs β id+(i*k+off))++x.cells.toList++vals.toList.drop ((bs β id+(i*k+off))+ys.length)).toArray (bs β id) (.arr k (els.set i (l.take off++ds++l.drop (off+ds.length)))):=by
        have hxl:x.cells.toList.length=ys.length:=by simpa using hn
        refine⟨h0,fun l' hl'=> ?_,?_,fun i' l' j d h1 h2=> ?_⟩
        ·rcases List.mem_or_eq_of_mem_set hl' with h | rfl
         ·exact hk l' h
         ·simp;omega
        ·simp only[List.length_set,List.size_toArray,List.length_append,List.length_take,List.length_drop,hxl,Array.length_toList];omega
        ·rw[List.getElem?_set]at h1
         by_cases hii:i=i'
         ·subst hii
          rw[if_pos rfl,if_pos hi]at h1
          cases h1
          have hj:j<k:=by
           rcases Nat.lt_or_ge j k with h | h
           ·exact h
           ·rw[List.getElem?_eq_none (by simp;omega)]at h2;cases h2
          simp only[List.getElem?_toArray]
          rcases Nat.lt_or_ge j off with hjo | hjo
          ·rw[List.append_assoc,List.getElem?_append_left (by simp;omega),List.getElem?_take,if_pos hjo]at h2
           obtain⟨v,p,q⟩:=hall i l j d he h2
           refine⟨v,?_,q⟩
           rw[List.append_assoc,List.getElem?_append_left (by simp;omega),List.getElem?_take,if_pos (by omega)]
           simpa using p
          ·rcases Nat.lt_or_ge j (off+ds.length) with hjd | hjd
           ·rw[List.append_assoc,List.getElem?_append_right (by simp;omega),List.length_take,Nat.min_eq_left (by omega),List.getElem?_append_left (by omega)]at h2
            obtain⟨v,p,q⟩:=hrep.get_right h2
            refine⟨v,?_,q⟩
            have hvl:vals.toList.length=vals.size:=Array.length_toList
            rw[List.append_assoc,List.getElem?_append_right (by simp;omega),List.length_take,Nat.min_eq_left (by omega),List.getElem?_append_left (by omega)]
            rw[← p];congr 1;omega
           ·rw[List.getElem?_append_right (by simp;omega),List.getElem?_drop]at h2
            have e1:off+ds.length+(j - (List.take off l++ds).length)=j:=by simp;omega
            rw[e1]at h2
            obtain⟨v,p,q⟩:=hall i l j d he h2
            refine⟨v,?_,q⟩
            rw[List.getElem?_append_right (by simp;omega),List.getElem?_drop]
            have e2:(bs β id+(i*k+off))+ys.length+(bs β id+(i*k+j) - (List.take (bs β id+(i*k+off)) vals.toList++x.cells.toList).length)=bs β id+(i*k+j):=by simp;omega
            rw[e2]
            simpa using p
         ·rw[if_neg hii]at h1
          obtain⟨v,p,q⟩:=hall i' l' j d h1 h2
          refine⟨v,?_,q⟩
          simp only[List.getElem?_toArray]
          have hlk':=hk l' (List.mem_of_getElem? h1)
          have hj:j<k:=by
           rcases Nat.lt_or_ge j k with h | h
           ·exact h
           ·rw[List.getElem?_eq_none (by omega)]at h2;cases h2
          rcases Nat.lt_or_gt_of_ne hii with hlt | hgt
          ·have:i*k+k≤i'*k:=by rw[← Nat.succ_mul];exact Nat.mul_le_mul_right k hlt
           rw[List.getElem?_append_right (by simp;omega),List.getElem?_drop]
           have e2:(bs β id+(i*k+off))+ys.length+(bs β id+(i'*k+j) - (List.take (bs β id+(i*k+off)) vals.toList++x.cells.toList).length)=bs β id+(i'*k+j):=by simp;omega
           rw[e2]
           simpa using p
          ·have:i'*k+k≤i*k:=by rw[← Nat.succ_mul];exact Nat.mul_le_mul_right k hgt
           rw[List.append_assoc,List.getElem?_append_left (by simp;omega),List.getElem?_take,if_pos (by omega)]
           simpa using p
       obtain⟨h3,h4⟩:=iU1 (o':= .arr k (els.set i (l.take off++ds++l.drop (off+ds.length)))) (vals':=(vals.toList.take (bs β id+(i*k+off))++x.cells.toList++vals.toList.drop ((bs β id+(i*k+off))+ys.length)).toArray) (w':=w.setRow (β id) (vals.toList.take (bs β id+(i*k+off))++x.cells.toList++vals.toList.drop ((bs β id+(i*k+off))+ys.length)).toArray) hS1 hl1 rfl rfl (by simp[shO]) hb (setRow_heap w _ _ _ ty _ hb)
        (by simp;omega) (gK0 _ _ _) (fun b hb=>dT0 _ _ _ _ hb) rfl rfl rfl hcont
       refine⟨_,_,⟨by rw[bA0];exact h3,by rw[bA0];exact st1.trans h4⟩,.inr ⟨?_,rfl⟩⟩
       simp[Instr.storeAt,Instr.sureAddr,hrun]
    | _=>simp[hl]at h
  ·cases h
end
end
section
open Go
variable [Guest]
section
variable {P:Program}{w:World}{F:Nat→Prop}{β:Int→Nat}{look:Look}
theorem mE0 {v:V}{x:Value}{n:Int} (h:RVs w F β look x v)(hn:num v=some n):∃ k,x = .int k n∧v = .c (.d (.v (.int k n))):=by
 unfold num at hn
 split at hn
 ·rename_i k m
  cases hn
  exact⟨k,(rv_v h).1,rfl⟩
 ·cases hn
theorem oC0 {t:TypeId}{i off u:Nat} (h:bE0 P t i=some (off,u)):∃ fs:Array Field,∃ f:Field,P.underlying t=some (.struct fs)∧fs[i]? = some f∧f.offset=off∧f.type=u:=by
 unfold bE0 at h
 split at h
 ·rename_i fs hu
  cases hf:fs[i]? with
  | none=>simp[hf]at h
  | some f=>simp[hf]at h;exact⟨fs,f,hu,hf,h.1,h.2⟩
 ·cases h
theorem hV0 {t:TypeId}{b o i off u n:Nat} (hf:bE0 P t i=some (off,u))(hs:bN0 P u=some n)(hn:0<n) :
  (Instr.fieldAt t (.pointer (some ⟨b,o,none⟩)) i).run P w = .ok (.pointer (some ⟨b,o+off,none⟩)) w:=by
 obtain⟨fs,f,h1,h2,rfl,rfl⟩:=oC0 hf
 have hn':¬ n=0:=by omega
 simp[Instr.fieldAt,run_underlying h1,h2,Instr.sureAddr,fieldPlace,aV0 hs,hn',dV0]
theorem pN0 (hS:Sim w F β look){t:TypeId}{i:Nat}{x:Value}{v:V} (hx:RVs w F β look x v){e:Eff} (h:fieldAddrA P look t v i=some e) :
  Runs w F β look e ((do let v ← Instr.fieldAt t x i;pure (.value v):Sem Next).run P w):=by
 unfold fieldAddrA at h
 cases hf:bE0 P t i with
 | none=>simp[hf]at h
 | some p=>
  obtain⟨off,u⟩:=p
  cases hs:bN0 P u with
  | none=>simp[hf,hs]at h
  | some n=>
   simp only[hf,hs]at h
   split at h
   case isFalse=>cases h
   rename_i hn
   split at h
   ·rename_i id o
    obtain⟨h1,rfl⟩:=hx
    exact Runs.eff hS h (x:= .pointer (some ⟨β id,o+off,none⟩)) (by rw[Sem.run_bind,hV0 hf hs hn];rfl) ⟨h1,rfl⟩
   ·rename_i id j o
    cases hl:look id with
    | none=>simp[hl]at h
    | some q=>
    cases q <;> simp only[hl]at h <;> try (cases h;done)
    rcases hx with⟨k,m,h1,rfl⟩ | ⟨h1,h2⟩
    ·exact Runs.eff hS h (x:= .pointer (some ⟨β id,bs β id+(j*k+o)+off,none⟩)) (by rw[Sem.run_bind,hV0 hf hs hn];rfl) (.inl ⟨k,m,h1,by simp only[Nat.add_assoc]⟩)
    ·simp[shL,hl,shO]at h1
   ·rename_i k els j o gc
    obtain⟨b,o',cap,h1,h2,rfl⟩:=hx
    exact Runs.eff hS h (x:= .pointer (some ⟨b,o'+j*k+o+off,none⟩)) (by rw[Sem.run_bind,hV0 hf hs hn];rfl) ⟨b,o',cap,h1,h2,by rw[Nat.add_assoc (o'+j*k)]⟩
   ·rename_i b o
    obtain⟨rfl,_⟩:=rv_v hx
    exact Runs.eff hS h (x:= .pointer (some ⟨b,o+off,none⟩)) (by rw[Sem.run_bind,hV0 hf hs hn];rfl) (RepD.v rfl)
   ·cases h

theorem cM1 (hS:Sim w F β look){t:TypeId}{i:Nat}{x:Value}{v:V} (hx:RVs w F β look x v){e:Eff} (h:fieldA P t v i=some e) :
  Runs w F β look e ((do let v ← Instr.field t x i;pure (.value v):Sem Next).run P w):=by
 unfold fieldA at h
 cases hf:bE0 P t i with
 | none=>simp[hf]at h
 | some p=>
  obtain⟨off,u⟩:=p
  simp only[hf]at h
  split at h
  ·rename_i cs
   cases hc:cutC P u cs off with
   | none=>simp[hc]at h
   | some y=>
    simp only[hc]at h
    obtain⟨a,rfl,hall⟩:=hx
    obtain⟨fs,f,h1,h2,rfl,rfl⟩:=oC0 hf
    obtain⟨z,h3,h4⟩:=yS0 (P:=P) (w:=w) hall hc
    exact Runs.eff hS h (x:=z) (by simp[Instr.field,run_underlying h1,h2,asAgg,h3]) h4
  ·cases h
theorem pO0 (hS:Sim w F β look){t:TypeId}{x i:Value}{v vi:V} (hx:RVs w F β look x v)(hi:RVs w F β look i vi){e:Eff} (h:indexAddrA P look t v vi=some e) :
  Runs w F β look e ((do let v ← Instr.indexAt t x i;pure (.value v):Sem Next).run P w):=by
 unfold indexAddrA at h
 cases hn:num vi with
 | none=>simp[hn]at h
 | some n=>
  obtain⟨kk,rfl,rfl⟩:=mE0 hi hn
  simp only[hn]at h
  split at h
  ·rename_i el hu
   cases hs:bN0 P el with
   | none=>simp[hs]at h
   | some k=>
    simp only[hs]at h
    split at h
    ·rename_i k' els gc
     split at h
     case isFalse=>cases h
     rename_i hh
     obtain⟨rfl,h0,h1⟩:=hh
     have hr:RepD w (Nn w F β look) x (.s k' els gc):=hx
     rcases RepD.inv hr with⟨rfl,_⟩ | ⟨b,o,cap,c,rfl,hrest⟩
     ·simp at h1;omega
     ·have hlt:n.toNat<els.length:=by omega
      exact Runs.eff hS h (x:= .pointer (some ⟨b,o+n.toNat*k',none⟩)) (by simp[Instr.indexAt,asIntOf,run_underlying hu,aV0 hs,h0,h1,dV0]) ⟨b,o,cap,hr,hlt,by simp⟩
    ·rename_i id
     cases hl:look id with
     | none=>simp[hl]at h
     | some q=>
      cases q with
      | arr k' els=>
       simp only[hl]at h
       split at h
       case isFalse=>cases h
       rename_i hh
       obtain⟨rfl,h0,h1⟩:=hh
       have hsh:shL look id=some (.arr k' els.length):=by simp[shL,hl,shO]
       rcases hx with⟨k2,m,cap,h2,rfl,_⟩ | ⟨h2,_⟩ | ⟨k2,m,cap,h2,_⟩
       rotate_left 2
       ·rw[hsh]at h2;cases h2
       ·rw[hsh]at h2
        cases h2
        exact Runs.eff hS h (x:= .pointer (some ⟨β id,bs β id+n.toNat*k',none⟩)) (by simp[Instr.indexAt,asIntOf,run_underlying hu,aV0 hs,h0,h1,dV0]) (.inl ⟨k',els.length,hsh,by simp⟩)
       ·rw[hsh]at h2;cases h2
      | _=>simp[hl]at h
    ·rename_i b o len _
     split at h
     case isFalse=>cases h
     rename_i hh
     obtain⟨h0,h1⟩:=hh
     obtain⟨rfl,_⟩:=rv_v hx
     exact Runs.eff hS h (x:= .pointer (some ⟨b,o+n.toNat*k,none⟩)) (by simp[Instr.indexAt,asIntOf,run_underlying hu,aV0 hs,h0,h1,dV0]) (RepD.v rfl)
    ·cases h
  ·rename_i len el hu
   cases hs:bN0 P el with
   | none=>simp[hs]at h
   | some k=>
    simp only[hs]at h
    split at h
    ·rename_i id o
     split at h
     case isFalse=>cases h
     rename_i hh
     obtain⟨h0,h1,_⟩:=hh
     obtain⟨h2,rfl⟩:=hx
     exact Runs.eff hS h (x:= .pointer (some ⟨β id,o+n.toNat*k,none⟩)) (by simp[Instr.indexAt,asIntOf,run_underlying hu,Instr.sureAddr,aV0 hs,h0,h1,dV0]) ⟨h2,rfl⟩
    ·rename_i k' els j o gc
     split at h
     case isFalse=>cases h
     rename_i hh
     obtain⟨h0,h1,_⟩:=hh
     obtain⟨b,o',cap,h2,h3,rfl⟩:=hx
     exact Runs.eff hS h (x:= .pointer (some ⟨b,o'+j*k'+o+n.toNat*k,none⟩)) (by simp[Instr.indexAt,asIntOf,run_underlying hu,Instr.sureAddr,aV0 hs,h0,h1,dV0]) ⟨b,o',cap,h2,h3,by rw[Nat.add_assoc (o'+j*k')]⟩
    ·cases h
  ·cases h
theorem cP1 (hS:Sim w F β look){t:TypeId}{x i:Value}{v vi:V} (hx:RVs w F β look x v)(hi:RVs w F β look i vi){e:Eff} (h:indexA P t v vi=some e) :
  Runs w F β look e ((do let v ← Instr.index t x i;pure (.value v):Sem Next).run P w):=by
 unfold indexA at h
 cases hn:num vi with
 | none=>simp[hn]at h
 | some n=>
  obtain⟨kk,rfl,rfl⟩:=mE0 hi hn
  simp only[hn]at h
  split at h
  ·rename_i hu
   split at h
   ·rename_i s
    split at h
    case isFalse=>cases h
    rename_i h0
    cases hb:s[n.toNat]? with
    | none=>simp[hb]at h
    | some b=>
     simp only[hb]at h
     obtain⟨rfl,_⟩:=rv_v hx
     exact Runs.eff hS h (x:= .int .u8 b.toNat) (by simp[Instr.index,asIntOf,run_underlying hu,h0,hb]) rv_int
   ·cases h
  ·cases h
theorem qZ1 {op:BinOp}{t:TypeId}{k:IntKind}{a b:Int}{v:V} (hi:intOp op k a b=some v):∃ x,v = .c (.d (.v x))∧cellB x=true∧(binOp op t (.int k a) (.int k b)).run P w = .ok x w:=by
 cases op with
 | add=>cases hi;exact⟨_,rfl,rfl,by rw[binOp_add];rfl⟩
 | sub=>cases hi;exact⟨_,rfl,rfl,by rw[binOp_sub];rfl⟩
 | mul=>cases hi;exact⟨_,rfl,rfl,by rw[binOp_mul];rfl⟩
 | and=>cases hi;exact⟨_,rfl,rfl,by simp only[binOp];rw[if_neg (by simp)];rfl⟩
 | or=>cases hi;exact⟨_,rfl,rfl,by simp only[binOp];rw[if_neg (by simp)];rfl⟩
 | quo=>
  simp only[intOp]at hi
  by_cases hb:b=0
  ·rw[if_pos hb]at hi;cases hi
  ·rw[if_neg hb]at hi;cases hi;exact⟨_,rfl,rfl,by rw[binOp_quo];simp only[Op.intDiv];rw[if_neg hb];rfl⟩
 | rem=>
  simp only[intOp]at hi
  by_cases hb:b=0
  ·rw[if_pos hb]at hi;cases hi
  ·rw[if_neg hb]at hi;cases hi;exact⟨_,rfl,rfl,by rw[binOp_rem];simp only[Op.intDiv];rw[if_neg hb];rfl⟩
 | eql=>cases hi;exact⟨_,rfl,rfl,by rw[binOp_eql];rfl⟩
 | neq=>cases hi;exact⟨_,rfl,rfl,by rw[binOp_neq];rfl⟩
 | lss=>cases hi;exact⟨_,rfl,rfl,by rw[binOp_lss];rfl⟩
 | leq=>cases hi;exact⟨_,rfl,rfl,by rw[binOp_leq];rfl⟩
 | gtr=>cases hi;exact⟨_,rfl,rfl,by rw[binOp_gtr];rfl⟩
 | geq=>cases hi;exact⟨_,rfl,rfl,by rw[binOp_geq];rfl⟩
 | _=>cases hi
theorem rA1 {op:BinOp}{t:TypeId}{a b:ByteArray}{v:V} (hi:strOp op a b=some v):∃ x,v = .c (.d (.v x))∧cellB x=true∧(binOp op t (.string a) (.string b)).run P w = .ok x w:=by
 cases op with
 | add=>
  simp only[strOp]at hi
  by_cases hb:((a.size+b.size:Nat):Int)>IntKind.i64.max
  ·rw[if_pos hb]at hi;cases hi
  ·rw[if_neg hb]at hi;cases hi
   refine⟨_,rfl,rfl,?_⟩
   show(Op.stringOp .add a b).run P w=_
   simp only[Op.stringOp];rw[if_neg hb];rfl
 | eql=>cases hi;exact⟨_,rfl,rfl,rfl⟩
 | neq=>cases hi;exact⟨_,rfl,rfl,rfl⟩
 | lss=>cases hi;exact⟨_,rfl,rfl,rfl⟩
 | leq=>cases hi;exact⟨_,rfl,rfl,rfl⟩
 | gtr=>cases hi;exact⟨_,rfl,rfl,rfl⟩
 | geq=>cases hi;exact⟨_,rfl,rfl,rfl⟩
 | _=>cases hi
theorem kO1 (hS:Sim w F β look){op:BinOp}{t:TypeId}{ox oy:Operand}{x y:Value}{vx vy:V} (hx:RVs w F β look x vx)(hy:RVs w F β look y vy){e:Eff} (h:binA P op t vx vy=some e) :
  Runs w F β look e ((do let v ← (do eqGuard op t ox oy x y;binOp op t x y);pure (.value v):Sem Next).run P w):=by
 unfold binA at h
 split at h
 ·rename_i k a k' b
  split at h
  case isFalse=>cases h
  rename_i hk
  subst hk
  obtain⟨rfl,_⟩:=rv_v hx
  obtain⟨rfl,_⟩:=rv_v hy
  have hg:eqGuard op t ox oy (.int k a) (.int k b)=pure ():=by cases op <;> rfl
  cases hi:intOp op k a b with
  | none=>simp[hi]at h
  | some v=>
   simp only[hi]at h
   obtain⟨x,rfl,hc,hr⟩:=qZ1 (P:=P) (w:=w) (t:=t) hi
   exact Runs.eff hS h (x:=x) (by rw[hg,pure_bind,Sem.run_bind,hr];rfl) (RepD.v hc)
 ·rename_i a b
  obtain⟨rfl,_⟩:=rv_v hx
  obtain⟨rfl,_⟩:=rv_v hy
  have hg:eqGuard op t ox oy (.string a) (.string b)=pure ():=by cases op <;> rfl
  cases hi:strOp op a b with
  | none=>simp[hi]at h
  | some v=>
   simp only[hi]at h
   obtain⟨x,rfl,hc,hr⟩:=rA1 (P:=P) (w:=w) (t:=t) hi
   exact Runs.eff hS h (x:=x) (by rw[hg,pure_bind,Sem.run_bind,hr];rfl) (RepD.v hc)
 ·rename_i a b
  obtain⟨rfl,_⟩:=rv_v hx
  obtain⟨rfl,_⟩:=rv_v hy
  have he:∀ hu:P.underlying t=some .bool,(Op.equal t (.bool a) (.bool b)).run P w = .ok (a==b) w:=by
   intro hu
   unfold Op.equal Op.maxDepth
   rw[Op.equalIn,Sem.run_bind,run_underlying hu]
   rfl
  have hg:eqGuard op t ox oy (.bool a) (.bool b)=pure ():=by cases op <;> rfl
  split at h
  ·rename_i hu
   refine Runs.eff hS h (x:= .bool (a==b)) ?_ (RepD.v rfl)
   rw[hg,pure_bind,Sem.run_bind]
   show(((Op.equal t (.bool a) (.bool b) >>= fun r=>pure (.bool r):Sem Value).run P w).andThen _)=_
   rw[Sem.run_bind,he hu];rfl
  ·rename_i hu
   refine Runs.eff hS h (x:= .bool (!(a==b))) ?_ (RepD.v rfl)
   rw[hg,pure_bind,Sem.run_bind]
   show(((Op.equal t (.bool a) (.bool b) >>= fun r=>pure (.bool (!r)):Sem Value).run P w).andThen _)=_
   rw[Sem.run_bind,he hu];rfl
  ·cases h
 ·cases h
theorem wD1 (hS:Sim w F β look){op:UnOp}{x:Value}{v:V} (hx:RVs w F β look x v){e:Eff} (h:unA op v=some e) :
  Runs w F β look e ((do let v ← Op.unary op x;pure (.value v):Sem Next).run P w):=by
 unfold unA at h
 split at h
 ·obtain⟨rfl,_⟩:=rv_v hx
  exact Runs.eff hS h (by simp[Op.unary]) (RepD.v rfl)
 ·obtain⟨rfl,_⟩:=rv_v hx
  refine Runs.eff hS h (by simp only[Op.unary,Op.intArith];rfl) (RepD.v rfl)
 ·cases h
theorem uL0 (hS:Sim w F β look){s d:TypeId}{x:Value}{v:V} (hx:RVs w F β look x v){e:Eff} (h:aB0 P s d v=some e) :
  Runs w F β look e ((do let v ← convert s d x;pure (.value v):Sem Next).run P w):=by
 unfold aB0 at h
 split at h
 ·rename_i k1 k2 k3 n h1 h2
  obtain⟨rfl,_⟩:=rv_v hx
  exact Runs.eff hS h (x:= .int k2 (k2.wrap n)) (by simp[convert,run_underlying h1,run_underlying h2,Conv.intToInt]) (RepD.v rfl)
 ·rename_i s' h1 h2
  obtain⟨rfl,_⟩:=rv_v hx
  exact Runs.eff hS h (x:= .string s') (by simp[convert,run_underlying h1,run_underlying h2]) (RepD.v rfl)
 ·cases h
theorem qI0 {N:Nat→Prop}{sh:Nat→Option Sh}{x y:Value}{c:C} (h:RC w N β sh x c)(hp:mN0 c=some y):x=y∧cellB y=true:=by
 unfold mN0 at hp
 split at hp
 ·cases hp
  cases h with
  | v h=>exact⟨rfl,h⟩
 ·cases hp
theorem dE1 {x y:Value}{v:V} (h:RVs w F β look x v)(hp:aP1 v=some y):x=y:=by
 cases v with
 | c c=>exact(qI0 (N:=Nn w F β look) (sh:=shL look) h hp).1
 | agg cs=>
  obtain⟨a,rfl,hall⟩:=h
  simp only[aP1]at hp
  cases hm:mapO mN0 cs with
  | none=>simp[hm]at hp
  | some l=>
   simp only[hm,Option.some.injEq]at hp
   subst hp
   have key:∀ (cs:List C) (vs l:List Value),All2 (RK w (Nn w F β look) β (shL look)) vs cs→mapO mN0 cs=some l→vs=l:=by
    intro cs
    induction cs with
    | nil=>intro vs l h hm;cases h;simp only[mapO,Option.some.injEq]at hm;exact hm
    | cons c cs ih=>
     intro vs l h hm
     cases h with
     | cons h1 h2=>
      simp only[mapO]at hm
      cases e1:mN0 c with
      | none=>simp[e1]at hm
      | some y=>
       cases e2:mapO mN0 cs with
       | none=>simp[e1,e2]at hm
       | some ys=>
        simp only[e1,e2,Option.some.injEq]at hm
        subst hm
        rw[(qI0 h1.2 e1).1,ih _ _ h2 e2]
   rw[← key cs _ l hall hm]
 | tup vs=>cases hp
theorem hP1 {op:BinOp}{b:Bool}{e:Eff} (h:nilEq op b=some e):(op = .eql∧e=⟨.val (.c (.d (.v (.bool b)))),[],[]⟩)∨(op = .neq∧e=⟨.val (.c (.d (.v (.bool (!b))))),[],[]⟩):=by
 cases op <;> simp only[nilEq,eff]at h <;> first | (cases h;exact .inl ⟨rfl,rfl⟩) | (cases h;exact .inr ⟨rfl,rfl⟩) | cases h
theorem dH0 (hS:Sim w F β look){op:BinOp}{t:TypeId}{ox oy:Operand}{x y:Value}{b:Bool}{e:Eff} (h:nilEq op b=some e)(hg:(eqGuard op t ox oy x y).run P w = .ok () w)(he:(Op.equal t x y).run P w = .ok b w)
  (h1:binOp .eql t x y=(do pure (.bool (← Op.equal t x y)))) (h2:binOp .neq t x y=(do pure (.bool (!(← Op.equal t x y))))) :
  Runs w F β look e ((do let v ← (do eqGuard op t ox oy x y;binOp op t x y);pure (.value v):Sem Next).run P w):=by
 rcases hP1 h with⟨rfl,rfl⟩ | ⟨rfl,rfl⟩
 ·refine Runs.pure hS (x:= .bool b) ?_ (RepD.v rfl)
  simp only[Sem.run_bind,hg,Result.andThen_ok,h1,he,Sem.run_pure]
 ·refine Runs.pure hS (x:= .bool (!b)) ?_ (RepD.v rfl)
  simp only[Sem.run_bind,hg,Result.andThen_ok,h2,he,Sem.run_pure]
theorem rB0 {t:TypeId} (h:gS0 P t=true):∃ ms,P.underlying t=some (.interface ms):=by
 unfold gS0 at h
 split at h
 ·exact⟨_,by assumption⟩
 ·cases h
theorem sF0 {t:TypeId} (h:cO0 P t=true):∃ e,P.underlying t=some (.slice e):=by
 unfold cO0 at h
 split at h
 ·exact⟨_,by assumption⟩
 ·cases h
theorem pU1 {t:TypeId} (h:uZ0 P t=true):∃ e,P.underlying t=some (.pointer e):=by
 unfold uZ0 at h
 split at h
 ·exact⟨_,by assumption⟩
 ·cases h
theorem rd_inv {v:Value}{N:Nat→Prop}{t:TypeId}{xs:List D} (h:RepD w N v (.i t xs)):∃ a,v = .iface t (.agg a):=by cases h with | i _ _=>exact⟨_,rfl⟩
theorem uT1 {v:Value}{N:Nat→Prop}{k:Nat}{l:List D}{els:List (List D)}{gc:Bool} (h:RepD w N v (.s k (l::els) gc)):∃ a n c,v = .slice (some a) n c:=by cases h with | s c _ _ _ _ _=>exact⟨_,_,_,rfl⟩
theorem uO0 {N:Nat→Prop}{sh:Nat→Option Sh}{d:Nat}{xs ys:Array Value}{cs ds:List C} (hx:All2 (RK w N β sh) xs.toList cs)(hy:All2 (RK w N β sh) ys.toList ds):∀ {fs:List Field}{b:Bool},eqFs P cs ds fs=some b→(Op.eqFields (d+1) xs ys fs).run P w = .ok b w
 | [],b,h=>by simp only[eqFs,Option.some.injEq]at h;subst h;rfl
 | f::r,b,h=>by
  simp only[eqFs]at h
  split at h
  case isFalse=>cases h
  rename_i hne
  split at h
  case h_2=>cases h
  rename_i k hu
  split at h
  case h_2=>cases h
  rename_i k1 a hc
  split at h
  case h_2=>cases h
  rename_i k2 b2 hd
  split at h
  case isFalse=>cases h
  rename_i hk
  obtain⟨rfl,rfl⟩:=hk
  have hag:aggT P f.type=some false:=by unfold aggT;rw[hu]
  have part_of:∀ {zs:Array Value}{es:List C}{n:Int}{k:IntKind},All2 (RK w N β sh) zs.toList es→es[f.offset]? = some (.d (.v (.int k n)))→(part f.type zs f.offset).run P w = .ok (.int k n) w:=by
   intro zs es n k hz he
   obtain⟨v,p,q⟩:=hz.get_right he
   obtain⟨_,q2⟩:=q
   cases q2 with
   | v _=>
    have:zs[f.offset]? = some (.int k n):=by simpa using p
    unfold part
    rw[Sem.run_bind,jB0 hag]
    simp[this]
  cases hr:eqFs P cs ds r with
  | none=>simp[hr]at h
  | some t=>
   simp only[hr,Option.some.injEq]at h
   subst h
   have ih:=uO0 (d:=d) hx hy hr
   simp only[Op.eqFields]
   rw[if_pos hne,Sem.run_bind,part_of hx hc,Result.andThen_ok,Sem.run_bind,part_of hy hd,Result.andThen_ok,Sem.run_bind,run_equalIn_int w d f.type _ _ _ _ hu,Result.andThen_ok]
   cases hab:(a==b2)
   ·simp
   ·simpa using ih
theorem eG1 (hS:Sim w F β look){op:BinOp}{t:TypeId}{ox oy:Operand}{x y:Value}{vx vy:V} (hx:RVs w F β look x vx)(hy:RVs w F β look y vy){e:Eff} (h:binB P op t (pZ0 ox||pZ0 oy) vx vy=some e) :
  Runs w F β look e ((do let v ← (do eqGuard op t ox oy x y;binOp op t x y);pure (.value v):Sem Next).run P w):=by
 unfold binB at h
 split at h
 ·rename_i cs
  split at h
  case h_2=>cases h
  rename_i ds
  obtain⟨xs,rfl,hxs⟩:=hx
  obtain⟨ys,rfl,hys⟩:=hy
  unfold oY0 at h
  split at h
  case isFalse=>cases h
  rename_i hpl
  simp only[yO0,Bool.and_eq_true,Bool.not_eq_true']at hpl
  obtain⟨hp1,hp2⟩:=hpl
  split at h
  case h_2=>cases h
  rename_i fs hu
  split at h
  case h_2=>cases h
  rename_i b hb
  have hf:P.fieldsOf t=fs:=by unfold Program.fieldsOf;rw[hu]
  refine dH0 hS h (run_eqGuard_agg w op t ox oy xs ys hp2) ?_ (by simp only[binOp]) (by simp only[binOp])
  show(Op.equalIn 10000 t (.agg xs) (.agg ys)).run P w=_
  rw[run_equalIn_agg w 9999 t xs ys (by rw[hf];exact hu) hp1,hf]
  exact uO0 hxs hys hb
 ·split at h
  case h_2=>cases h
  split at h
  case isFalse=>cases h
  rename_i ht
  obtain⟨a,rfl⟩:=rd_inv hx
  obtain⟨rfl,_⟩:=rv_v hy
  obtain⟨ms,hu⟩:=rB0 ht
  refine dH0 hS h ?_ ?_ (by simp only[binOp]) (by simp only[binOp])
  ·cases op <;> rfl
  ·unfold Op.equal Op.maxDepth;rw[Op.equalIn,Sem.run_bind,run_underlying hu];rfl
 ·split at h
  case h_2=>cases h
  split at h
  case isFalse=>cases h
  rename_i ht
  obtain⟨rfl,_⟩:=rv_v hx
  obtain⟨rfl,_⟩:=rv_v hy
  obtain⟨ms,hu⟩:=rB0 ht
  refine dH0 hS h ?_ ?_ (by simp only[binOp]) (by simp only[binOp])
  ·cases op <;> rfl
  ·unfold Op.equal Op.maxDepth;rw[Op.equalIn,Sem.run_bind,run_underlying hu];rfl
 ·split at h
  case h_2=>cases h
  split at h
  case isFalse=>cases h
  rename_i ht
  obtain⟨ht,hc⟩:=ht
  obtain⟨rfl,_⟩:=rv_v hx
  obtain⟨rfl,_⟩:=rv_v hy
  obtain⟨ms,hu⟩:=rB0 ht
  refine dH0 hS h ?_ ?_ (by simp only[binOp]) (by simp only[binOp])
  ·cases ox <;> cases oy <;> first | (cases hc;done) | (cases op <;> simp[eqGuard])
  ·unfold Op.equal Op.maxDepth;rw[Op.equalIn,Sem.run_bind,run_underlying hu];rfl
 ·split at h
  case h_2=>cases h
  split at h
  case isFalse=>cases h
  rename_i a _ _ _ ht
  obtain⟨rfl,_⟩:=rv_v hx
  obtain⟨rfl,_⟩:=rv_v hy
  obtain⟨ms,hu⟩:=sF0 ht
  refine dH0 hS h ?_ ?_ (by simp only[binOp]) (by simp only[binOp])
  ·cases op <;> rfl
  ·unfold Op.equal Op.maxDepth;rw[Op.equalIn,Sem.run_bind,run_underlying hu];cases a <;> rfl
 ·split at h
  case h_2=>cases h
  split at h
  case isFalse=>cases h
  rename_i ht
  obtain⟨a,n,c,rfl⟩:=uT1 hx
  obtain⟨rfl,_⟩:=rv_v hy
  obtain⟨ms,hu⟩:=sF0 ht
  refine dH0 hS h ?_ ?_ (by simp only[binOp]) (by simp only[binOp])
  ·cases op <;> rfl
  ·unfold Op.equal Op.maxDepth;rw[Op.equalIn,Sem.run_bind,run_underlying hu];rfl
 ·split at h
  case h_2=>cases h
  split at h
  case isFalse=>cases h
  rename_i ht
  obtain⟨_,rfl⟩:=hx
  obtain⟨rfl,_⟩:=rv_v hy
  obtain⟨ms,hu⟩:=pU1 ht
  refine dH0 hS h ?_ ?_ (by simp only[binOp]) (by simp only[binOp])
  ·cases op <;> rfl
  ·unfold Op.equal Op.maxDepth;rw[Op.equalIn,Sem.run_bind,run_underlying hu];rfl
 ·split at h
  case h_2=>cases h
  split at h
  case isFalse=>cases h
  rename_i a _ ht
  obtain⟨rfl,_⟩:=rv_v hx
  obtain⟨rfl,_⟩:=rv_v hy
  obtain⟨ms,hu⟩:=pU1 ht
  refine dH0 hS h ?_ ?_ (by simp only[binOp]) (by simp only[binOp])
  ·cases op <;> rfl
  ·unfold Op.equal Op.maxDepth;rw[Op.equalIn,Sem.run_bind,run_underlying hu];cases a <;> rfl
 ·exact kO1 hS hx hy h
theorem zM0 {op:BinOp}{s:Bool}{id:Nat}{o:Option O}{e:Eff} (h:boK op s id o=some e):((∃ k els,o=some (.arr k els))∨∃ k els c r,o=some (.stk k els c r))∧s=true∧∃ e0,nilEq op false=some e0∧e={ e0 with rd:=[id] }:=by
 unfold boK at h
 split at h
 ·rename_i k els
  split at h
  case isFalse=>cases h
  rename_i hs
  obtain⟨e0,h1,h2⟩:=Option.map_eq_some_iff.1 h
  exact⟨.inl ⟨k,els,rfl⟩,hs,e0,h1,h2.symm⟩
 ·rename_i k els c r
  split at h
  case isFalse=>cases h
  rename_i hs
  obtain⟨e0,h1,h2⟩:=Option.map_eq_some_iff.1 h
  exact⟨.inr ⟨k,els,c,r,rfl⟩,hs,e0,h1,h2.symm⟩
 ·cases h
theorem Runs.rd {look:Look}{e:Eff}{rd:List Nat}{r:Result Next} (h:Runs w F β look e r):Runs w F β look { e with rd:=rd } r:=h
theorem eH1 (hS:Sim w F β look){op:BinOp}{t:TypeId}{ox oy:Operand}{x y:Value}{vx vy:V} (hx:RVs w F β look x vx)(hy:RVs w F β look y vy){e:Eff} (h:binL P look op t (pZ0 ox||pZ0 oy) vx vy=some e) :
  Runs w F β look e ((do let v ← (do eqGuard op t ox oy x y;binOp op t x y);pure (.value v):Sem Next).run P w):=by
 unfold binL at h
 split at h
 ·rename_i id
  obtain⟨ho,ht,e0,h1,rfl⟩:=zM0 h
  obtain⟨rfl,_⟩:=rv_v hy
  have hv:∃ a n c,x = .slice (some a) n c:=by
   rcases hx with⟨k,n,cap,_,rfl,_⟩ | ⟨hg,_⟩ | ⟨k,n,cap,_,rfl,_⟩
   ·exact⟨_,_,_,rfl⟩
   ·exfalso
    unfold shL at hg
    rcases ho with⟨k,els,e⟩ | ⟨k,els,c,r,e⟩ <;> (rw[e]at hg;cases hg)
   ·exact⟨_,_,_,rfl⟩
  obtain⟨a,n,c,rfl⟩:=hv
  obtain⟨ms,hu⟩:=sF0 ht
  refine Runs.rd (dH0 hS h1 ?_ ?_ (by simp only[binOp]) (by simp only[binOp]))
  ·cases op <;> rfl
  ·unfold Op.equal Op.maxDepth;rw[Op.equalIn,Sem.run_bind,run_underlying hu];rfl
 ·exact eG1 hS hx hy h
theorem lC0 (hS:Sim w F β look){t:TypeId}{x:Value}{v:V} (hx:RVs w F β look x v){e:Eff} (h:cW0 P look t v=some e) :
  Runs w F β look e ((do let v ← Instr.makeInterface t x;pure (.value v):Sem Next).run P w):=by
 unfold cW0 at h
 cases hu:P.underlying t with
 | none=>simp[hu]at h
 | some d=>
  have:(match d with | .interface _=>True | _=>False)∨(Instr.makeInterface t x).run P w = .ok (.iface t x) w:=by
   cases d <;> first | exact .inl trivial | (right;simp[Instr.makeInterface,run_underlying hu])
  rcases this with h1 | h1
  ·cases d <;> simp_all
  ·have hp:(∃ y,aP1 v=some y∧eff (.c (.d (.v (.iface t y))))=some e)∨qD0 look t v=some e:=by
    cases d <;> first | (simp[hu]at h;done) | (simp only[hu]at h;split at h;(rename_i y hy;exact .inl ⟨y,hy,h⟩);exact .inr h)
   rcases hp with⟨y,hy,he⟩ | hp
   ·obtain rfl:=dE1 hx hy
    exact Runs.eff hS he (x:= .iface t x) (by simp[h1]) (RepD.v rfl)
   ·unfold qD0 at hp
    split at hp
    ·rename_i cs
     cases hd:toDs look cs with
     | none=>simp[hd]at hp
     | some p=>
      obtain⟨ds,own⟩:=p
      simp only[hd,Option.some.injEq]at hp
      subst hp
      obtain⟨a,rfl,hall⟩:=hx
      have hown:=sK0 hd
      obtain⟨hS1,st1⟩:=gM0 (F:=F) own hS (lA0 hown)
      have hrep:=sL0 hS hall hd (hJ0 hS hown)
      refine⟨w,β,⟨hS1,st1⟩,.inl ⟨.iface t (.agg a),by simp[h1],?_⟩⟩
      exact RepD.i (by simpa using hrep.length) fun j v x p q=>hrep.get (by simpa using p) q
    ·exact Runs.eff hS hp (x:= .iface t x) (by simp[h1]) trivial
theorem aR1 : ∀ {vs:List V}{us:List Value}{l:List Nat},All2 (RVs w F β look) us vs→ptrs vs=some l→us=l.map (fun id:Nat=>iJ0 (β id))∧∀ id∈l,shL look id=some .box:=by
 intro vs
 induction vs with
 | nil=>intro us l h hp;cases h;simp only[ptrs,Option.some.injEq]at hp;subst hp;simp
 | cons v vs ih=>
  intro us l h hp
  cases h with
  | cons h1 h2=>
   unfold ptrs at hp
   split at hp
   ·rename_i heq;cases heq
   ·rename_i id r heq
    cases heq
    cases e:ptrs vs with
    | none=>simp[e]at hp
    | some l'=>
     simp only[e,Option.some.injEq]at hp
     subst hp
     obtain⟨a,b⟩:=ih h2 e
     obtain⟨c,d⟩:=h1
     refine⟨by rw[a,d];rfl,fun j hj=> ?_⟩
     rcases List.mem_cons.1 hj with rfl | hj
     ·exact c
     ·exact b j hj
   ·cases hp
theorem rK0 (hS:Sim w F β look){fn:Fn}{first caps:List Value}{vf vc:List V} (h1:All2 (RVs w F β look) first vf)(h2:All2 (RVs w F β look) caps vc){e:Eff} (h:aA0 fn vf vc=some e) :
  Runs w F β look e ((do let v ← Instr.makeFunc fn first.toArray caps.toArray;pure (.value v):Sem Next).run P w):=by
 unfold aA0 at h
 split at h
 ·rename_i f a b ha hb
  obtain⟨rfl,p⟩:=aR1 h1 ha
  obtain⟨rfl,q⟩:=aR1 h2 hb
  exact Runs.eff hS h (x:= .func (.func f) _ _) rfl ⟨rfl,fun id hid=>hid.elim (p id) (q id)⟩
 ·cases h
theorem uP0 (hS:Sim w F β look){i:Nat}{x:Value}{v:V} (hx:RVs w F β look x v){e:Eff} (h:extractA v i=some e) :
  Runs w F β look e ((do let v ← Instr.extract x i;pure (.value v):Sem Next).run P w):=by
 unfold extractA at h
 split at h
 ·rename_i vs
  obtain⟨a,rfl,hall⟩:=hx
  cases hp:vs[i]? with
  | none=>simp[hp]at h
  | some p=>
   simp only[hp]at h
   obtain⟨y,h1,h2⟩:=hall.get_right hp
   have h1':a[i]? = some y:=by simpa using h1
   refine Runs.eff hS h (x:=y) (by simp[Instr.extract,h1']) ?_
   obtain⟨b,cs⟩:=p
   cases b with
   | true=>obtain⟨a',rfl,h3⟩:=h2;exact⟨a',rfl,h3⟩
   | false=>obtain⟨z,h4,h3⟩:=h2;dsimp only at h4;subst h4;exact h3
 ·cases h
theorem mQ1 (hS:Sim w F β look){ty:Array TypeId}{t:TypeId}{xs:List Value}{vs:List V} (hx:All2 (RVs w F β look) xs vs){e:Eff} (h:maxA vs=some e) :
  Runs w F β look e ((do let v ← Builtin.max_ ty t xs.toArray;pure (.value v):Sem Next).run P w):=by
 unfold maxA at h
 split at h
 ·rename_i k x k' y
  cases hx with
  | cons h1 h2=>cases h2 with
   | cons h3 h4=>
    cases h4
    obtain⟨rfl,_⟩:=rv_v h1
    obtain⟨rfl,_⟩:=rv_v h3
    exact Runs.eff hS h (by simp[Builtin.max_,Builtin.max2]) (RepD.v rfl)
 ·cases h
theorem mR1 (hS:Sim w F β look){ty:Array TypeId}{t:TypeId}{xs:List Value}{vs:List V} (hx:All2 (RVs w F β look) xs vs){e:Eff} (h:minA vs=some e) :
  Runs w F β look e ((do let v ← Builtin.min_ ty t xs.toArray;pure (.value v):Sem Next).run P w):=by
 unfold minA at h
 split at h
 ·rename_i k x k' y
  cases hx with
  | cons h1 h2=>cases h2 with
   | cons h3 h4=>
    cases h4
    obtain⟨rfl,_⟩:=rv_v h1
    obtain⟨rfl,_⟩:=rv_v h3
    exact Runs.eff hS h (by simp[Builtin.min_,Builtin.min2]) (RepD.v rfl)
 ·cases h
theorem qH0 (hS:Sim w F β look){x:Value}{v:V} (hx:RVs w F β look x v){e:Eff} (h:aO1 v=some e) :
  Runs w F β look e ((do let v ← Instr.panic x;pure (.value v):Sem Next).run P w):=by
 unfold aO1 at h
 split at h
 ·cases h
  obtain⟨rfl,_⟩:=rv_v hx
  exact⟨w,β,Good.refl hS,by simp[Instr.panic,goPanic]⟩
 ·cases h
end
end
section
open Go
variable [Guest]
section
variable {P:Program}{w:World}{F:Nat→Prop}{β:Int→Nat}{look:Look}
theorem yM0 {id k:Nat}{els:List (List D)}{x:Value} (hl:look id=some (.arr k els))(hx:RVs w F β look x (.c (.own id))) :
  ∃ cap,x = .slice (some ⟨β id,bs β id,none⟩) els.length cap∧els.length≤cap∧∃ e sz,w.shape? (β id)=some (e,sz)∧bs β id+cap*k≤sz:=by
 have hs:shL look id=some (.arr k els.length):=by simp[shL,hl,shO]
 rcases hx with⟨k',n,cap,h1,h2,h3,h4⟩ | ⟨h1,_⟩ | ⟨k',n,cap,h1,_⟩
 ·rw[hs]at h1;cases h1;exact⟨cap,h2,h3,h4⟩
 ·rw[hs]at h1;cases h1
 ·rw[hs]at h1;cases h1
theorem rv_nil {x:Value} (hx:RVs w F β look x (.c (.d (.v (.slice none 0 0))))):x = .slice none 0 0:=(rv_v hx).1
theorem aV1 {x:Value}{k:Nat}{els:List (List D)}{gc:Bool} (hx:RVs w F β look x (.c (.d (.s k els gc)))):∃ a cap,x = .slice a els.length cap:=by
 rcases RepD.inv (show RepD w _ x (.s k els gc) from hx) with⟨rfl,a,cap,rfl⟩ | ⟨b,o,cap,c,rfl,_⟩
 ·exact⟨a,cap,rfl⟩
 ·exact⟨_,cap,rfl⟩
theorem hB1 (hS:Sim w F β look){t ty:TypeId} (hu:P.underlying t=some .string){x:Value}{v:V} (hx:RVs w F β look x v){e:Eff} (h:lenS v=some e) :
  Runs w F β look e ((do let v ← Builtin.len_ #[t] ty #[x];pure (.value v):Sem Next).run P w):=by
 unfold lenS at h
 split at h
 ·rename_i s
  obtain⟨rfl,_⟩:=rv_v hx
  exact Runs.eff hS h (x:= .int .i64 s.size) (by simp[Builtin.len_,run_underlying hu,goInt]) (RepD.v rfl)
 ·cases h
theorem mN1 (hS:Sim w F β look){t ty el:TypeId} (hu:P.underlying t=some (.slice el)){x:Value}{v:V} (hx:RVs w F β look x v){e:Eff} (h:lenA look v=some e) :
  Runs w F β look e ((do let v ← Builtin.len_ #[t] ty #[x];pure (.value v):Sem Next).run P w):=by
 unfold lenA at h
 split at h
 ·obtain⟨rfl,_⟩:=rv_v hx
  exact Runs.eff hS h (x:= .int .i64 _) (by simp[Builtin.len_,run_underlying hu,goInt]) (RepD.v rfl)
 ·rename_i k els gc
  obtain⟨a,cap,rfl⟩:=aV1 hx
  exact Runs.eff hS h (x:= .int .i64 els.length) (by simp[Builtin.len_,run_underlying hu,goInt]) (RepD.v rfl)
 ·rename_i id
  cases hl:look id with
  | none=>simp[hl]at h
  | some o=>
   cases o with
   | arr k els=>
    simp only[hl]at h
    obtain⟨cap,rfl,_⟩:=yM0 hl hx
    exact Runs.eff hS h (x:= .int .i64 els.length) (by simp[Builtin.len_,run_underlying hu,goInt]) (RepD.v rfl)
   | _=>simp[hl]at h
 ·cases h
theorem rS0 (hS:Sim w F β look){ρ:Operand→Value}{y:Operand}{o:Oper} (ho:o.op = .nilCheck y){v:V} (hx:RVs w F β look (ρ y) v){e:Eff} (h:nilCheckA look v=some e) :
  Runs w F β look e ((execOp ρ o).run P w):=by
 have key:∀ x,ρ y=x→(match x with | .pointer (some _)=>True | .func (.func _) _ _=>True | _=>False)→(execOp ρ o).run P w = .ok (.value x) w:=by
  intro x hx hm
  unfold execOp
  rw[ho]
  simp only[hx]
  split at hm
  ·rfl
  ·rfl
  ·exact hm.elim
 unfold nilCheckA at h
 split at h
 ·obtain⟨h1,h2⟩:=hx
  exact Runs.eff hS h (key _ h2 trivial) ⟨h1,rfl⟩
 ·obtain⟨b,o,cap,h1,h2,h3⟩:=hx
  exact Runs.eff hS h (key _ h3 trivial) ⟨b,o,cap,h1,h2,rfl⟩
 ·rename_i id i off
  cases hl:look id with
  | none=>simp[hl]at h
  | some q=>
  cases q <;> simp only[hl]at h <;> try (cases h;done)
  rcases hx with⟨k,n,h1,h2⟩ | ⟨h1,h2⟩
  ·exact Runs.eff hS h (key _ h2 trivial) (.inl ⟨k,n,h1,rfl⟩)
  ·simp[shL,hl,shO]at h1
 ·obtain⟨h1,h2⟩:=hx
  exact Runs.eff hS h (key _ h1 trivial) ⟨rfl,h2⟩
 ·cases h
theorem hZ1 (hS:Sim w F β look){c a b:Value}{vc va vb:V} (hc:RVs w F β look c vc)(ha:RVs w F β look a va)(hb:RVs w F β look b vb){e:Eff} (h:pickA vc va vb=some e) :
  Runs w F β look e ((do pure (.value (if ← asBool c then a else b)):Sem Next).run P w):=by
 unfold pickA at h
 split at h
 ·rename_i t
  obtain⟨rfl,_⟩:=rv_v hc
  cases t
  ·exact Runs.eff hS h (x:=b) (by simp[asBool]) hb
  ·exact Runs.eff hS h (x:=a) (by simp[asBool]) ha
 ·cases h
theorem hB0 {y:Option Value}{v:Option V}{dflt top n:Nat} (hy:match y,v with | some y,some v=>RVs w F β look y v | none,none=>True | _,_=>False)(h:gZ0 v dflt top=some n) :
  n≤max dflt top∧(v=none→n=dflt)∧(v≠none→n≤top)∧((y=none∧n=dflt)∨∃ k m,y=some (.int k m)∧0≤m∧m≤top∧n=m.toNat):=by
 unfold gZ0 at h
 cases v with
 | none=>
  simp only[Option.some.injEq]at h
  subst h
  cases y with
  | none=>exact⟨by omega,fun _=>rfl,fun h=>absurd rfl h,.inl ⟨rfl,rfl⟩⟩
  | some y=>exact hy.elim
 | some v=>
  cases y with
  | none=>exact hy.elim
  | some y=>
   dsimp only at h hy
   cases hn:num v with
   | none=>simp[hn]at h
   | some m=>
    simp only[hn]at h
    split at h
    case isFalse=>cases h
    rename_i hh
    cases h
    obtain⟨k,rfl,rfl⟩:=mE0 hy hn
    exact⟨by omega,fun h=>(by cases h),fun _=>by omega,.inr ⟨k,m,rfl,hh.1,hh.2,rfl⟩⟩
theorem aW0 {k:IntKind}{m:Int}{top:Nat}{code:BoundsCode} (h0:0≤m)(h1:m≤top):(Instr.sliceBound (.int k m) top code).run P w = .ok m.toNat w:=by
 simp[Instr.sliceBound,asIntOf,h0,h1]
theorem dL1 (hS:Sim w F β look){slot:Nat} (hs:look slot=none){t:TypeId}{x:Value}{v:V} (hx:RVs w F β look x v){lo hi mx:Option Value}{vl vh vm:Option V}
  (hlo:match lo,vl with | some y,some v=>RVs w F β look y v | none,none=>True | _,_=>False) (hhi:match hi,vh with | some y,some v=>RVs w F β look y v | none,none=>True | _,_=>False)
  (hmx:match mx,vm with | some y,some v=>RVs w F β look y v | none,none=>True | _,_=>False){e:Eff} (h:jD0 P look slot t v vl vh vm=some e) :
  Runs w F β look e ((do let v ← Instr.sliceAt t x lo hi mx;pure (.value v):Sem Next).run P w):=by
 unfold jD0 at h
 split at h
 ·rename_i hu
  split at h
  ·rename_i s
   cases mx with
   | some y=>exact hmx.elim
   | none=>
   obtain⟨rfl,_⟩:=rv_v hx
   cases hh:gZ0 vh s.size s.size with
   | none=>simp[hh]at h
   | some hN=>
    simp only[hh]at h
    cases hl:gZ0 vl 0 hN with
    | none=>simp[hl]at h
    | some lN=>
     simp only[hl]at h
     obtain⟨_,_,_,a1⟩:=hB0 hhi hh
     obtain⟨_,_,_,a2⟩:=hB0 hlo hl
     refine Runs.eff hS h (x:= .string (s.extract lN hN)) ?_ (RepD.v rfl)
     rcases a1 with⟨rfl,rfl⟩ | ⟨k1,m1,rfl,p1,p2,rfl⟩ <;> rcases a2 with⟨rfl,rfl⟩ | ⟨k2,m2,rfl,q1,q2,rfl⟩
     ·simp[Instr.sliceAt,Instr.slice,run_underlying hu,Instr.sliceBounds]
     ·simp[Instr.sliceAt,Instr.slice,run_underlying hu,Instr.sliceBounds,aW0 q1 q2]
     ·simp[Instr.sliceAt,Instr.slice,run_underlying hu,Instr.sliceBounds,aW0 p1 p2]
     ·simp[Instr.sliceAt,Instr.slice,run_underlying hu,Instr.sliceBounds,aW0 p1 p2,aW0 q1 q2]
  ·cases h
 ·rename_i el hu
  cases hsz:bN0 P el with
  | none=>simp[hsz]at h
  | some k=>
   simp only[hsz]at h
   split at h
   case isFalse=>cases h
   rename_i hk
   split at h
   ·rename_i k' els gc
    cases mx with
    | some y=>exact hmx.elim
    | none=>
    split at h
    case isFalse=>cases h
    rename_i hkk
    subst hkk
    cases hh:gZ0 vh els.length els.length with
    | none=>simp[hh]at h
    | some hN=>
     simp only[hh]at h
     cases hl:gZ0 vl 0 hN with
     | none=>simp[hl]at h
     | some lN=>
      simp only[hl]at h
      obtain⟨b1,b2,b3,a1⟩:=hB0 hhi hh
      obtain⟨b4,b5,b6,a2⟩:=hB0 hlo hl
      have hhN:hN≤els.length:=by clear a1 a2;omega
      have hlN:lN≤hN:=by clear a1 a2;omega
      have hr:RepD w (Nn w F β look) x (.s k' els gc):=hx
      obtain⟨a,cap,rfl⟩:=aV1 hx
      obtain⟨_,hfl⟩:=RepD.flat hk hr
      have hcap:els.length≤cap∨els.length=0:=by
       rcases hfl with rfl | ⟨_,_,_,_,_,_,_,h⟩
       ·exact .inr rfl
       ·exact .inl h
      refine Runs.eff hS h (x:= .slice (if cap=lN then a else a.map (·.add (lN*k'))) (hN - lN) (cap - lN)) ?_ ?_
      ·have hcap':∀ m:Int,m≤els.length→m≤cap:=fun m hm=>by rcases hcap with h | h <;> omega
       rcases a1 with⟨rfl,rfl⟩ | ⟨k1,m1,rfl,p1,p2,rfl⟩ <;> rcases a2 with⟨rfl,rfl⟩ | ⟨k2,m2,rfl,q1,q2,rfl⟩
       ·simp[Instr.sliceAt,Instr.slice,run_underlying hu,Instr.sliceBounds,aV0 hsz]
       ·simp[Instr.sliceAt,Instr.slice,run_underlying hu,Instr.sliceBounds,aV0 hsz,aW0 q1 q2]
       ·simp[Instr.sliceAt,Instr.slice,run_underlying hu,Instr.sliceBounds,aV0 hsz,aW0 p1 (hcap' m1 p2)]
       ·simp[Instr.sliceAt,Instr.slice,run_underlying hu,Instr.sliceBounds,aV0 hsz,aW0 p1 (hcap' m1 p2),aW0 q1 q2]
      ·have hlen:((els.take hN).drop lN).length=hN - lN:=by clear a1 a2;simp;omega
       show RepD w (Nn w F β look) _ (.s k' ((els.take hN).drop lN) gc)
       by_cases hz:hN - lN=0
       ·have:(els.take hN).drop lN=[]:=List.eq_nil_of_length_eq_zero (by clear a1 a2;omega)
        rw[this,hz]
        exact .e _ _ _ _
       ·rcases RepD.inv hr with⟨rfl,_⟩ | ⟨b,o,cap',c,e,hb,hc,hk2,hcell,hrep⟩
        ·clear a1 a2;simp at hhN;omega
        ·cases e
         rw[if_neg (by clear a1 a2;omega)]
         simp only[Option.map_some,dV0]
         have key:∀ i l,((els.take hN).drop lN)[i]? = some l→els[lN+i]? = some l:=by
          intro i l hi
          rw[List.getElem?_drop,List.getElem?_take]at hi
          split at hi
          ·exact hi
          ·cases hi
         have:=RepD.s (w:=w) (N:=Nn w F β look) (b:=b) (o:=o+lN*k') (cap:=cap - lN) (k:=k') (els:=(els.take hN).drop lN) (g:=gc) (fun i j=>c (lN+i) j) hb (by clear a1 a2;omega)
          (fun l hl=>hk2 l (List.mem_of_mem_take (List.mem_of_mem_drop hl)))
          (fun i l j x h1 h2=>by have:=hcell _ _ _ _ (key i l h1) h2;rw[← this];congr 2;rw[Nat.add_mul];clear a1 a2;omega)
          (fun i l j x h1 h2=>hrep _ _ _ _ (key i l h1) h2)
         rw[hlen]at this
         exact this
   ·rename_i id
    cases mx with
    | some y=>exact hmx.elim
    | none=>
    cases hlk:look id with
    | none=>simp[hlk]at h
    | some o=>
     cases o with
     | arr k' els=>
      simp only[hlk]at h
      split at h
      case isFalse=>cases h
      rename_i hkk
      subst hkk
      cases hh:gZ0 vh els.length els.length with
      | none=>simp[hh]at h
      | some hN=>
       simp only[hh]at h
       cases hl:gZ0 vl 0 hN with
       | none=>simp[hl]at h
       | some lN=>
        simp only[hl,Option.some.injEq]at h
        subst h
        obtain⟨b1,b2,b3,a1⟩:=hB0 hhi hh
        obtain⟨b4,b5,b6,a2⟩:=hB0 hlo hl
        have hhN:hN≤els.length:=by clear a1 a2;omega
        have hlN:lN≤hN:=by clear a1 a2;omega
        obtain⟨cap,rfl,hcap,el',sz,hsh,hcs⟩:=yM0 hlk hx
        obtain⟨vals,ty,hb,hc⟩:=(gW0 rfl).1 (hS.live id _ hlk rfl).2.2
        have hvs:vals.size=sz:=by have:=bC0 hb;rw[hsh]at this;cases this;rfl
        have e0:((els.take hN).drop lN).length=hN - lN:=by clear a1 a2;simp;omega
        generalize hz:(if cap=lN then bs β id else bs β id+lN*k')=z
        have hzc:z+(cap - lN)*k'≤sz:=by
         subst hz
         split
         ·rename_i e;rw[e,Nat.sub_self,Nat.zero_mul];clear a1 a2;omega
         ·have:lN*k'+(cap - lN)*k'=cap*k':=by rw[← Nat.add_mul];congr 1;clear a1 a2;omega
          clear a1 a2;omega
        have hzl:z+(hN - lN)*k'≤sz:=by
         have:(hN - lN)*k'≤(cap - lN)*k':=Nat.mul_le_mul_right k' (by clear a1 a2;omega)
         clear a1 a2;omega
        have hc':ROc w (Nn w F β look) β (shL look) vals z (.arr k' ((els.take hN).drop lN)):=by
         obtain⟨h0,h1,h2,h3⟩:=hc
         refine⟨h0,fun l hl=>h1 l (List.mem_of_mem_take (List.mem_of_mem_drop hl)),?_,fun i l j x p q=> ?_⟩
         ·rw[e0,hvs];exact hzl
         ·rw[List.getElem?_drop,List.getElem?_take]at p
          split at p
          ·rename_i hlt
           obtain⟨v,p1,p2⟩:=h3 _ l j x p q
           refine⟨v,?_,p2⟩
           subst hz
           rw[if_neg (by clear a1 a2;omega),← p1]
           congr 1
           rw[Nat.add_mul];clear a1 a2;omega
          ·cases p
        obtain⟨g1,g2,g3,g4,g5⟩:=aZ1 (w':=w) hS hlk hs (o:= .arr k' ((els.take hN).drop lN)) rfl hb rfl (fun _ _=>rfl) rfl rfl rfl hc'
        refine⟨w,_,⟨g1,g2⟩,.inl ⟨.slice (some ⟨β id,z,none⟩) (hN - lN) (cap - lN),?_,.inl ⟨k',hN - lN,cap - lN,by have:=g3;simp only[shO,e0]at this;exact this,by rw[g4,g5],by clear a1 a2;omega,el',sz,by rw[g4];exact hsh,by rw[g5];exact hzc⟩⟩⟩
        have hcap':∀ m:Int,m≤els.length→m≤cap:=fun m hm=>by clear a1 a2;omega
        have hadr:(if cap=lN then(some ⟨β id,bs β id,none⟩:Option Addr) else some ⟨β id,bs β id+lN*k',none⟩)=some ⟨β id,z,none⟩:=by
         subst hz;split <;> rfl
        rcases a1 with⟨rfl,rfl⟩ | ⟨k1,m1,rfl,p1,p2,rfl⟩ <;> rcases a2 with⟨rfl,rfl⟩ | ⟨k2,m2,rfl,q1,q2,rfl⟩
        ·simp[Instr.sliceAt,Instr.slice,run_underlying hu,Instr.sliceBounds,aV0 hsz,dV0]at hadr ⊢;exact hadr
        ·simp[Instr.sliceAt,Instr.slice,run_underlying hu,Instr.sliceBounds,aV0 hsz,aW0 q1 q2,dV0]at hadr ⊢;exact hadr
        ·simp[Instr.sliceAt,Instr.slice,run_underlying hu,Instr.sliceBounds,aV0 hsz,aW0 p1 (hcap' m1 p2),dV0]at hadr ⊢;exact hadr
        ·simp[Instr.sliceAt,Instr.slice,run_underlying hu,Instr.sliceBounds,aV0 hsz,aW0 p1 (hcap' m1 p2),aW0 q1 q2,dV0]at hadr ⊢;exact hadr
     | _=>simp[hlk]at h
   ·cases h
 ·cases h
end
end
section
open Go
variable [Guest]
section
variable {P:Program}{w:World}{F:Nat→Prop}{β:Int→Nat}{look:Look}
theorem mF1 {N:Nat→Prop}{k:Nat}:∀ {idx:List Nat}{us:List Value}{els:List (List D)} (n:Nat)(cur:Array Value),All2 (fun(u:Value) x=>All2 (RepD w N) u.cells.toList x) us els→idx.length=us.length →
  kB0 k n (idx.zip els)=true→(n+us.length)*k≤cur.size→∃ out,Instr.fill (fun i=>some (i*k,k)) cur (idx.zip us)=some out∧out.toList=cur.toList.take (n*k)++us.flatMap (fun u=>u.cells.toList)++cur.toList.drop ((n+us.length)*k)∧(∀ l∈els,l.length=k):=by
 intro idx
 induction idx with
 | nil=>
  intro us els n cur h hl _ _
  have:us=[]:=List.eq_nil_of_length_eq_zero (by simpa using hl.symm)
  subst this
  cases h
  exact⟨cur,rfl,by simp,by simp⟩
 | cons i idx ih=>
  intro us els n cur h hl ho hsz
  cases h with
  | nil=>simp at hl
  | @cons u x us els h1 h2=>
   simp only[List.zip_cons_cons,kB0,Bool.and_eq_true,decide_eq_true_eq]at ho
   obtain⟨⟨rfl,hk⟩,ho⟩:=ho
   have hcs:u.cells.size=k:=by have:=h1.length;simp at this;omega
   have e1:(i+(us.length+1))*k=i*k+k+us.length*k:=by rw[Nat.add_mul,Nat.add_mul];omega
   simp only[List.length_cons]at hsz
   have hstep:=uT0 (place:=fun i=>some (i*k,k)) (cur:=cur) (i:=i) (off:=i*k) (n:=k) (v:=u) (rest:=idx.zip us) rfl hcs (by omega)
   have hul:u.cells.toList.length=k:=by simpa using hcs
   have hcl:cur.toList.length=cur.size:=Array.length_toList
   have e2:(i+1+us.length)*k=i*k+k+us.length*k:=by rw[Nat.add_mul,Nat.add_mul];omega
   obtain⟨out,h3,h4,h5⟩:=ih (i+1) (cur.toList.take (i*k)++u.cells.toList++cur.toList.drop (i*k+k)).toArray h2 (by simpa using hl) ho (by simp;omega)
   refine⟨out,by rw[List.zip_cons_cons,hstep];exact h3,?_,?_⟩
   ·have h4':out.toList=(cur.toList.take (i*k)++u.cells.toList++cur.toList.drop (i*k+k)).take ((i+1)*k)++us.flatMap (fun u=>u.cells.toList)++(cur.toList.take (i*k)++u.cells.toList++cur.toList.drop (i*k+k)).drop ((i+1+us.length)*k):=h4
    rw[h4']
    have t1:(cur.toList.take (i*k)++u.cells.toList++cur.toList.drop (i*k+k)).take ((i+1)*k)=cur.toList.take (i*k)++u.cells.toList:=by
     rw[Nat.add_mul,Nat.one_mul]
     exact List.take_left' (by simp;omega)
    have t2:(cur.toList.take (i*k)++u.cells.toList++cur.toList.drop (i*k+k)).drop ((i+1+us.length)*k)=cur.toList.drop ((i+(us.length+1))*k):=by
     rw[e2,e1,List.drop_append]
     have:(cur.toList.take (i*k)++u.cells.toList).length=i*k+k:=by simp;omega
     rw[this,List.drop_eq_nil_of_le (by omega),List.nil_append,List.drop_drop]
     congr 1;omega
    rw[t1,t2]
    simp only[List.flatMap_cons,List.append_assoc,List.length_cons]
   ·intro l hl'
    rcases List.mem_cons.1 hl' with rfl | hl'
    ·exact hk
    ·exact h5 l hl'
theorem gO1 {N:Nat→Prop}{k:Nat} (hk:0<k):∀ {us:List Value}{els:List (List D)},All2 (fun(u:Value) x=>All2 (RepD w N) u.cells.toList x) us els→(∀ l∈els,l.length=k)→Flat w N k els (us.flatMap fun u=>u.cells.toList):=by
 intro us els h
 induction h with
 | nil=>intro _;exact⟨hk,by simp,by simp,by simp⟩
 | @cons u x us els h1 _ ih=>
  intro hl
  have hx:=hl x List.mem_cons_self
  have:=Flat.append (els:=[x]) (news:=u.cells.toList) (w:=w) (N:=N) (k:=k) ⟨hk,by simpa using hx,by have:=h1.length;simp;simp at this;omega,fun i l j y a b=>by
   cases i with
   | succ i=>simp at a
   | zero=>
    simp at a;subst a
    obtain⟨v,p,q⟩:=h1.get_right b
    exact⟨v,by simpa using p,q⟩⟩ (ih (fun l hm=>hl l (List.mem_cons_of_mem _ hm)))
  simpa using this
theorem vU0 {t:TypeId}{i:TypeInfo} (hi:P.info? t=some i){n:Nat} (h:bN0 P t=some n):i.size=n:=by simpa [bN0,hi] using h
theorem zO0 {t:TypeId}{i:TypeInfo} (hi:P.info? t=some i){n:Nat} (h:cL0 P t=some n):i.bytes=n:=by simpa [cL0,hi] using h
theorem nS0 (hS:Sim w F β look){slot:Nat} (hs:look slot=none){t:TypeId}{len:Nat}{parts:List (Nat × Operand)}{ρc:Operand→Value}{ρ:Operand→V} (hE:∀ y,RVs w F β look (ρc y) (ρ y)){e:Eff}
  (h:aS0 P look slot t len (parts.map fun p=>(p.1,ρ p.2))=some e) :
  Runs w F β look e ((do let v ← Instr.buildSlice t len (parts.toArray.map fun(i,x)=>(i,ρc x));pure (.value v):Sem Next).run P w):=by
 unfold aS0 at h
 cases he:iF0 P t with
 | none=>simp[he]at h
 | some el=>
  cases hsz:bN0 P el with
  | none=>simp[he,hsz]at h
  | some k=>
   simp only[he,hsz]at h
   cases hd:hZ0 look ((parts.map fun p=>(p.1,ρ p.2)).map (·.2)) with
   | none=>rw[hd]at h;cases h
   | some p=>
    obtain⟨els,own⟩:=p
    simp only[hd]at h
    split at h
    case isFalse=>cases h
    rename_i hh
    obtain⟨hlen,hk,hbig,ho,hz⟩:=hh
    cases h
    have hparts:All2 (RVs w F β look) (parts.map fun p=>ρc p.2) ((parts.map fun p=>(p.1,ρ p.2)).map (·.2)):=by
     clear hd ho hlen
     induction parts with
     | nil=>exact .nil
     | cons p l ih=>exact .cons (hE p.2) ih
    have hown:=jH1 hd
    obtain⟨hS1,st1⟩:=gM0 (F:=F) own hS (lA0 hown)
    have hrows:=jI1 hS hparts hd (hJ0 hS hown)
    obtain⟨zs,hzs⟩:=Option.isSome_iff_exists.1 hz
    obtain⟨i,z,hi,hz',hzrun,hzall⟩:=lN0 (P:=P) (w:=w) (N:=Nn w F β look) (β:=β) (sh:=shL look) hzs
    have hplen:parts.length=len:=by simpa using hlen
    have hm1:(parts.map fun p=>(p.1,ρ p.2)).map (·.1)=parts.map (·.1):=by simp[Function.comp_def]
    have ho':kB0 k 0 ((parts.map (·.1)).zip els)=true:=by rw[hm1]at ho;exact ho
    obtain⟨out,h1,h2,h3⟩:=mF1 (idx:=parts.map (·.1)) 0 ((Array.range (len*k)).map fun j=>((if len*k=0 then #[] else z.cells))[j % (if len*k=0 then #[] else z.cells).size]!) hrows (by simp) ho' (by simp[hplen])
    have hflat:=gO1 hk hrows h3
    have hout:out.toList=(parts.map fun p=>ρc p.2).flatMap fun u=>u.cells.toList:=by
     rw[h2]
     simp[hplen]
    have hnot:slot ∉ own:=by
     intro hm;obtain⟨_,_,hx⟩:=hown slot hm;rw[hs]at hx;cases hx
    have hs1:updL look (aU0 own) slot=none:=by rw[bO0,if_neg hnot,hs]
    have hcont:ROc w (Nn w F β (updL look (aU0 own))) β (shL (updL look (aU0 own))) out 0 (.arr k els):=by
     rw[← hout]at hflat
     exact hflat.content (Nat.zero_le _) (by rw[List.drop_zero,List.take_length])
    obtain⟨g1,g2,g3,g4,gb,g5⟩:=kJ0 (w':=w.alloc (.cells out el)) hS1 hs1 (o:= .arr k els) rfl rfl rfl rfl rfl hcont
    have hel:els.length=len:=by have:=hrows.length;simp[hplen]at this;exact this.symm
    have hol:out.size=len*k:=by have:=hflat.2.2.1;rw[← hout,hel]at this;simpa using this
    refine⟨_,_,⟨by rw[bA0];exact g1,by rw[bA0];exact st1.trans g2⟩,.inl ⟨.slice (some ⟨w.heap.size,0,none⟩) len len,?_,?_⟩⟩
    ·have hzip:(parts.map (·.1)).zip (parts.map fun p=>ρc p.2)=parts.map fun p=>(p.1,ρc p.2):=by rw[List.zip_map']
     rw[hzip]at h1
     have hnb:¬ (2^24<len*k):=by omega
     by_cases h0:len*k=0
     ·have hz0:∀ f:Nat→Value,(Array.range 0).map f = #[]:=fun f=>by simp
      simp only[h0,if_true,hz0]at h1
      simp[Instr.buildSlice,run_underlying (nI0 he),aV0 hsz,h0,newRow]
      rw[hz0,h1];rfl
     ·simp only[h0,if_false]at h1
      simp[Instr.buildSlice,run_underlying (nI0 he),aV0 hsz,hnb,h0,newRow,hzrun]
      rw[h1];rfl
    ·rw[bA0]
     exact .inl ⟨k,els.length,len,by simpa [updL,shO] using g3,by rw[g4,gb,hel],by omega,el,out.size,by rw[g4];simpa using g5,by rw[gb];omega⟩
theorem pP0 (hS:Sim w F β look){slot:Nat} (hs:look slot=none){t:TypeId}{l c:Value}{vl vc:V} (hl:RVs w F β look l vl)(hc:RVs w F β look c vc){e:Eff} (h:hD0 P slot t vl vc=some e) :
  Runs w F β look e ((do let v ← Instr.makeSlice t l c;pure (.value v):Sem Next).run P w):=by
 unfold hD0 at h
 cases he:iF0 P t with
 | none=>simp[he]at h
 | some el=>
  simp only[he]at h
  split at h
  case h_2=>cases h
  rename_i k b zs ln cn h1 h2 h3 h4 h5
  cases hd:toDs (fun _=>none) zs with
  | none=>rw[hd]at h;cases h
  | some p=>
   obtain⟨ds,q⟩:=p
   simp only[hd]at h
   split at h
   case isFalse=>cases h
   rename_i hh
   obtain⟨a1,a2,a3,a4,a5,a6⟩:=hh
   cases h
   obtain⟨kl,rfl,rfl⟩:=mE0 hl h4
   obtain⟨kc,rfl,rfl⟩:=mE0 hc h5
   obtain⟨i,z,hi,hz,_,hzall⟩:=lN0 (P:=P) (w:=w) (N:=Nn w F β look) (β:=β) (sh:=shL look) h3
   have hrun:=run_make (P:=P) w t el i z (nI0 he) hi hz kl kc ln cn a1 a2 (by rw[zO0 hi h2];exact a4) a3
   have hds:All2 (RepD w (Nn w F β look)) z.cells.toList ds:=by
    have key:∀ (zs:List C) (vs:List Value) (ds:List D) (q:List Nat),All2 (RK w (Nn w F β look) β (shL look)) vs zs→toDs (fun _=>none) zs=some (ds,q)→All2 (RepD w (Nn w F β look)) vs ds:=by
     intro zs
     induction zs with
     | nil=>intro vs ds q h hd;cases h;simp only[toDs,Option.some.injEq,Prod.mk.injEq]at hd;obtain⟨rfl,_⟩:=hd;exact .nil
     | cons c cs ih=>
      intro vs ds q h hd
      cases h with
      | cons h1 h2=>
       simp only[toDs]at hd
       cases e1:toD (fun _=>none) c with
       | none=>simp[e1]at hd
       | some p=>
        obtain⟨d,a⟩:=p
        cases e2:toDs (fun _=>none) cs with
        | none=>simp[e1,e2]at hd
        | some r=>
         obtain⟨ds',b'⟩:=r
         simp only[e1,e2,Option.some.injEq,Prod.mk.injEq]at hd
         obtain⟨rfl,_⟩:=hd
         refine .cons ?_ (ih _ _ _ h2 e2)
         cases c with
         | d y=>simp only[toD,Option.some.injEq,Prod.mk.injEq]at e1;obtain⟨rfl,_⟩:=e1;exact h1.2
         | own id=>simp[toD]at e1
         | _=>cases e1
    exact key _ _ _ _ hzall hd
   have hzk:z.cells.size=k:=by have:=hds.length;simp at this;omega
   have hisz:=vU0 hi h1
   have hlt:∀ m j,m<ln.toNat→j<k→m*k+j<cn.toNat*k:=by
    intro m j hm hj
    have:(m+1)*k≤cn.toNat*k:=Nat.mul_le_mul_right k (by omega)
    rw[Nat.succ_mul]at this;omega
   have hcont:ROc w (Nn w F β look) β (shL look) (madeCells z.cells (cn.toNat*i.size)) 0 (.arr k (List.replicate ln.toNat ds)):=by
    refine⟨a5,fun l hl=>by rw[(List.mem_replicate.1 hl).2];exact a6,?_,fun m l j x p q=> ?_⟩
    ·rw[size_madeCells,hisz,List.length_replicate,Nat.zero_add];exact Nat.mul_le_mul_right k (by omega)
    ·rw[List.getElem?_replicate]at p
     split at p
     case isFalse=>cases p
     rename_i hm
     cases p
     have hj:j<k:=by
      rcases Nat.lt_or_ge j k with h | h
      ·exact h
      ·rw[List.getElem?_eq_none (by omega)]at q;cases q
     obtain⟨v,p1,p2⟩:=hds.get_right q
     refine⟨v,?_,p2⟩
     rw[Nat.zero_add]
     have e1:(m*k+j) % z.cells.size=j:=by rw[hzk,Nat.mul_comm,Nat.mul_add_mod];exact Nat.mod_eq_of_lt hj
     have hjz:j<z.cells.size:=by omega
     have e3:z.cells[j]? = some v:=by simpa using p1
     have e4:z.cells[j]! = v:=by simp[hjz]at e3 ⊢;exact e3
     simp only[madeCells,Array.getElem?_map]
     rw[Array.getElem?_range,if_pos (by rw[hisz];exact hlt m j hm hj)]
     simp only[Option.map_some,e1,e4]
   obtain⟨g1,g2,g3,g4,gb,g5⟩:=kJ0 (w':=w.alloc (.cells (madeCells z.cells (cn.toNat*i.size)) el)) hS hs (o:= .arr k (List.replicate ln.toNat ds)) rfl rfl rfl rfl rfl hcont
   refine⟨_,_,⟨g1,g2⟩,.inl ⟨.slice (some ⟨w.heap.size,0,none⟩) ln.toNat cn.toNat,by rw[Sem.run_bind,hrun];rfl,?_⟩⟩
   exact .inl ⟨k,ln.toNat,cn.toNat,by simpa [updL,shO] using g3,by rw[g4,gb],by omega,el,_,by rw[g4];simpa using g5,by rw[gb,size_madeCells,hisz,Nat.zero_add];exact Nat.le_refl _⟩
end
end
section
open Go
variable [Guest]
section
variable {P:Program}{w:World}{F:Nat→Prop}{β:Int→Nat}{look:Look}
theorem dU1 {k:Nat}{v:V}{new:List (List D)}{o2:List Nat} (h:eS0 look k v=some (new,o2)):∀ id∈o2,∃ k els,look id=some (.arr k els):=by
 unfold eS0 at h
 split at h
 ·split at h
  ·cases h;simp
  ·cases h
 ·cases h;simp
 ·rename_i id
  split at h
  ·rename_i k' els hl
   split at h
   ·cases h
    intro j hj
    simp at hj
    subst hj
    exact⟨_,_,hl⟩
   ·cases h
  ·split at h
   ·cases h;simp
   ·cases h
  ·cases h
 ·cases h
theorem bD1 (hS:Sim w F β look){id k:Nat}{els:List (List D)}{cur:Option Nat}{root:Bool}{v:Value} (hl:look id=some (.stk k els cur root))(h:RC w (Nn w F β look) β (shL look) v (.own id)) :
  ∃ cap vals ty,v = .slice (some ⟨β id,bs β id,none⟩) els.length cap∧els.length≤cap∧w.heap[β id]? = some (.cells vals ty (0,0))∧bs β id+cap*k≤vals.size∧0<k∧bs β id≤vals.size∧Flat w (Nn w F β look) k els ((vals.toList.drop (bs β id)).take (els.length*k)):=by
 have hs:shL look id=some (.stk k els.length):=by simp[shL,hl,shO]
 rcases h with⟨k',n,cap,h1,_⟩ | ⟨h1,_⟩ | ⟨k',n,cap,h1,rfl,h2,e,sz,h3,h4⟩
 ·rw[hs]at h1;cases h1
 ·rw[hs]at h1;cases h1
 ·rw[hs]at h1
  cases h1
  obtain⟨_,_,hr⟩:=hS.live id _ hl rfl
  obtain⟨vals,ty,hb,hc⟩:=(gW0 rfl).1 hr
  have hsz:vals.size=sz:=by have:=bC0 hb;rw[h3]at this;cases this;rfl
  have hf:ROc w (Nn w F β look) β (shL look) vals (bs β id) (.arr k els):=hc
  refine⟨cap,vals,ty,rfl,h2,hb,by rw[hsz];exact h4,hc.1,by omega,ROc.flat hf⟩
theorem dV1 (hS:Sim w F β look){k:Nat} (hk:0<k){x:Value}{v:V} (hx:RVs w F β look x v){new:List (List D)}{o2:List Nat} (h:eS0 look k v=some (new,o2)){N':Nat→Prop} (hw:Wide (Nn w F β look) N' β o2) :
  (new=[]∧∃ a cap,x = .slice a 0 cap)∨∃ g o cap news,x = .slice (some ⟨g,o,none⟩) new.length cap∧Flat w N' k new news∧At w g o news:=by
 have fl:∀ {x:Value}{els:List (List D)}{gc:Bool},RepD w N' x (.s k els gc)→(els=[]∧∃ a cap,x = .slice a 0 cap)∨∃ g o cap news,x = .slice (some ⟨g,o,none⟩) els.length cap∧Flat w N' k els news∧At w g o news:=by
  intro x els gc hr
  rcases RepD.inv hr with⟨rfl,a,cap,rfl⟩ | ⟨b,o,cap,c,rfl,_⟩
  ·exact .inl ⟨rfl,a,cap,rfl⟩
  ·obtain⟨_,hf⟩:=RepD.flat hk hr
   rcases hf with rfl | ⟨g,o',news,e,hg,h1,h2,_⟩
   ·exact .inl ⟨rfl,_,cap,rfl⟩
   ·cases e
    exact .inr ⟨b,o,cap,news,rfl,h1,h2⟩
 unfold eS0 at h
 split at h
 ·rename_i k' els gc
  split at h
  ·rename_i hh
   cases h
   have hr:RepD w N' x (.s k' new gc):=RepD.mono (bM0 hw.all) hx
   rcases hh with rfl | rfl
   ·exact fl hr
   ·rcases RepD.inv hr with⟨_,a,cap,rfl⟩ | ⟨b,o,cap,c,rfl,_⟩
    ·exact .inl ⟨rfl,a,cap,rfl⟩
    ·exact .inl ⟨rfl,_,cap,rfl⟩
  ·cases h
 ·cases h
  exact .inl ⟨rfl,_,_,(rv_v hx).1⟩
 ·rename_i id
  split at h
  ·rename_i k' els hl
   split at h
   ·rename_i hh
    subst hh
    cases h
    exact fl (wL0 hS hl hx hw.all (hw.own id (by simp)))
   ·cases h
  ·rename_i k' els cur root hl
   split at h
   ·rename_i hh
    subst hh
    cases h
    obtain⟨cap,vals,ty,rfl,_,hb,_,_,_,hf⟩:=bD1 hS hl hx
    exact .inr ⟨_,_,cap,_,rfl,hf.mono (bM0 hw.all),(At.of_drop hb _).take _⟩
   ·cases h
  ·cases h
 ·cases h
theorem jS0 {t ty:TypeId}{el n cap:Nat}{a0 a:Option Addr}{c:Nat} (ht:P.underlying t=some (.slice el)){k:Nat} (hs:bN0 P el=some k)(hn:n≤cap) :
  (Builtin.append_ #[t,t] ty #[.slice a0 n cap,.slice a 0 c]).run P w = .ok (.slice a0 n cap) w:=by
 cases a0 <;> cases a <;> simp[Builtin.append_,run_underlying ht,aV0 hs,Builtin.lenOf,hn,Builtin.firstCells,loadCells,loadCellsFrom,storeCells]
theorem nO0 {t ty el e':TypeId}{i:TypeInfo} (ht:P.underlying t=some (.slice el))(hi:P.info? el=some i){g z sLen sCap:Nat}{cur:Array Value} (hg:w.heap[g]? = some (.cells cur e' (0,0)))
  {a:Addr}{m c:Nat}{news:List Value} (hl:news.length=m*i.size) (hnews:∀ j u,news[j]? = some u→w.cell? (a.add j)=some u) (h1:∀ u∈news,u.oneCell'=true)
  (hroom:sLen+m≤sCap) (hfit:z+sLen*i.size+news.length≤cur.size) :
  (Builtin.append_ #[t,t] ty #[.slice (some ⟨g,z,none⟩) sLen sCap,.slice (some a) m c]).run P w =
   .ok (.slice (some ⟨g,z,none⟩) (sLen+m) sCap) (w.setRow g (cur.toList.take (z+sLen*i.size)++news++cur.toList.drop (z+sLen*i.size+news.length)).toArray):=by
 have hf:=run_firstCells_some (P:=P) w i.size m a m c news hl hnews
 have hst:=run_storeCells_at P g (z+sLen*i.size) e' news 0 cur w hg (by simpa using hfit) h1
 simp only[Nat.add_zero]at hst
 simp[Builtin.append_,run_underlying ht,sizeOf,typeInfo,hi,Builtin.lenOf,hroom,hf,Addr.add_lit,hst]
theorem wG0 (hS:Sim w F β look){slot:Nat} (hs:look slot=none){types:Array TypeId}{ty:TypeId}{xs:List Value}{vs:List V} (hx:All2 (RVs w F β look) xs vs){e:Eff} (h:bH0 P look slot types.toList vs=some e) :
  Runs w F β look e ((do let v ← Builtin.append_ types ty xs.toArray;pure (.value v):Sem Next).run P w):=by
 unfold bH0 at h
 split at h
 case h_2=>cases h
 rename_i t u s x htypes
 by_cases htu:t=u
 case neg=>rw[if_pos htu]at h;cases h
 subst htu
 rw[if_neg (by simp)]at h
 have hty:types = #[t,t]:=by rw[← Array.toArray_toList (xs:=types),htypes]
 subst hty
 cases hx with
 | @cons vs0 _ _ _ hs0 hx1=>
 cases hx1 with
 | @cons vx _ _ _ hx0 hx2=>
 cases hx2
 cases he:iF0 P t with
 | none=>simp[he]at h
 | some el=>
  simp only[he]at h
  cases hsz:bN0 P el with
  | none=>simp[hsz]at h
  | some k=>
   cases hby:cL0 P el with
   | none=>simp[hsz,hby]at h
   | some b=>
    simp only[hsz,hby]at h
    split at h
    case isFalse=>cases h
    rename_i hh
    obtain⟨hk,hz⟩:=hh
    obtain⟨zs,hzs,hzl⟩:=Option.map_eq_some_iff.1 hz
    obtain⟨i,z,hi,hz',_,hzall⟩:=lN0 (P:=P) (w:=w) (N:=Nn w F β look) (β:=β) (sh:=shL look) hzs
    have hzk:z.cells.size=k:=by have:=hzall.length;simp at this;omega
    have hisz:=vU0 hi hsz
    have hiby:=zO0 hi hby
    have hu:=nI0 he
    cases ha:eS0 look k x with
    | none=>simp[ha]at h
    | some p=>
     obtain⟨new,o2⟩:=p
     simp only[ha]at h
     have ho2:=dU1 ha
     have hwide:=hJ0 hS ho2
     have hadd:=dV1 hS hk hx0 ha hwide
     obtain⟨hS1,st1⟩:=gM0 (F:=F) o2 hS (lA0 ho2)
     have hnots:slot ∉ o2:=by
      intro hm;obtain⟨_,_,hq⟩:=ho2 slot hm;rw[hs]at hq;cases hq
     have hs1:updL look (aU0 o2) slot=none:=by rw[bO0,if_neg hnots,hs]
     split at h
     ·obtain rfl:=rv_nil hs0
      cases new with
      | nil=>
       cases h
       have hx':∃ a c,vx = .slice a 0 c:=by
        rcases hadd with⟨_,a,c,rfl⟩ | ⟨g,o,c,news,rfl,_⟩
        ·exact⟨a,c,rfl⟩
        ·exact⟨_,c,rfl⟩
       obtain⟨a,c,rfl⟩:=hx'
       exact Runs.pure hS (x:= .slice none 0 0) (by rw[Sem.run_bind,jS0 hu hsz (Nat.le_refl 0)];rfl) (RepD.v rfl)
      | cons n0 new=>
       dsimp only at h
       split at h
       case isFalse=>cases h
       rename_i hb
       cases h
       rcases hadd with⟨h0,_⟩ | ⟨g,o,c,news,rfl,hfl,hat⟩
       ·cases h0
       ·have hnl:news.length=(n0::new).length*i.size:=by rw[hisz];exact hfl.2.2.1
        generalize hN:(n0::new).length=n at *
        have hrun:=run_append_nil (P:=P) w t ty el i z hu hi hz' ⟨g,o,none⟩ n c news hnl (fun j v hj=>by rw[dV0];exact hat j v hj) (by rw[← hN];simp) (by omega) (by rw[hiby];omega)
        have hge:=grownCap_ge w n 0 el
        generalize grownCap w n 0 el=cap' at *
        have hcont:ROc w (Nn w F β (updL look (aU0 o2))) β (shL (updL look (aU0 o2))) (news.toArray++Builtin.zeroCells z.cells (cap' - n)) 0 (.arr k (n0::new)):=
         hfl.content (Nat.zero_le _) (by rw[List.drop_zero,Array.toList_append];exact List.take_left)
        obtain⟨g1,g2,g3,g4,gb,g5⟩:=kJ0 (w':=w.drew.alloc (.cells (news.toArray++Builtin.zeroCells z.cells (cap' - n)) el)) hS1 hs1 (o:= .arr k (n0::new)) rfl rfl rfl rfl rfl hcont
        refine⟨_,_,⟨by rw[bA0];exact g1,by rw[bA0];exact st1.trans g2⟩,.inl ⟨_,by rw[Sem.run_bind,hrun];rfl,?_⟩⟩
        rw[bA0]
        refine .inl ⟨k,n,cap',by rw[← hN];exact g3,by rw[g4,gb],hge,el,news.length+(Builtin.zeroCells z.cells (cap' - n)).size,by rw[g4];simpa using g5,?_⟩
        rw[gb,Nat.zero_add,size_zeroCells,hnl,hisz,hzk,← Nat.add_mul]
        exact Nat.mul_le_mul_right k (by omega)
     ·rename_i id
      cases hl:look id with
      | none=>simp[hl]at h
      | some q=>
       cases q with
       | arr k' els=>
        simp only[hl]at h
        split at h
        case isFalse=>cases h
        rename_i hh
        obtain⟨rfl,hb,h63,hno⟩:=hh
        cases h
        have hno':id ∉ o2:=by simpa using hno
        have hl1:updL look (aU0 o2) id=some (.arr k' els):=by rw[bO0,if_neg hno',hl]
        obtain⟨cap,rfl,hcap,el',sz,hsh,hcs⟩:=yM0 hl hs0
        obtain⟨hbl,hbF,hRO⟩:=hS1.live id _ hl1 rfl
        obtain⟨vals,ty',hbk,hc⟩:=(gW0 rfl).1 hRO
        have hvs:vals.size=sz:=by have:=bC0 hbk;rw[hsh]at this;cases this;rfl
        have hfl0:=ROc.flat hc
        have hupd:updL look (aU0 o2++[(id,O.gone),(slot,O.arr k' (els++new))])=upd1 (upd1 (updL look (aU0 o2)) id .gone) slot (.arr k' (els++new)):=by rw[bA0];rfl
        have same:∀ (w':World) (vals':Array Value),w'.heap[β id]? = some (.cells vals' ty' (0,0))→vals'.size=vals.size→w'.heap.size=w.heap.size→(∀ b,b≠β id→w'.heap[b]? = w.heap[b]?)→w'.os=w.os→w'.tape=w.tape→w'.output=w.output →
          ROc w (Nn w F β (updL look (aU0 o2))) β (shL (updL look (aU0 o2))) vals' (bs β id) (.arr k' (els++new))→els.length+new.length≤cap →
          (Builtin.append_ #[t,t] ty #[.slice (some ⟨β id,bs β id,none⟩) els.length cap,vx]).run P w = .ok (.slice (some ⟨β id,bs β id,none⟩) (els.length+new.length) cap) w' →
          Runs w F β look ⟨.val (.c (.own slot)),aU0 o2++[(id,.gone),(slot,.arr k' (els++new))],o2++[id]⟩ ((do let v ← Builtin.append_ #[t,t] ty #[.slice (some ⟨β id,bs β id,none⟩) els.length cap,vx];pure (.value v):Sem Next).run P w):=by
         intro w' vals' p1 p2 p3 p4 p5 p6 p7 p8 p9 p10
         obtain⟨g1,g2,g3,g4,gb⟩:=aZ1 (w':=w') hS1 hl1 hs1 (o:= .arr k' (els++new)) rfl p1 p3 p4 p5 p6 p7 p8
         refine⟨w',_,⟨by rw[hupd];exact g1,by rw[hupd];exact st1.trans g2⟩,.inl ⟨_,by rw[Sem.run_bind,p10];rfl,?_⟩⟩
         rw[hupd]
         refine .inl ⟨k',els.length+new.length,cap,by rw[g3];simp[shO],by rw[g4,gb],p9,ty',vals'.size,by rw[g4];simpa using bC0 p1,by rw[gb,p2,hvs];exact hcs⟩
        rcases hadd with⟨rfl,a,c,rfl⟩ | ⟨g,o,c,news,rfl,hfl,hat⟩
        ·refine same w vals hbk rfl rfl (fun _ _=>rfl) rfl rfl rfl (by simpa using hc) (by simpa using hcap) ?_
         have:=jS0 (P:=P) (w:=w) (ty:=ty) (a0:=some ⟨β id,bs β id,none⟩) (a:=a) (c:=c) hu hsz hcap
         simpa using this
        ·have hnl:news.length=new.length*i.size:=by rw[hisz];exact hfl.2.2.1
         by_cases hroom:els.length+new.length≤cap
         ·have hfit:bs β id+els.length*k'+news.length≤vals.size:=by
           have:(els.length+new.length)*k'≤cap*k':=Nat.mul_le_mul_right k' hroom
           rw[Nat.add_mul]at this
           rw[hnl,hisz];omega
          have hvl:vals.toList.length=vals.size:=Array.length_toList
          have hrun:=nO0 (P:=P) (ty:=ty) hu hi hbk (a:=⟨g,o,none⟩) (m:=new.length) (c:=c) hnl (fun j v hj=>by rw[dV0];exact hat j v hj) (fun u hu=>mF0 (hfl.cell u hu)) hroom (by rw[hisz];exact hfit)
          rw[hisz]at hrun
          refine same _ _ (setRow_heap w _ _ _ _ _ hbk) (by simp;omega) (gK0 _ _ _) (fun b hb=>dT0 _ _ _ _ hb) rfl rfl rfl ?_ hroom hrun
          have:=hfl0.append hfl
          refine this.content (by simp;omega) ?_
          have e1:(vals.toList.take (bs β id+els.length*k')).drop (bs β id)=(vals.toList.drop (bs β id)).take (els.length*k'):=by rw[List.drop_take];congr 1;omega
          have e2:bs β id≤(vals.toList.take (bs β id+els.length*k')).length:=by simp;omega
          rw[List.append_assoc,List.drop_append_of_le_length e2,e1,← List.append_assoc]
          exact List.take_left
         ·have holds:∀ j v,((vals.toList.drop (bs β id)).take (els.length*k'))[j]? = some v→w.cell? ((⟨β id,bs β id,none⟩:Addr).add j)=some v:=by
           intro j v hj
           rw[dV0]
           exact((At.of_drop hbk _).take _) j v hj
          have hrun:=run_append_grow (P:=P) w t ty el i z hu hi hz' ⟨β id,bs β id,none⟩ els.length cap ((vals.toList.drop (bs β id)).take (els.length*k')) (by rw[hisz];exact hfl0.2.2.1) holds ⟨g,o,none⟩ new.length c news hnl (fun j v hj=>by rw[dV0];exact hat j v hj) (by omega) (by omega) (growslice_fits (by omega) (by rw[hiby];exact hb))
          have hge:=grownCap_ge w (els.length+new.length) cap el
          generalize grownCap w (els.length+new.length) cap el=cap' at *
          obtain⟨hS2,st2⟩:=sE0 (F:=F) hS1 (id:=id) ⟨.arr k' els.length,by simp[shL,hl1,shO],by simp⟩
          have hs2:upd1 (updL look (aU0 o2)) id .gone slot=none:=by
           have:slot≠id:=by rintro rfl;rw[hs]at hl;cases hl
           simp[upd1,this,hs1]
          have hcont:ROc w (Nn w F β (upd1 (updL look (aU0 o2)) id .gone)) β (shL (upd1 (updL look (aU0 o2)) id .gone)) (((vals.toList.drop (bs β id)).take (els.length*k')).toArray++news.toArray++Builtin.zeroCells z.cells (cap' - (els.length+new.length))) 0 (.arr k' (els++new)):=by
           have:=(hfl0.append hfl).mono st2.keep
           refine this.content (Nat.zero_le _) ?_
           rw[List.drop_zero,Array.toList_append,Array.toList_append]
           exact List.take_left
          obtain⟨g1,g2,g3,g4,gb,g5⟩:=kJ0 (w':=w.drew.alloc (.cells (((vals.toList.drop (bs β id)).take (els.length*k')).toArray++news.toArray++Builtin.zeroCells z.cells (cap' - (els.length+new.length))) el)) hS2 hs2 (o:= .arr k' (els++new)) rfl rfl rfl rfl rfl hcont
          refine⟨_,_,⟨by rw[hupd];exact g1,by rw[hupd];exact st1.trans (st2.trans g2)⟩,.inl ⟨_,by rw[Sem.run_bind,hrun];rfl,?_⟩⟩
          rw[hupd]
          refine .inl ⟨k',els.length+new.length,cap',by rw[g3];simp[shO],by rw[g4,gb],hge,el,min (els.length*k') (vals.size - bs β id)+news.length+(Builtin.zeroCells z.cells (cap' - (els.length+new.length))).size,by rw[g4];simpa using g5,?_⟩
          have hmin:min (els.length*k') (vals.size - bs β id)=els.length*k':=by have:=hfl0.2.2.1;simpa using this
          rw[gb,Nat.zero_add,hmin,size_zeroCells,hnl,hisz,hzk,← Nat.add_mul,← Nat.add_mul]
          exact Nat.mul_le_mul_right k' (by omega)
       | stk k' els cur root=>
        cases root with
        | false=>simp[hl]at h
        | true=>
        simp only[hl]at h
        split at h
        case isFalse=>cases h
        rename_i hh
        obtain⟨rfl,hb,h63,hno,hpos⟩:=hh
        have hno':id ∉ o2:=by simpa using hno
        have hl1:updL look (aU0 o2) id=some (.stk k' els cur true):=by rw[bO0,if_neg hno',hl]
        obtain⟨cap,vals,ty',rfl,hcap,hbk,hcs,hk0,hzl,hfl0⟩:=bD1 hS hl hs0
        have key:∀ (look2:Look) (upd0:List (Nat × O)) (rd0:List Nat),Sim w F β look2→St (fun _=>True) w β (updL look (aU0 o2)) w β look2→look2 id=some (.stk k' els cur true)→(∀ c,cur=some c→bI0 (look2 c)=false)→look2 slot=none →
          updL look (upd0++[(id,.stk k' els (some slot) true),(slot,.stk k' (els++new) none false)])=upd1 (upd1 look2 id (.stk k' els (some slot) true)) slot (.stk k' (els++new) none false) →
          Runs w F β look ⟨.val (.c (.own slot)),upd0++[(id,.stk k' els (some slot) true),(slot,.stk k' (els++new) none false)],rd0⟩ ((do let v ← Builtin.append_ #[t,t] ty #[.slice (some ⟨β id,bs β id,none⟩) els.length cap,vx];pure (.value v):Sem Next).run P w):=by
         intro look2 upd0 rd0 hS2 st2 hl2 hc2 hs2 hupd
         rcases hadd with⟨rfl,_⟩ | ⟨g,o,c,news,rfl,hfl,hat⟩
         ·simp at hpos
         ·have hnl:news.length=new.length*i.size:=by rw[hisz];exact hfl.2.2.1
          have hflc:Flat w (Nn w F β look2) k' (els++new) ((vals.toList.drop (bs β id)).take (els.length*k')++news):=((hfl0.mono st1.keep).append hfl).mono st2.keep
          by_cases hroom:els.length+new.length≤cap
          ·have hfit:bs β id+els.length*k'+news.length≤vals.size:=by
            have:(els.length+new.length)*k'≤cap*k':=Nat.mul_le_mul_right k' hroom
            rw[Nat.add_mul]at this
            rw[hnl,hisz];omega
           have hvl:vals.toList.length=vals.size:=Array.length_toList
           have hrun:=nO0 (P:=P) (ty:=ty) hu hi hbk (a:=⟨g,o,none⟩) (m:=new.length) (c:=c) hnl (fun j v hj=>by rw[dV0];exact hat j v hj) (fun u hu=>mF0 (hfl.cell u hu)) hroom (by rw[hisz];exact hfit)
           rw[hisz]at hrun
           have hcont:ROc w (Nn w F β look2) β (shL look2) (vals.toList.take (bs β id+els.length*k')++news++vals.toList.drop (bs β id+els.length*k'+news.length)).toArray (bs β id) (.arr k' (els++new)):=by
            refine hflc.content (by simp;omega) ?_
            have e1:(vals.toList.take (bs β id+els.length*k')).drop (bs β id)=(vals.toList.drop (bs β id)).take (els.length*k'):=by rw[List.drop_take];congr 1;omega
            have e2:bs β id≤(vals.toList.take (bs β id+els.length*k')).length:=by simp;omega
            rw[List.append_assoc,List.drop_append_of_le_length e2,e1,← List.append_assoc]
            exact List.take_left
           have hvs:(vals.toList.take (bs β id+els.length*k')++news++vals.toList.drop (bs β id+els.length*k'+news.length)).toArray.size=vals.size:=by simp;omega
           generalize (vals.toList.take (bs β id+els.length*k')++news++vals.toList.drop (bs β id+els.length*k'+news.length)).toArray=vals' at hrun hcont hvs
           have hset:=setRow_heap w (β id) vals vals' ty' _ hbk
           obtain⟨g1,g2,g3,g4,g5⟩:=iV1 (w':=w.setRow (β id) vals') hS2 hl2 hc2 hs2 hbk hset hvs (gK0 _ _ _) (fun b hb=>dT0 _ _ _ _ hb) rfl rfl rfl hcont
           refine⟨_,_,⟨by rw[hupd];exact g1,by rw[hupd];exact st1.trans (st2.trans g2)⟩,.inl ⟨_,by rw[Sem.run_bind,hrun];rfl,?_⟩⟩
           rw[hupd]
           refine .inr (.inr ⟨k',els.length+new.length,cap,by rw[g3];simp,by rw[g4,g5],hroom,ty',vals.size,by rw[g4,bC0 hset,hvs],by rw[g5];exact hcs⟩)
          ·have holds:∀ j v,((vals.toList.drop (bs β id)).take (els.length*k'))[j]? = some v→w.cell? ((⟨β id,bs β id,none⟩:Addr).add j)=some v:=by
            intro j v hj
            rw[dV0]
            exact((At.of_drop hbk _).take _) j v hj
           have hrun:=run_append_grow (P:=P) w t ty el i z hu hi hz' ⟨β id,bs β id,none⟩ els.length cap ((vals.toList.drop (bs β id)).take (els.length*k')) (by rw[hisz];exact hfl0.2.2.1) holds ⟨g,o,none⟩ new.length c news hnl (fun j v hj=>by rw[dV0];exact hat j v hj) (by omega) (by omega) (growslice_fits (by omega) (by rw[hiby];exact hb))
           have hge:=grownCap_ge w (els.length+new.length) cap el
           generalize grownCap w (els.length+new.length) cap el=cap' at *
           obtain⟨hS3,st3⟩:=vA1 hS2 hl2 hc2 (some slot)
           have hs3:upd1 look2 id (.stk k' els (some slot) true) slot=none:=by
            have:slot≠id:=by rintro rfl;rw[hs]at hl;cases hl
            simp[upd1,this,hs2]
           have hcont:ROc w (Nn w F β (upd1 look2 id (.stk k' els (some slot) true))) β (shL (upd1 look2 id (.stk k' els (some slot) true))) (((vals.toList.drop (bs β id)).take (els.length*k')).toArray++news.toArray++Builtin.zeroCells z.cells (cap' - (els.length+new.length))) 0 (.arr k' (els++new)):=by
            refine(hflc.mono st3.keep).content (Nat.zero_le _) ?_
            rw[List.drop_zero,Array.toList_append,Array.toList_append]
            exact List.take_left
           obtain⟨g1,g2,g3,g4,gb,g5⟩:=kJ0 (w':=w.drew.alloc (.cells (((vals.toList.drop (bs β id)).take (els.length*k')).toArray++news.toArray++Builtin.zeroCells z.cells (cap' - (els.length+new.length))) el)) hS3 hs3 (o:= .stk k' (els++new) none false) rfl rfl rfl rfl rfl hcont
           refine⟨_,_,⟨by rw[hupd];exact g1,by rw[hupd];exact st1.trans (st2.trans (st3.trans g2))⟩,.inl ⟨_,by rw[Sem.run_bind,hrun];rfl,?_⟩⟩
           rw[hupd]
           refine .inr (.inr ⟨k',els.length+new.length,cap',by rw[g3];simp[shO],by rw[g4,gb],hge,el,min (els.length*k') (vals.size - bs β id)+news.length+(Builtin.zeroCells z.cells (cap' - (els.length+new.length))).size,by rw[g4];simpa using g5,?_⟩)
           have hmin:min (els.length*k') (vals.size - bs β id)=els.length*k':=by have:=hfl0.2.2.1;simpa using this
           rw[gb,Nat.zero_add,hmin,size_zeroCells,hnl,hisz,hzk,← Nat.add_mul,← Nat.add_mul]
           exact Nat.mul_le_mul_right k' (by omega)
        cases cur with
        | none=>
         dsimp only at h
         cases h
         exact key (updL look (aU0 o2)) (aU0 o2) _ hS1 (St.refl _ _ _ _) hl1 (fun c hc=>by cases hc) hs1 (by rw[bA0];rfl)
        | some c=>
         dsimp only at h
         cases hlc:look c with
         | none=>simp[hlc]at h
         | some oc=>
          cases oc with
          | stk kc ec curc rc=>
           cases curc with
           | some _=>simp[hlc]at h
           | none=>
            cases rc with
            | true=>simp[hlc]at h
            | false=>
             simp only[hlc]at h
             split at h
             case isFalse=>cases h
             rename_i hcc
             obtain⟨hco,hci⟩:=hcc
             cases h
             have hco':c ∉ o2:=by simpa using hco
             have hlc1:updL look (aU0 o2) c=some (.stk kc ec none false):=by rw[bO0,if_neg hco',hlc]
             obtain⟨hS2,st2⟩:=sE0 (F:=F) hS1 (id:=c) ⟨.stk kc ec.length,by simp[shL,hlc1,shO],by simp,by simp⟩
             have hcs2:c≠slot:=by rintro rfl;rw[hs]at hlc;cases hlc
             have:=key (upd1 (updL look (aU0 o2)) c .gone) (aU0 o2++[(c,.gone)]) (o2++[c,id]++eT0 look x) hS2 st2 (by unfold upd1;rw[if_neg (fun e=>hci e.symm)];exact hl1) (fun c' hc'=>by cases hc';simp[upd1,bI0]) (by simp[upd1,hcs2.symm,hs1]) (by rw[List.append_assoc,bA0];rfl)
             rw[List.append_assoc]at this
             exact this
          | _=>simp[hlc]at h
       | _=>simp[hl]at h
     ·cases h
end
end
section
open Go
variable [Guest]
section
variable {P:Program}{w:World}{F:Nat→Prop}{β:Int→Nat}{look:Look}
theorem nJ0 {x:Value}{v:V}{y:Value} (h:RVs w F β look x v)(hs:scal v=some y):x=y∧cellB y=true:=by
 unfold scal at hs
 split at hs
 ·cases hs;exact rv_v h
 ·cases hs
theorem aF1 {d:TypeDesc}{x:Value} (h:aE1 d x=true):MapKept.IsKey d x:=by
 cases d <;> cases x <;> simp_all [aE1,MapKept.IsKey]
theorem hA1 {t:TypeId}{x:Value}{d:TypeDesc}{e:TypeId} (h:keyA P t x=some (d,e)):∃ k,P.underlying t=some (.map k e)∧P.underlying k=some d∧MapKept.IsKey d x:=by
 unfold keyA at h
 cases hu:P.underlying t with
 | none=>simp[hu]at h
 | some td=>
  cases td <;> simp only[hu]at h <;> try (cases h;done)
  rename_i k e'
  cases hk:P.underlying k with
  | none=>simp[hk]at h
  | some d'=>
   simp only[hk]at h
   split at h
   ·rename_i hb
    simp only[Option.some.injEq,Prod.mk.injEq]at h
    obtain⟨rfl,rfl⟩:=h
    exact⟨k,rfl,hk,aF1 hb⟩
   ·cases h
theorem yV0 (hS:Sim w F β look){id:Nat}{x x':Obj} (hid:look id=some (.raw x))(hn:oN0 x=true)(hn':oN0 x'=true) :
  Good w F β look [(id,.raw x')] { w with heap:=w.heap.setIfInBounds (β id) x' } β:=by
 have hb:w.heap[β id]? = some x:=(hS.live id _ hid rfl).2.2
 obtain⟨h1,h2⟩:=MapKept.heap_set (o':=x') hb
 obtain⟨g1,g2⟩:=nK1 (w':={ w with heap:=w.heap.setIfInBounds (β id) x' }) hS hid hn hn' h1 (by simp) (fun b hb=>h2 b hb) rfl rfl rfl
 exact⟨g1,g2⟩
theorem vH0 (hS:Sim w F β look){slot:Nat} (hs:look slot=none){t:TypeId}{r:Option Value}{v:Option V} (hr:match r,v with | some y,some v=>RVs w F β look y v | none,none=>True | _,_=>False){e:Eff} (h:rL0 P slot t v=some e) :
  Runs w F β look e ((do let v ← Instr.makeMap t r;pure (.value v):Sem Next).run P w):=by
 obtain⟨g1,g2,g3,g4⟩:=bA1 (w':=w.alloc (.map #[] 0)) hS hs (x:= .map #[] 0) rfl rfl rfl rfl
 unfold rL0 at h
 cases v with
 | none=>
  cases r with
  | some y=>exact hr.elim
  | none=>
   cases h
   exact⟨_,_,⟨g1,g2⟩,.inl ⟨.map (some w.heap.size),by simp[Instr.makeMap],⟨g3,by rw[g4];rfl⟩⟩⟩
 | some v=>
  cases r with
  | none=>exact hr.elim
  | some y=>
   dsimp only at h
   split at h
   ·rename_i n k el hn hu
    cases h
    obtain⟨kk,rfl,_⟩:=mE0 hr hn
    exact⟨_,_,⟨g1,g2⟩,.inl ⟨.map (some w.heap.size),by simp[Instr.makeMap,run_underlying hu,asInt,asIntOf],⟨g3,by rw[g4];rfl⟩⟩⟩
   ·cases h
theorem jW0 (hS:Sim w F β look){t:TypeId}{m k x:Value}{vm vk vx:V} (hm:RVs w F β look m vm)(hk:RVs w F β look k vk)(hx:RVs w F β look x vx){e:Eff} (h:dG0 P look t vm vk vx=some e) :
  Runs w F β look e ((do Instr.mapUpdate t m k x;pure .skip:Sem Next).run P w):=by
 unfold dG0 at h
 split at h
 case h_2=>cases h
 rename_i id key val h1 h2
 obtain⟨rfl,hkc⟩:=nJ0 hk h1
 obtain⟨rfl,hvc⟩:=nJ0 hx h2
 obtain⟨hsh,rfl⟩:=hm
 cases hka:keyA P t k with
 | none=>simp[hka]at h
 | some p=>
  obtain⟨d,el⟩:=p
  obtain⟨kt,u1,u2,u3⟩:=hA1 hka
  simp only[hka]at h
  split at h
  case h_2=>cases h
  rename_i es clock hl
  have hb:w.heap[β id]? = some (.map es clock):=(hS.live id _ hl rfl).2.2
  have hrv:rawV true (β id) = .map (some (β id)):=rfl
  split at h
  ·rename_i i v0 hf
   split at h
   ·rename_i old ho
    split at h
    ·rename_i hold
     have hold:old.key=k:=by
      simp only[Bool.and_eq_true,beq_iff_eq]at hold
      obtain⟨r,h4,h5⟩:=MapKept.sameNow_of_keys u3 (aF1 hold.1)
      rw[h4]at hold
      exact(h5.1 (by simpa using hold.2)).symm
     cases h
     refine⟨_,_,yV0 hS hl rfl rfl,.inr ⟨?_,rfl⟩⟩
     have h3:=MapKept.run_keyThatStays (P:=P) (w:=w) u3
     simp[Instr.mapUpdate,hrv,run_underlying u1,MapKept.run_getObj_map hb,MapKept.run_checkKey u2 u3,MapKept.run_findKey u2 hf,ho,hold,h3,MapKept.run_setObj_map _ hb,Result.andThen]
    ·cases h
   ·cases h
  ·rename_i hf
   cases h
   refine⟨_,_,yV0 hS hl rfl rfl,.inr ⟨?_,rfl⟩⟩
   simp[Instr.mapUpdate,hrv,run_underlying u1,MapKept.run_getObj_map hb,MapKept.run_checkKey u2 u3,MapKept.run_findKey u2 hf,MapKept.run_setObj_map _ hb,Result.andThen]
  ·cases h
theorem aM1 {ok:Bool}{x:Value}{b:Bool} (hx:cellB x=true):RVs w F β look (if ok then .tuple #[x,.bool b] else x) (mT1 ok x b):=by
 unfold mT1
 cases ok with
 | false=>exact RepD.v hx
 | true=>
  refine⟨#[x,.bool b],rfl,.cons ?_ (.cons ?_ .nil)⟩
  ·exact⟨_,rfl,RepD.v hx⟩
  ·exact⟨_,rfl,RepD.v rfl⟩
theorem yI0 (hS:Sim w F β look){t:TypeId}{m k:Value}{vm vk:V}{ok:Bool} (hm:RVs w F β look m vm)(hk:RVs w F β look k vk){e:Eff} (h:iT0 P look t vm vk ok=some e) :
  Runs w F β look e ((do let v ← Instr.lookup t m k ok;pure (.value v):Sem Next).run P w):=by
 unfold iT0 at h
 split at h
 case h_2=>cases h
 rename_i id key h1
 obtain⟨rfl,hkc⟩:=nJ0 hk h1
 obtain⟨hsh,rfl⟩:=hm
 cases hka:keyA P t k with
 | none=>simp[hka]at h
 | some p=>
  obtain⟨d,el⟩:=p
  obtain⟨kt,u1,u2,u3⟩:=hA1 hka
  simp only[hka]at h
  split at h
  case h_2=>cases h
  rename_i es clock hl
  have hb:w.heap[β id]? = some (.map es clock):=(hS.live id _ hl rfl).2.2
  have hrv:rawV true (β id) = .map (some (β id)):=rfl
  split at h
  ·rename_i i v0 hf
   split at h
   ·rename_i hv
    refine Runs.eff hS h ?_ (aM1 hv)
    simp[Instr.lookup,hrv,run_underlying u1,MapKept.run_getObj_map hb,MapKept.run_checkKey u2 u3,MapKept.run_findKey u2 hf,Result.andThen]
   ·cases h
  ·rename_i hf
   split at h
   ·rename_i z hz
    have hrun:(zeroValue el).run P w = .ok z w∧cellB z=true:=by
     unfold lM0 at hz
     cases hi:P.info? el with
     | none=>simp[hi]at hz
     | some inf=>
      simp only[hi]at hz
      cases hzz:inf.zero with
      | none=>simp[hzz]at hz
      | some z'=>
       simp only[hzz]at hz
       split at hz
       ·rename_i hc;cases hz;exact⟨by simp[zeroValue,typeInfo,hi,hzz],hc⟩
       ·cases hz
    obtain⟨hrun,hzc⟩:=hrun
    refine Runs.eff hS h ?_ (aM1 hzc)
    simp[Instr.lookup,hrv,run_underlying u1,MapKept.run_getObj_map hb,MapKept.run_checkKey u2 u3,MapKept.run_findKey u2 hf,hrun,Result.andThen]
   ·cases h
  ·cases h
theorem dF1 (hS:Sim w F β look){slot:Nat} (hs:look slot=none){t:TypeId}{x:Value}{v:V} (hx:RVs w F β look x v){e:Eff} (h:iD1 P slot t v=some e) :
  Runs w F β look e ((do let v ← Instr.range t x;pure (.value v):Sem Next).run P w):=by
 unfold iD1 at h
 split at h
 case h_2=>cases h
 rename_i s hu h1
 cases h
 obtain⟨rfl,_⟩:=nJ0 hx h1
 obtain⟨g1,g2,g3,g4⟩:=bA1 (w':=w.alloc (.stringIter s 0)) hS hs (x:= .stringIter s 0) rfl rfl rfl rfl
 exact⟨_,_,⟨g1,g2⟩,.inl ⟨.pointer (some ⟨w.heap.size,0,none⟩),by simp[run_range_string _ _ _ hu];rfl,⟨g3,by rw[g4];rfl⟩⟩⟩
theorem hO1 (hS:Sim w F β look){it:Value}{v:V}{isS:Bool}{ty:TypeId} (hx:RVs w F β look it v){e:Eff} (h:vJ0 look v isS=some e) :
  Runs w F β look e ((do let v ← Instr.next it isS ty;pure (.value v):Sem Next).run P w):=by
 unfold vJ0 at h
 split at h
 case h_2=>cases h
 rename_i id
 obtain⟨hsh,rfl⟩:=hx
 split at h
 case h_2=>cases h
 rename_i s pos hl
 have hb:w.heap[β id]? = some (.stringIter s pos):=(hS.live id _ hl rfl).2.2
 have hrv:rawV false (β id) = .pointer (some ⟨β id,0,none⟩):=rfl
 split at h
 ·rename_i hp
  cases h
  refine⟨_,_,yV0 hS hl rfl rfl,.inl ⟨.tuple #[.bool true,.int .i64 pos,.int .i32 (Utf8.decode s pos).1],?_,?_⟩⟩
  ·simp[Instr.next,hrv,getObj,setObj,Sem.run,hb,hp,goInt]
  ·refine⟨_,rfl,.cons ?_ (.cons ?_ (.cons ?_ .nil))⟩
   ·exact⟨_,rfl,RepD.v rfl⟩
   ·exact⟨_,rfl,RepD.v rfl⟩
   ·exact⟨_,rfl,RepD.v rfl⟩
 ·rename_i hp
  refine Runs.eff hS h (x:= .tuple #[.bool false]) ?_ ?_
  ·simp[Instr.next,hrv,getObj,Sem.run,hb,hp]
  ·exact⟨_,rfl,.cons ⟨_,rfl,RepD.v rfl⟩ .nil⟩
end
end
section
open Go
variable [Guest]
section
variable {P:Program}{w:World}{F:Nat→Prop}{β:Int→Nat}{look:Look}
theorem kP0 {ρc:Operand→Value}{ρ:Operand→V} (hE:∀ y,RVs w F β look (ρc y) (ρ y)):∀ l:List Operand,All2 (RVs w F β look) (l.map ρc) (l.map ρ)
 | []=> .nil
 | y::l=> .cons (hE y) (kP0 hE l)
theorem oC1 {α γ:Type} (f:α→γ)(a:Array α):(a.toList.map f).toArray=a.map f:=by obtain⟨l⟩:=a;simp
def gZ1 : Op→Bool
 | .call { callee:= .value _,.. }=>true
 | _=>false
theorem uA0 (hS:Sim w F β look){slot:Nat} (hs:look slot=none){b:Builtin}{types:Array TypeId}{ty:TypeId}{consts:Array Bool}{xs:List Value}{vs:List V} (hx:All2 (RVs w F β look) xs vs){e:Eff}
  (h:builtinA P look slot b types.toList vs=some e):Runs w F β look e ((builtin b types ty consts xs.toArray).run P w):=by
 unfold builtinA at h
 cases b <;> dsimp only at h <;> try (cases h;done)
 case append=>exact wG0 hS hs hx h
 case max=>exact mQ1 hS hx h
 case min=>exact mR1 hS hx h
 case panic=>
  split at h
  ·cases hx with
   | cons h1 h2=>
    cases h2
    exact qH0 hS h1 h
  ·cases h
 case len=>
  split at h
  case h_2=>cases h
  rename_i x
  split at h
  case h_2=>cases h
  rename_i t htypes
  have hty:types = #[t]:=by rw[← Array.toArray_toList (xs:=types),htypes]
  subst hty
  cases hx with
  | @cons vx _ _ _ h1 h2=>
   cases h2
   split at h
   ·rename_i hu
    exact hB1 hS hu h1 h
   ·rename_i el hu
    exact mN1 hS hu h1 h
   ·cases h
theorem rV0 {ρc:Operand→Value}{ρ:Operand→V} (hE:∀ y,RVs w F β look (ρc y) (ρ y))(o:Option Operand):match o.map ρc,o.map ρ with | some y,some v=>RVs w F β look y v | none,none=>True | _,_=>False:=by
 cases o with
 | none=>trivial
 | some y=>exact hE y
theorem uQ1 {rec:Rec} (hS:Sim w F β look){slot:Nat} (hs:look slot=none){ρc:Operand→Value}{ρ:Operand→V} (hE:∀ y,RVs w F β look (ρc y) (ρ y)){o:Oper} (hc:gZ1 o.op=false){e:Eff}
  (h:opA P rec look slot ρ o.op=some e):Runs w F β look e ((execOp ρc o).run P w):=by
 obtain⟨dst,op,ty,ps,af,g⟩:=o
 cases op <;> (dsimp only at h hc;unfold opA at h;dsimp only at h) <;> try (cases h;done)
 case move x=>exact Runs.eff hS h rfl (hE x)
 case assign x=>exact Runs.eff hS h rfl (hE x)
 case pick c a b=>exact hZ1 hS (hE c) (hE a) (hE b) h
 case alloc t=>exact bL1 hS hs h
 case box t x=>exact kP1 hS hs (hE x) h
 case build t parts=>
  have:=bS1 (P:=P) hS (parts:=parts.toList) hE h
  simpa [execOp] using this
 case buildSlice t len parts=>
  have:=nS0 (P:=P) hS hs (parts:=parts.toList) hE h
  simpa [execOp] using this
 case load t a=>exact hH1 hS (hE a) h
 case store t a x=>exact dN1 hS (hE a) (hE x) h
 case nilCheck x=>exact rS0 hS rfl (hE x) h
 case binOp op t x y u=>exact eH1 hS (hE x) (hE y) h
 case unOp op t x=>exact wD1 hS (hE x) h
 case convert a b x=>exact uL0 hS (hE x) h
 case makeInterface t x=>exact lC0 hS (hE x) h
 case makeFunc fn first caps=>
  have:=rK0 (P:=P) (fn:=fn) hS (kP0 hE first.toList) (kP0 hE caps.toList) h
  rw[oC1,oC1]at this
  exact this
 case makeSlice t l c=>exact pP0 hS hs (hE l) (hE c) h
 case slice t x lo hi mx=>exact dL1 hS hs (hE x) (rV0 hE lo) (rV0 hE hi) (rV0 hE mx) h
 case fieldAddr t x f=>exact pN0 hS (hE x) h
 case field t x f=>exact cM1 hS (hE x) h
 case indexAddr t x i=>exact pO0 hS (hE x) (hE i) h
 case index t x i=>exact cP1 hS (hE x) (hE i) h
 case extract x i=>exact uP0 hS (hE x) h
 case panic x=>exact qH0 hS (hE x) h
 case makeMap t r=>exact vH0 hS hs (rV0 hE r) h
 case mapUpdate t m k x=>exact jW0 hS (hE m) (hE k) (hE x) h
 case insert t m k x=>exact jW0 hS (hE m) (hE k) (hE x) h
 case lookup t x ix ok=>exact yI0 hS (hE x) (hE ix) h
 case range t x=>exact dF1 hS hs (hE x) h
 case next it s=>exact hO1 hS (hE it) h
 case call c=>
  obtain⟨callee,args,types⟩:=c
  cases callee with
  | value f=>cases hc
  | invoke _ _=>cases h
  | builtin b=>
   have:=fun consts=>uA0 (P:=P) (ty:=ty) (consts:=consts) hS hs (kP0 hE args.toList) h
   rw[oC1]at this
   exact this _
end
end
section
open Go
variable [Guest]
theorem aT0 {α γ:Type}{f:α→Option γ}:∀ {l:List α}{m:List γ},mapO f l=some m→All2 (fun a b=>f a=some b) l m
 | [],m,h=>by simp only[mapO,Option.some.injEq]at h;subst h;exact .nil
 | a::l,m,h=>by
  simp only[mapO]at h
  cases e1:f a with
  | none=>simp[e1]at h
  | some y=>
   cases e2:mapO f l with
   | none=>simp[e1,e2]at h
   | some ys=>
    simp only[e1,e2,Option.some.injEq]at h
    subst h
    exact .cons e1 (aT0 e2)
theorem All2.comp {α β γ:Type}{R:α→β→Prop}{S:β→γ→Prop}{T:α→γ→Prop} (h:∀ a b c,R a b→S b c→T a c){l:List α}{m:List β}{n:List γ} (h1:All2 R l m)(h2:All2 S m n):All2 T l n:=by
 induction h1 generalizing n with
 | nil=>cases h2;exact .nil
 | cons r _ ih=>cases h2 with | cons s t=>exact .cons (h _ _ _ r s) (ih t)
def Ren (r:Nat→Option Nat)(β:Int→Nat)(sh:Nat→Option Sh)(β':Int→Nat)(sh':Nat→Option Sh):Prop:=
 ∀ id j,r id=some j→sh' j=sh id∧((∃ s,sh id=some s∧s ≠ .gone)→β' j=β id)∧((∃ s,sh id=some s∧s ≠ .gone)→bs β' j=bs β id)
section
variable {w:World}{N N':Nat→Prop}{r:Nat→Option Nat}{β β':Int→Nat}{sh sh':Nat→Option Sh}
theorem rX0 (hr:Ren r β sh β' sh')(hN:∀ b,N b→N' b){v:Value}{c c':C} (h:RC w N β sh v c)(hc:renC r c=some c'):RC w N' β' sh' v c':=by
 cases c with
 | d x=>cases hc;exact RepD.mono (bM0 hN) h
 | ptr id off=>
  simp only[renC]at hc
  cases e:r id with
  | none=>simp[e]at hc
  | some j=>
   simp only[e,Option.some.injEq]at hc
   subst hc
   obtain⟨h1,rfl⟩:=h
   obtain⟨a,b,b2⟩:=hr id j e
   exact⟨by rw[a,h1],by rw[b ⟨_,h1,by simp⟩]⟩
 | elt k els i off=>cases hc;obtain⟨b,o,cap,h1,h2,rfl⟩:=h;exact⟨b,o,cap,RepD.mono (bM0 hN) h1,h2,rfl⟩
 | rf m id=>
  simp only[renC]at hc
  cases e:r id with
  | none=>simp[e]at hc
  | some j=>
   simp only[e,Option.some.injEq]at hc
   subst hc
   obtain⟨h1,rfl⟩:=h
   obtain⟨a,b,b2⟩:=hr id j e
   exact⟨by rw[a,h1],by rw[b ⟨_,h1,by simp⟩]⟩
 | own id=>
  simp only[renC]at hc
  cases e:r id with
  | none=>simp[e]at hc
  | some j=>
   simp only[e,Option.some.injEq]at hc
   subst hc
   obtain⟨a,b,b2⟩:=hr id j e
   rcases h with⟨k,n,cap,h1,rfl,h2,q,sz,h3,h4⟩ | ⟨h1,h2⟩ | ⟨k,n,cap,h1,rfl,h2,q,sz,h3,h4⟩
   ·have hb:=b ⟨_,h1,by simp⟩
    have hb2:=b2 ⟨_,h1,by simp⟩
    exact .inl ⟨k,n,cap,by rw[a,h1],by rw[hb,hb2],h2,q,sz,by rw[hb];exact h3,by rw[hb2];exact h4⟩
   ·exact .inr (.inl ⟨by rw[a,h1],h2⟩)
   ·have hb:=b ⟨_,h1,by simp⟩
    have hb2:=b2 ⟨_,h1,by simp⟩
    exact .inr (.inr ⟨k,n,cap,by rw[a,h1],by rw[hb,hb2],h2,q,sz,by rw[hb];exact h3,by rw[hb2];exact h4⟩)
 | ap id i off=>
  simp only[renC]at hc
  cases e:r id with
  | none=>simp[e]at hc
  | some j=>
   simp only[e,Option.some.injEq]at hc
   subst hc
   obtain⟨a,b,b2⟩:=hr id j e
   rcases h with⟨k,n,h1,rfl⟩ | ⟨h1,h2⟩
   ·exact .inl ⟨k,n,by rw[a,h1],by rw[b ⟨_,h1,by simp⟩,b2 ⟨_,h1,by simp⟩]⟩
   ·exact .inr ⟨by rw[a,h1],h2⟩
 | fn f a b=>
  simp only[renC]at hc
  cases e1:mapO r a with
  | none=>simp[e1]at hc
  | some a'=>
   cases e2:mapO r b with
   | none=>simp[e1,e2]at hc
   | some b'=>
    simp only[e1,e2,Option.some.injEq]at hc
    subst hc
    obtain⟨rfl,h2⟩:=h
    have key:∀ {l m:List Nat},All2 (fun x y=>r x=some y) l m→(∀ id∈l,sh id=some .box)→l.map (fun id:Nat=>iJ0 (β id))=m.map (fun id:Nat=>iJ0 (β' id))∧∀ id∈m,sh' id=some .box:=by
     intro l m hlm
     induction hlm with
     | nil=>intro _;simp
     | @cons x y l m h1 _ ih=>
      intro hl
      obtain⟨p,q,_⟩:=hr x y h1
      have hx:=hl x List.mem_cons_self
      obtain⟨u,v⟩:=ih (fun id hid=>hl id (List.mem_cons_of_mem _ hid))
      refine⟨by simp only[List.map_cons,u,q ⟨_,hx,by simp⟩],fun id hid=> ?_⟩
      rcases List.mem_cons.1 hid with rfl | hid
      ·rw[p,hx]
      ·exact v id hid
    obtain⟨p1,q1⟩:=key (aT0 e1) (fun id hid=>h2 id (.inl hid))
    obtain⟨p2,q2⟩:=key (aT0 e2) (fun id hid=>h2 id (.inr hid))
    exact⟨by rw[p1,p2],fun id hid=>hid.elim (q1 id) (q2 id)⟩
 | any=>cases hc;trivial
theorem rY0 (hr:Ren r β sh β' sh')(hN:∀ b,N b→N' b){vs:List Value}{cs cs':List C} (h:All2 (RK w N β sh) vs cs)(hc:mapO (renC r) cs=some cs'):All2 (RK w N' β' sh') vs cs':=
 h.comp (fun _ _ _ h1 h2=>⟨h1.1,rX0 hr hN h1.2 h2⟩) (aT0 hc)
theorem lF0 (hr:Ren r β sh β' sh')(hN:∀ b,N b→N' b){v:Value}{x x':V} (h:RV w N β sh v x)(hc:renV r x=some x'):RV w N' β' sh' v x':=by
 cases x with
 | c y=>
  simp only[renV]at hc
  cases e:renC r y with
  | none=>simp[e]at hc
  | some z=>simp only[e,Option.some.injEq]at hc;subst hc;exact rX0 hr hN h e
 | agg cs=>
  simp only[renV]at hc
  cases e:mapO (renC r) cs with
  | none=>simp[e]at hc
  | some z=>simp only[e,Option.some.injEq]at hc;subst hc;obtain⟨a,rfl,h⟩:=h;exact⟨a,rfl,rY0 hr hN h e⟩
 | tup vs=>
  simp only[renV]at hc
  cases e:mapO (renP r) vs with
  | none=>simp[e]at hc
  | some z=>
   simp only[e,Option.some.injEq]at hc
   subst hc
   obtain⟨a,rfl,h⟩:=h
   refine⟨a,rfl,h.comp (fun v p q h1 h2=> ?_) (aT0 e)⟩
   obtain⟨b,cs⟩:=p
   simp only[renP]at h2
   cases e2:mapO (renC r) cs with
   | none=>simp[e2]at h2
   | some cs'=>
    simp only[e2,Option.some.injEq]at h2
    subst h2
    cases b with
    | true=>obtain⟨a',rfl,h3⟩:=h1;exact⟨a',rfl,rY0 hr hN h3 e2⟩
    | false=>
     obtain⟨y,h4,h3⟩:=h1
     dsimp only at h4
     subst h4
     have:=aT0 e2
     cases this with
     | cons h5 h6=>cases h6;exact⟨_,rfl,rX0 hr hN h3 h5⟩
theorem kG0 {o o':O} (hc:renO r o=some o'):shO o'=shO o:=by
 cases o with
 | box cs=>
  simp only[renO]at hc
  cases e:mapO (renC r) cs with
  | none=>simp[e]at hc
  | some z=>simp only[e,Option.some.injEq]at hc;subst hc;rfl
 | _=>cases hc;rfl
theorem rZ0 (hr:Ren r β sh β' sh')(hN:∀ b,N b→N' b){b z:Nat}{o o':O} (h:RO w N β sh b z o)(hc:renO r o=some o'):RO w N' β' sh' b z o':=by
 cases o with
 | box cs=>
  have hc2:=hc
  simp only[renO]at hc2
  cases e:mapO (renC r) cs with
  | none=>simp[e]at hc2
  | some z=>
   simp only[e,Option.some.injEq]at hc2;subst hc2
   obtain⟨vals,ty,h1,h2⟩:=h
   exact⟨vals,ty,h1,rY0 hr hN h2 e⟩
 | arr k els=>cases hc;obtain⟨vals,ty,e,h0,h1,h2,h3⟩:=h;exact⟨vals,ty,e,h0,h1,h2,fun i l j x a b=>let ⟨v,p,q⟩:=h3 i l j x a b;⟨v,p,RepD.mono (bM0 hN) q⟩⟩
 | stk k els _ _=>cases hc;obtain⟨vals,ty,e,h0,h1,h2,h3⟩:=h;exact⟨vals,ty,e,h0,h1,h2,fun i l j x a b=>let ⟨v,p,q⟩:=h3 i l j x a b;⟨v,p,RepD.mono (bM0 hN) q⟩⟩
 | raw x=>cases hc;exact h
 | gone=>cases hc;trivial
 | hole=>cases hc;trivial
end
theorem eV0 {o:O}:bL0 o=true↔∃ s,shO o=some s∧s ≠ .gone:=by cases o <;> simp[bL0,shO]
theorem yP0 : ∀ {l:List Nat}{id j:Nat},pos l id=some j→l[j]? = some id
 | [],_,_,h=>by cases h
 | x::r,id,j,h=>by
  simp only[pos]at h
  split at h
  ·rename_i e;cases h;simp[e]
  ·cases e:pos r id with
   | none=>simp[e]at h
   | some m=>simp[e]at h;subst h;simpa using yP0 e
theorem iW0 {l:List Nat} (h:l.Nodup){i j x:Nat} (hi:l[i]? = some x)(hj:l[j]? = some x):i=j:=by
 have hi':i<l.length:=by
  rcases Nat.lt_or_ge i l.length with h | h
  ·exact h
  ·rw[List.getElem?_eq_none h]at hi;cases hi
 have hj':j<l.length:=by
  rcases Nat.lt_or_ge j l.length with h | h
  ·exact h
  ·rw[List.getElem?_eq_none h]at hj;cases hj
 rw[List.getElem?_eq_getElem hi']at hi
 rw[List.getElem?_eq_getElem hj']at hj
 exact(List.getElem_inj h).1 ((Option.some.inj hi).trans (Option.some.inj hj).symm)

section
variable {w:World}{F:Nat→Prop}{β:Int→Nat}{look:Look}{N':Nat→Prop}
theorem zF0 (hS:Sim w F β look){c c':C}{own:List Nat}{v:Value} (h:RC w (Nn w F β look) β (shL look) v c)(hd:argC look c=some (c',own))(hw:Wide (Nn w F β look) N' β own):RC w N' β (shL look) v c':=by
 cases c with
 | own id=>
  simp only[argC]at hd
  cases hl:look id with
  | none=>simp[hl]at hd
  | some o=>
   cases o <;> simp[hl]at hd
   obtain⟨rfl,rfl⟩:=hd
   exact wL0 hS hl h hw.all (hw.own id (by simp))
 | any=>cases hd
 | d x=>cases hd;exact RC.mono (bM0 hw.all) (Ids.refl _ _ _ _) h
 | ptr id off=>cases hd;exact RC.mono (bM0 hw.all) (Ids.refl _ _ _ _) h
 | elt k els i off=>cases hd;exact RC.mono (bM0 hw.all) (Ids.refl _ _ _ _) h
 | ap id i off=>cases hd;exact RC.mono (bM0 hw.all) (Ids.refl _ _ _ _) h
 | fn f a b=>cases hd;exact RC.mono (bM0 hw.all) (Ids.refl _ _ _ _) h
 | rf m id=>cases hd;exact RC.mono (bM0 hw.all) (Ids.refl _ _ _ _) h
theorem zE0 {c c':C}{own:List Nat} (hd:argC look c=some (c',own)):∀ id∈own,∃ k els,look id=some (.arr k els):=by
 cases c with
 | own id=>
  simp only[argC]at hd
  cases hl:look id with
  | none=>simp[hl]at hd
  | some o=>
   cases o <;> simp[hl]at hd
   obtain⟨rfl,rfl⟩:=hd
   intro j hj
   simp at hj
   subst hj
   exact⟨_,_,hl⟩
 | any=>cases hd
 | _=>cases hd;simp
theorem eB1 (hS:Sim w F β look):∀ {cs cs':List C}{own:List Nat}{vs:List Value},All2 (RK w (Nn w F β look) β (shL look)) vs cs→gX0 look cs=some (cs',own)→Wide (Nn w F β look) N' β own→All2 (RK w N' β (shL look)) vs cs':=by
 intro cs
 induction cs with
 | nil=>intro xs own vs h hd _;simp only[gX0,Option.some.injEq,Prod.mk.injEq]at hd;obtain⟨rfl,rfl⟩:=hd;cases h;exact .nil
 | cons c cs ih=>
  intro xs own vs h hd hw
  cases h with
  | cons h1 h2=>
   simp only[gX0]at hd
   cases e1:argC look c with
   | none=>simp[e1]at hd
   | some p=>
    obtain⟨d,a⟩:=p
    cases e2:gX0 look cs with
    | none=>simp[e1,e2]at hd
    | some q=>
     obtain⟨ds,b⟩:=q
     simp only[e1,e2,Option.some.injEq,Prod.mk.injEq]at hd
     obtain⟨rfl,rfl⟩:=hd
     exact .cons ⟨h1.1,zF0 hS h1.2 e1 ⟨hw.all,fun id hid=>hw.own id (List.mem_append_left _ hid)⟩⟩ (ih h2 e2 ⟨hw.all,fun id hid=>hw.own id (List.mem_append_right _ hid)⟩)
theorem eA1 : ∀ {cs cs':List C}{own:List Nat},gX0 look cs=some (cs',own)→∀ id∈own,∃ k els,look id=some (.arr k els):=by
 intro cs
 induction cs with
 | nil=>intro xs own hd;simp only[gX0,Option.some.injEq,Prod.mk.injEq]at hd;obtain⟨rfl,rfl⟩:=hd;simp
 | cons c cs ih=>
  intro xs own hd
  simp only[gX0]at hd
  cases e1:argC look c with
  | none=>simp[e1]at hd
  | some p=>
   obtain⟨d,a⟩:=p
   cases e2:gX0 look cs with
   | none=>simp[e1,e2]at hd
   | some q=>
    obtain⟨ds,b⟩:=q
    simp only[e1,e2,Option.some.injEq,Prod.mk.injEq]at hd
    obtain⟨rfl,rfl⟩:=hd
    intro id hid
    rcases List.mem_append.1 hid with h | h
    ·exact zE0 e1 id h
    ·exact ih e2 id h
theorem kE1 (hS:Sim w F β look){x x':V}{own:List Nat}{v:Value} (h:RVs w F β look v x)(hd:argV look x=some (x',own))(hw:Wide (Nn w F β look) N' β own):RV w N' β (shL look) v x':=by
 cases x with
 | c y=>
  simp only[argV]at hd
  cases e:argC look y with
  | none=>simp[e]at hd
  | some p=>obtain⟨z,a⟩:=p;simp only[e,Option.some.injEq,Prod.mk.injEq]at hd;obtain⟨rfl,rfl⟩:=hd;exact zF0 hS h e hw
 | agg cs=>
  simp only[argV]at hd
  cases e:gX0 look cs with
  | none=>simp[e]at hd
  | some p=>obtain⟨z,a⟩:=p;simp only[e,Option.some.injEq,Prod.mk.injEq]at hd;obtain⟨rfl,rfl⟩:=hd;obtain⟨q,rfl,h⟩:=h;exact⟨q,rfl,eB1 hS h e hw⟩
 | tup vs=>cases hd
theorem kD1 {x x':V}{own:List Nat} (hd:argV look x=some (x',own)):∀ id∈own,∃ k els,look id=some (.arr k els):=by
 cases x with
 | c y=>
  simp only[argV]at hd
  cases e:argC look y with
  | none=>simp[e]at hd
  | some p=>obtain⟨z,a⟩:=p;simp only[e,Option.some.injEq,Prod.mk.injEq]at hd;obtain⟨rfl,rfl⟩:=hd;exact zE0 e
 | agg cs=>
  simp only[argV]at hd
  cases e:gX0 look cs with
  | none=>simp[e]at hd
  | some p=>obtain⟨z,a⟩:=p;simp only[e,Option.some.injEq,Prod.mk.injEq]at hd;obtain⟨rfl,rfl⟩:=hd;exact eA1 e
 | tup vs=>cases hd
theorem eE1 (hS:Sim w F β look):∀ {xs xs':List V}{own:List Nat}{vs:List Value},All2 (RVs w F β look) vs xs→dW0 look xs=some (xs',own)→Wide (Nn w F β look) N' β own→All2 (fun v x=>RV w N' β (shL look) v x) vs xs':=by
 intro cs
 induction cs with
 | nil=>intro xs own vs h hd _;simp only[dW0,Option.some.injEq,Prod.mk.injEq]at hd;obtain⟨rfl,rfl⟩:=hd;cases h;exact .nil
 | cons c cs ih=>
  intro xs own vs h hd hw
  cases h with
  | cons h1 h2=>
   simp only[dW0]at hd
   cases e1:argV look c with
   | none=>simp[e1]at hd
   | some p=>
    obtain⟨d,a⟩:=p
    cases e2:dW0 look cs with
    | none=>simp[e1,e2]at hd
    | some q=>
     obtain⟨ds,b⟩:=q
     simp only[e1,e2,Option.some.injEq,Prod.mk.injEq]at hd
     obtain⟨rfl,rfl⟩:=hd
     exact .cons (kE1 hS h1 e1 ⟨hw.all,fun id hid=>hw.own id (List.mem_append_left _ hid)⟩) (ih h2 e2 ⟨hw.all,fun id hid=>hw.own id (List.mem_append_right _ hid)⟩)
theorem eD1 : ∀ {xs xs':List V}{own:List Nat},dW0 look xs=some (xs',own)→∀ id∈own,∃ k els,look id=some (.arr k els):=by
 intro cs
 induction cs with
 | nil=>intro xs own hd;simp only[dW0,Option.some.injEq,Prod.mk.injEq]at hd;obtain⟨rfl,rfl⟩:=hd;simp
 | cons c cs ih=>
  intro xs own hd
  simp only[dW0]at hd
  cases e1:argV look c with
  | none=>simp[e1]at hd
  | some p=>
   obtain⟨d,a⟩:=p
   cases e2:dW0 look cs with
   | none=>simp[e1,e2]at hd
   | some q=>
    obtain⟨ds,b⟩:=q
    simp only[e1,e2,Option.some.injEq,Prod.mk.injEq]at hd
    obtain⟨rfl,rfl⟩:=hd
    intro id hid
    rcases List.mem_append.1 hid with h | h
    ·exact kD1 e1 id h
    ·exact ih e2 id h
theorem pU0 {keep:Bool}{xs xs':List V}{own:List Nat} (h:eD0 keep look xs=some (xs',own)):∀ id∈own,∃ k els,look id=some (.arr k els):=by
 cases keep with
 | true=>simp only[eD0,Option.some.injEq,Prod.mk.injEq]at h;obtain⟨rfl,rfl⟩:=h;simp
 | false=>exact eD1 h
theorem pV0 {keep:Bool} (hS:Sim w F β look){xs xs':List V}{own:List Nat}{vs:List Value} (h:All2 (RVs w F β look) vs xs)(hd:eD0 keep look xs=some (xs',own))(hw:Wide (Nn w F β look) N' β own):All2 (fun v x=>RV w N' β (shL look) v x) vs xs':=by
 cases keep with
 | true=>
  simp only[eD0,Option.some.injEq,Prod.mk.injEq]at hd
  obtain⟨rfl,rfl⟩:=hd
  exact h.mono fun _ _ p=>RV.mono (bM0 hw.all) (Ids.refl _ _ _ _) p
 | false=>exact eE1 hS h hd hw
end
end
section
open Go
variable [Guest]

def RRes (w:World)(F:Nat→Prop)(β:Int→Nat)(look:Look)(v:Value)(vs:List V):Prop:=
 (∃ y,vs=[y]∧RVs w F β look v y)∨(vs.length≠1∧∃ a,v = .tuple a∧All2 (RVs w F β look) a.toList vs)
def OutOK (w:World)(F:Nat→Prop)(β:Int→Nat)(objs:List O)(out:Out)(e:Ending)(w':World):Prop:=
 ∃ β',match out with
  | .ret vs objs'=>∃ v,e = .returned v∧RRes w' F β' (lk objs') v vs∧Sim w' F β' (lk objs')∧St (· < objs.length) w β (lk objs) w' β' (lk objs')
  | .pan x objs'=>e = .panicked [{ v:=x,recovered:=false }]∧Sim w' F β' (lk objs')∧St (· < objs.length) w β (lk objs) w' β' (lk objs')
def eI0 (P:Program)(f:FuncId)(args:List V)(objs:List O)(out:Out):Prop:=
 ∀ (w:World) (F:Nat→Prop) (β:Int→Nat) (vals:List Value),Sim w F β (lk objs)→All2 (RVs w F β (lk objs)) vals args→Calls P f vals.toArray w (OutOK w F β objs out)

def Fc (F:Nat→Prop)(β:Int→Nat)(look:Look)(ids bor:List Nat)(b:Nat):Prop:=F b∨∃ id o,look id=some o∧bL0 o=true∧id ∉ ids∧id ∉ bor∧β id=b∧¬ ∃ j o',j∈ids∧look j=some o'∧bL0 o'=true∧β j=b
def βc (β:Int→Nat)(ids:List Nat):Int→Nat
 | .ofNat j=>β (ids.getD j 0:Nat)
 | .negSucc j=>bs β (ids.getD j 0)
theorem βc_nat {β:Int→Nat}{ids:List Nat}{j:Nat}:βc β ids j=β (ids.getD j 0:Nat):=rfl
theorem βc_bs {β:Int→Nat}{ids:List Nat}{j:Nat}:bs (βc β ids) j=bs β (ids.getD j 0):=rfl
theorem hT0 {objs:List O}{j:Nat}{o:O} (h:lk objs j=some o):objs[j]? = some o:=by
 unfold lk at h
 split at h
 ·cases h
 ·exact h
theorem mW0 {objs:List O}{j:Nat}{o:O} (h:objs[j]? = some o)(ho:o ≠ .hole):lk objs j=some o:=by
 unfold lk
 rw[h]
 cases o <;> first | rfl | exact absurd rfl ho
section
variable {P:Program}{w:World}{F:Nat→Prop}{β:Int→Nat}{look:Look}
theorem aQ1 {ids:List Nat}{objs objs':List O}{g:O→O} (hm:mapO look ids=some objs)(hr:mapO (renO (pos ids)) (objs.map g)=some objs'){j:Nat}{o':O} (h:objs'[j]? = some o') :
  ∃ id o,ids[j]? = some id∧look id=some o∧renO (pos ids) (g o)=some o':=by
 obtain⟨o,h1,h2⟩:=(aT0 hr).get_right h
 rw[List.getElem?_map]at h1
 obtain⟨o0,h1',rfl⟩:=Option.map_eq_some_iff.1 h1
 obtain⟨id,h3,h4⟩:=(aT0 hm).get_right h1'
 exact⟨id,o0,h3,h4,h2⟩
theorem eK0 {ids:List Nat}{objs objs':List O}{g:O→O} (hm:mapO look ids=some objs)(hr:mapO (renO (pos ids)) (objs.map g)=some objs'){j id:Nat} (h:ids[j]? = some id) :
  ∃ o o',look id=some o∧objs'[j]? = some o'∧renO (pos ids) (g o)=some o':=by
 obtain⟨o,h1,h2⟩:=(aT0 hm).get_left h
 have h1':(objs.map g)[j]? = some (g o):=by rw[List.getElem?_map,h1];rfl
 obtain⟨o',h3,h4⟩:=(aT0 hr).get_left h1'
 exact⟨o,o',h2,h3,h4⟩
theorem kX0 (o:O):shO (iB0 o)=shO o:=by cases o <;> rfl
theorem hR0 {o:O} (h:o ≠ .hole):iB0 o ≠ .hole:=by cases o <;> simp_all [iB0]
theorem gJ1 {w:World}{N:Nat→Prop}{β:Int→Nat}{sh:Nat→Option Sh}{b z:Nat}{o:O} (h:RO w N β sh b z o):RO w N β sh b z (iB0 o):=by cases o <;> exact h
theorem oX0 {ids:List Nat} (h:oW0 look ids=true){a b:Nat} (ha:a∈ids)(hb:b∈ids)(sa:bI0 (look a)=true)(sb:bI0 (look b)=true):a=b:=by
 simp only[oW0,Bool.and_eq_true,decide_eq_true_eq]at h
 have h1:a∈ids.filter fun id=>bI0 (look id):=List.mem_filter.2 ⟨ha,sa⟩
 have h2:b∈ids.filter fun id=>bI0 (look id):=List.mem_filter.2 ⟨hb,sb⟩
 generalize (ids.filter fun id=>bI0 (look id))=l at h h1 h2
 match l,h.1,h1,h2 with
 | [x],_,h1,h2=>rw[List.mem_singleton.1 h1,List.mem_singleton.1 h2]
theorem dZ0 {o o':O}{r:Nat→Option Nat} (h:renO r o=some o')(ho:o ≠ .hole):o' ≠ .hole:=by
 cases o with
 | box cs=>
  simp only[renO]at h
  cases e:mapO (renC r) cs with
  | none=>simp[e]at h
  | some z=>simp only[e,Option.some.injEq]at h;subst h;simp
 | arr k els=>cases h;simp
 | stk _ _ _ _=>cases h;simp
 | raw x=>cases h;simp
 | gone=>cases h;simp
 | hole=>exact absurd rfl ho
def pS0 (look:Look):Prop:=∀ id,look id≠some .hole
theorem hG0 (loc:List O):pS0 (lk loc):=by
 intro id h
 have:=hT0 h
 unfold lk at h
 rw[this]at h
 cases h
theorem uF0 (hS:Sim w F β look)(hH:pS0 look){ids bor:List Nat}{objs objs':List O} (hm:mapO look ids=some objs)(hr:mapO (renO (pos ids)) (objs.map iB0)=some objs')(hstk:oW0 look ids=true)(hnd:ids.Nodup)(hbor:∀ id∈bor,∃ k els,look id=some (.arr k els))(hdis:∀ id∈bor,id ∉ ids) :
  Sim w (Fc F β look ids bor) (βc β ids) (lk objs')∧Wide (Nn w F β look) (Nn w (Fc F β look ids bor) (βc β ids) (lk objs')) β bor∧Ren (pos ids) β (shL look) (βc β ids) (shL (lk objs')) ∧
  (∀ b,Live (βc β ids) (lk objs') b→∃ id o,id∈ids∧look id=some o∧bL0 o=true∧β id=b):=by
 have hget:∀ j o',lk objs' j=some o'→∃ id o,ids[j]? = some id∧look id=some o∧renO (pos ids) (iB0 o)=some o'∧βc β ids j=β id∧bs (βc β ids) j=bs β id:=by
  intro j o' h
  obtain⟨id,o,h1,h2,h3⟩:=aQ1 hm hr (hT0 h)
  exact⟨id,o,h1,h2,h3,by simp[βc_nat,List.getD,h1],by simp[βc_bs,List.getD,h1]⟩
 have halive:∀ {o o':O},renO (pos ids) (iB0 o)=some o'→(bL0 o'=true↔bL0 o=true):=by
  intro o o' h
  rw[eV0,eV0,kG0 h,kX0]
 have hlive:∀ b,Live (βc β ids) (lk objs') b→∃ id o,id∈ids∧look id=some o∧bL0 o=true∧β id=b:=by
  rintro b ⟨j,o',h1,h2,h3⟩
  obtain⟨id,o,p1,p2,p3,p4,_⟩:=hget j o' h1
  exact⟨id,o,List.mem_of_getElem? p1,p2,(halive p3).1 h2,by rw[← p4,h3]⟩
 have hF:∀ b,Fc F β look ids bor b→b<w.heap.size:=by
  rintro b (h | ⟨id,o,h1,h2,_,_,rfl,_⟩)
  ·exact hS.flt b h
  ·exact(hS.live id o h1 h2).1
 have hren:Ren (pos ids) β (shL look) (βc β ids) (shL (lk objs')):=by
  intro id j h
  have h1:=yP0 h
  obtain⟨o,o',h2,h3,h4⟩:=eK0 hm hr h1
  have ho':=dZ0 h4 (hR0 fun e=>hH id (by rw[h2,e]))
  refine⟨by simp[shL,mW0 h3 ho',h2,kG0 h4,kX0],fun _=>by simp[βc_nat,List.getD,h1],fun _=>by simp[βc_bs,List.getD,h1]⟩
 have hall:∀ b,Nn w F β look b→Nn w (Fc F β look ids bor) (βc β ids) (lk objs') b:=by
  rintro b ⟨h1,h2,h3⟩
  refine⟨h1,?_,fun h=> ?_⟩
  ·rintro(h | ⟨id,o,q1,q2,_,_,q3,_⟩)
   ·exact h2 h
   ·exact h3 ⟨id,o,q1,q2,q3⟩
  ·obtain⟨id,o,_,q1,q2,q3⟩:=hlive b h
   exact h3 ⟨id,o,q1,q2,q3⟩
 have hwide:Wide (Nn w F β look) (Nn w (Fc F β look ids bor) (βc β ids) (lk objs')) β bor:=by
  refine⟨hall,fun id hid=> ?_⟩
  obtain⟨k,els,hl⟩:=hbor id hid
  obtain⟨a,b,vals,ty,h3,_⟩:=hS.live id _ hl rfl
  refine⟨Soft.of h3,?_,fun h=> ?_⟩
  ·rintro(h | ⟨id',o,q1,q2,q3,q4,q5,_⟩)
   ·exact b h
   ·have:=hS.inj1 id' id o _ q1 hl q2 rfl q5 (.inr rfl)
    subst this
    exact q4 hid
  ·obtain⟨id',o,q0,q1,q2,q3⟩:=hlive _ h
   have:=hS.inj1 id' id o _ q1 hl q2 rfl q3 (.inr rfl)
   subst this
   exact hdis id' hid q0
 refine⟨⟨hF,fun j o' h ha=> ?_,fun j j' o1 o2 h1 h2 ha1 ha2 hb=> ?_,hS.laid.same fun b hb=>let ⟨id,o,_,h1,h2,h3⟩:=hlive b hb;⟨id,o,h1,h2,h3⟩,fun b hb=> .inl (hS.gst b hb)⟩,hwide,hren,hlive⟩
 ·obtain⟨id,o,p1,p2,p3,p4,p5⟩:=hget j o' h
  obtain⟨a,b,c⟩:=hS.live id o p2 ((halive p3).1 ha)
  rw[p4,p5]
  refine⟨a,?_,?_⟩
  ·rintro(h | ⟨id',o2,q1,q2,q3,q4,q5,q6⟩)
   ·exact b h
   ·exact q6 ⟨id,o,List.mem_of_getElem? p1,p2,(halive p3).1 ha,rfl⟩
  ·exact rZ0 hren hall (gJ1 c) p3
 ·obtain⟨id1,q1,p1,p2,p3,p4,_⟩:=hget j o1 h1
  obtain⟨id2,q2,r1,r2,r3,r4,_⟩:=hget j' o2 h2
  rw[p4,r4]at hb
  have:id1=id2:=by
   rcases hS.inj id1 id2 q1 q2 p2 r2 ((halive p3).1 ha1) ((halive r3).1 ha2) hb with h | h | h
   ·exact h
   ·exact oX0 hstk (List.mem_of_getElem? p1) (List.mem_of_getElem? r1) h.stk.1 h.stk.2
   ·exact oX0 hstk (List.mem_of_getElem? p1) (List.mem_of_getElem? r1) h.stk.2 h.stk.1
  subst this
  exact .inl (iW0 hnd p1 r1)
end
end
end Go.Proofs.YteenjodhmppgjaaGreatDoor.Am
