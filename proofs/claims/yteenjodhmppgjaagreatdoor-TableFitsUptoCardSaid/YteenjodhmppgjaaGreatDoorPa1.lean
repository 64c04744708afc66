/- Part 1 of the proof of the card of TableFits, second form: no statement of its own; no conditions. -/
import Derived.Calls
import Derived.Below
import Derived.Laws.Cells
import Derived.Tactics
import Derived.KernelRfl
import Derived.Laws.CopyRow
import Derived.Laws.Tables
import Derived.Laws.MakeOwn
import Derived.Laws.StructEq
set_option linter.unusedSimpArgs false
set_option linter.unusedVariables false
set_option linter.defProp false
set_option linter.unusedSectionVars false
section
/- The abstract machine: values in place of memory, an interpreter over the model's own Code. Definitions. -/
namespace Go.Proofs.YteenjodhmppgjaaGreatDoor.Am
open Go

/-- A cell of memory that is never written again, read to the bottom: a scalar, or a slice of elements of k cells, an interface value that holds a struct. -/
inductive D where
  | v (x : Value)
  | s (k : Nat) (els : List (List D))
  | i (t : TypeId) (xs : List D)
instance : Inhabited D := ⟨.v .nilIface⟩

/-- A cell: data; an address of an own object; an address inside a slice that is data; an own slice (the whole of it); an address inside an own slice; a function value with the own objects that it holds; an own map or an own iterator. -/
inductive C where
  | d (x : D)
  | ptr (id off : Nat)
  | elt (k : Nat) (els : List (List D)) (i off : Nat)
  | own (id : Nat)
  | ap (id i off : Nat)
  | fn (f : FuncId) (first caps : List Nat)
  | rf (map : Bool) (id : Nat)
  | any
instance : Inhabited C := ⟨.any⟩

/-- A value: one cell, the cells of a struct or an array, or several results. -/
inductive V where
  | c (x : C)
  | agg (cs : List C)
  | tup (vs : List (Bool × List C))
instance : Inhabited V := ⟨.c .any⟩

/-- An own object: a variable with its cells; the array behind an own slice; a map or an iterator over a text; a slice that is only read and lengthened (cur: the one that was made of it by append, root: it came in so), whose array may be another such one's too; one whose array has become data. -/
inductive O where
  | box (cs : List C)
  | arr (k : Nat) (els : List (List D))
  | raw (x : Obj)
  | stk (k : Nat) (els : List (List D)) (cur : Option Nat) (root : Bool)
  | gone
  | hole
instance : Inhabited O := ⟨.gone⟩

inductive R where
  | val (v : V)
  | pan (x : Value)

/-- What an operation does: its value, the objects that it sets, the objects that it reads. -/
structure Eff where
  res : R
  upd : List (Nat × O) := []
  rd : List Nat := []

inductive It where
  | code (c : Code)
  | ops (all : Array Oper) (l : List Oper)
  | inBlock (id : Nat)
  | inLoop (c : Code)

/-- What stays fixed while a function runs: how many slots, how many objects came in, where the results lie. -/
structure Cf where
  nt : Nat
  m : Nat
  res : List ResultVar
  keep : Bool := false
/-- The functions to which own slices are handed as they are (not as data). -/
def ownF (f : FuncId) : Bool := ([100, 119, 192, 236, 254, 65, 109, 102, 163, 113, 249, 250] : List Nat).contains f
/-- The functions that only read and lengthen the own slices that come in. -/
def castF (f : FuncId) : Bool := ([65, 113] : List Nat).contains f
/-- The functions that hand own slices back as they are. -/
def retF (f : FuncId) : Bool := ([119, 121, 191, 239, 181] : List Nat).contains f

abbrev Env := List (Nat × V)

inductive Entry where
  | call (f : FuncId) (args : List V) (objs : List O)
  | k (cf : Cf) (todo : List It) (env : Env) (loc : List O)

inductive Out where
  | ret (vs : List V) (objs : List O)
  | pan (x : Value) (objs : List O)

abbrev Rec := Entry → Option Out
abbrev Look := Nat → Option O

/-! ### slots -/
def gt (env : Env) (t : Nat) : V :=
  match env with
  | [] => .c .any
  | (u, v) :: r => if u = t then v else gt r t
def pt (env : Env) (t : Nat) (v : V) : Env :=
  match env with
  | [] => [(t, v)]
  | (u, x) :: r => if u = t then (t, v) :: r else if t < u then (t, v) :: (u, x) :: r else (u, x) :: pt r t v
def putO (env : Env) (dst : Option Nat) (v : V) : Env := match dst with | some t => pt env t v | none => env
def cellB : Value → Bool
  | .agg _ => false
  | .tuple _ => false
  | _ => true
def ofValue (x : Value) : V :=
  match x with
  | .agg a => if a.toList.all cellB then .agg (a.toList.map fun y => .d (.v y)) else .c .any
  | .tuple _ => .c .any
  | y => .c (.d (.v y))
def ev (env : Env) : Operand → V
  | .tmp t => gt env t
  | .const x => ofValue x
  | .global _ => .c .any
  | .func f => .c (.fn f [] [])

/-! ### types -/
/-- Is a value of the type several cells? (none: no such type.) -/
def aggT (P : Program) (t : TypeId) : Option Bool :=
  match P.underlying t with
  | some (.struct _) => some true
  | some (.array _ _) => some true
  | some _ => some false
  | none => none
def placesT (P : Program) (t : TypeId) : Option (List (Nat × Nat)) :=
  match P.underlying t with
  | some (.struct fields) => fields.toList.mapM fun f => (P.info? f.type).map fun i => (f.offset, i.size)
  | some (.array len e) => match P.info? e with
    | some ie => some ((List.range len).map fun i => (i * ie.size, ie.size))
    | none => none
  | _ => none
def sizeT (P : Program) (t : TypeId) : Option Nat := (P.info? t).map (·.size)
def bytesT (P : Program) (t : TypeId) : Option Nat := (P.info? t).map (·.bytes)
def elemT (P : Program) (t : TypeId) : Option TypeId :=
  match P.underlying t with
  | some (.slice e) => some e
  | _ => none
/-- A field: where it begins, its type and size. -/
def fieldT (P : Program) (t : TypeId) (i : Nat) : Option (Nat × TypeId) :=
  match P.underlying t with
  | some (.struct fs) => (fs[i]?).map fun f => (f.offset, f.type)
  | _ => none
def zeroT (P : Program) (t : TypeId) : Option (List C) :=
  match P.info? t with
  | some i => match i.zero with
    | some z => if z.cells.toList.all cellB then some (z.cells.toList.map fun y => .d (.v y)) else none
    | none => none
  | none => none

/-! ### parts of values -/
def okC : C → Bool
  | .any => false
  | _ => true
def cells : V → Option (List C)
  | .c x => if okC x then some [x] else none
  | .agg cs => if cs.all okC then some cs else none
  | .tup _ => none
/-- A cell as data; the own slices that it takes. -/
def toD (look : Look) : C → Option (D × List Nat)
  | .d x => some (x, [])
  | .own id => match look id with
    | some (.arr k els) => some (.s k els, [id])
    | _ => none
  | _ => none
def toDs (look : Look) : List C → Option (List D × List Nat)
  | [] => some ([], [])
  | x :: r => match toD look x with
    | some (d, a) => match toDs look r with
      | some (ds, b) => some (d :: ds, a ++ b)
      | none => none
    | none => none
def toDss (look : Look) : List V → Option (List (List D) × List Nat)
  | [] => some ([], [])
  | x :: r => match cells x with
    | some cs => match toDs look cs with
      | some (d, a) => match toDss look r with
        | some (ds, b) => some (d :: ds, a ++ b)
        | none => none
      | none => none
    | none => none
def kills (ids : List Nat) : List (Nat × O) := ids.map fun id => (id, .gone)
/-- An argument: own slices as data; those that it takes. -/
def argC (look : Look) : C → Option (C × List Nat)
  | .own id => match look id with
    | some (.arr k els) => some (.d (.s k els), [id])
    | _ => none
  | .any => none
  | x => some (x, [])
def argCs (look : Look) : List C → Option (List C × List Nat)
  | [] => some ([], [])
  | x :: r => match argC look x with
    | some (d, a) => match argCs look r with
      | some (ds, b) => some (d :: ds, a ++ b)
      | none => none
    | none => none
def argV (look : Look) : V → Option (V × List Nat)
  | .c x => match argC look x with | some (y, a) => some (.c y, a) | none => none
  | .agg cs => match argCs look cs with | some (ys, a) => some (.agg ys, a) | none => none
  | .tup _ => none
def argVs (look : Look) : List V → Option (List V × List Nat)
  | [] => some ([], [])
  | x :: r => match argV look x with
    | some (d, a) => match argVs look r with
      | some (ds, b) => some (d :: ds, a ++ b)
      | none => none
    | none => none

/-! ### which objects a value leads to; other numbers for objects -/
def refsC : C → List Nat
  | .ptr id _ => [id]
  | .own id => [id]
  | .ap id _ _ => [id]
  | .fn _ a b => a ++ b
  | .rf _ id => [id]
  | _ => []
def refsV : V → List Nat
  | .c x => refsC x
  | .agg cs => cs.flatMap refsC
  | .tup vs => vs.flatMap fun p => p.2.flatMap refsC
def refsO : Option O → List Nat
  | some (.box cs) => cs.flatMap refsC
  | _ => []
def reach (look : Look) : Nat → List Nat → List Nat → List Nat
  | 0, seen, _ => seen
  | _ + 1, seen, [] => seen
  | n + 1, seen, id :: todo => if seen.contains id then reach look n seen todo else reach look n (seen ++ [id]) (todo ++ refsO (look id))
def pos (l : List Nat) (id : Nat) : Option Nat :=
  match l with
  | [] => none
  | x :: r => if x = id then some 0 else (pos r id).map (· + 1)
def mapO {α β : Type} (f : α → Option β) : List α → Option (List β)
  | [] => some []
  | x :: r => match f x with
    | some y => match mapO f r with
      | some ys => some (y :: ys)
      | none => none
    | none => none
def renC (r : Nat → Option Nat) : C → Option C
  | .d x => some (.d x)
  | .ptr id off => match r id with | some j => some (.ptr j off) | none => none
  | .elt k els i off => some (.elt k els i off)
  | .own id => match r id with | some j => some (.own j) | none => none
  | .ap id i off => match r id with | some j => some (.ap j i off) | none => none
  | .fn f a b => match mapO r a with
    | some a' => match mapO r b with
      | some b' => some (.fn f a' b')
      | none => none
    | none => none
  | .rf m id => match r id with | some j => some (.rf m j) | none => none
  | .any => some .any
def renP (r : Nat → Option Nat) (p : Bool × List C) : Option (Bool × List C) :=
  match mapO (renC r) p.2 with | some cs => some (p.1, cs) | none => none
def renV (r : Nat → Option Nat) : V → Option V
  | .c x => match renC r x with | some y => some (.c y) | none => none
  | .agg cs => match mapO (renC r) cs with | some ys => some (.agg ys) | none => none
  | .tup vs => match mapO (renP r) vs with | some ys => some (.tup ys) | none => none
def renO (r : Nat → Option Nat) : O → Option O
  | .box cs => match mapO (renC r) cs with | some ys => some (.box ys) | none => none
  | .arr k els => some (.arr k els)
  | .raw x => some (.raw x)
  | .stk k els cur root => some (.stk k els (cur.bind r) root)
  | .gone => some .gone
  | .hole => some .hole
/-- A stale own slice is forgotten. -/
def cleanC (look : Look) (x : C) : C :=
  match x with
  | .own id => match look id with | some .gone => .any | _ => x
  | .ap id _ _ => match look id with | some .gone => .any | _ => x
  | _ => x
def cleanV (look : Look) : V → V
  | .c x => .c (cleanC look x)
  | .agg cs => .agg (cs.map (cleanC look))
  | .tup vs => .tup (vs.map fun p => (p.1, p.2.map (cleanC look)))
def lk (loc : List O) : Look := fun id => match loc[id]? with
  | some .hole => none
  | x => x
def setO (loc : List O) (id : Nat) (o : O) : List O :=
  if id < loc.length then loc.set id o else loc ++ List.replicate (id - loc.length) .hole ++ [o]
def updO (loc : List O) : List (Nat × O) → List O
  | [] => loc
  | (id, o) :: r => updO (setO loc id o) r

/-! ### function values, calls -/
def comp : V → Option (Bool × List C)
  | .c x => some (false, [x])
  | .agg cs => some (true, cs)
  | .tup _ => none
def ofComp : Bool × List C → V
  | (true, cs) => .agg cs
  | (false, [x]) => .c x
  | _ => .c .any
def results1 (vs : List V) : Option V :=
  match vs with
  | [v] => some v
  | vs => match mapO comp vs with | some l => some (.tup l) | none => none
def scalarC : C → Bool
  | .d (.v _) => true
  | _ => false
def scalarV : V → Bool
  | .c x => scalarC x
  | .agg cs => cs.all scalarC
  | .tup _ => false
/-- What a call's answer does to the caller: ids are the objects that were handed on, bor the own slices that went as data, slot the first new number. -/
def back (ids : List Nat) (slot n j : Nat) : Option Nat :=
  if j < ids.length then ids[j]? else if j < n then some (slot + (j - ids.length)) else none
def number (ids : List Nat) (slot : Nat) (objs : List O) : List (Nat × O) :=
  objs.zipIdx.map fun p => ((back ids slot objs.length p.2).getD 0, p.1)
def answer (ids bor : List Nat) (slot : Nat) : Out → Option Eff
  | .ret vs objs => match mapO (renV (back ids slot objs.length)) vs with
    | some vs' => match mapO (renO (back ids slot objs.length)) objs with
      | some objs' => match results1 vs' with
        | some v => if objs.length < ids.length then none else
          some { res := .val v, upd := number ids slot objs' ++ (if (vs'.all scalarV && objs'.isEmpty) = true then [] else kills bor), rd := ids ++ bor }
        | none => none
      | none => none
    | none => none
  | .pan x objs => match mapO (renO (back ids slot objs.length)) objs with
    | some objs' => if objs.length < ids.length then none else some { res := .pan x, upd := number ids slot objs' ++ kills bor, rd := ids ++ bor }
    | none => none
/-! slices that are only read and lengthened -/
def isStk : Option O → Bool
  | some (.stk ..) => true
  | _ => false
def enterO : O → O
  | .stk k els _ _ => .stk k els none true
  | o => o
/-- At most one of them is handed on, and none of which another was made. -/
def stkOne : Option O → Bool
  | some (.stk _ _ (some _) _) => false
  | _ => true
def stkOK (look : Look) (ids : List Nat) : Bool := decide ((ids.filter fun id => isStk (look id)).length ≤ 1) && ids.all fun id => stkOne (look id)
def sameC : List D → List D → Bool
  | [], [] => true
  | .v (.int k a) :: r, .v (.int k' b) :: r' => decide (k = k') && decide (a = b) && sameC r r'
  | _, _ => false
def sameL : List (List D) → List (List D) → Bool
  | [], [] => true
  | a :: r, b :: r' => sameC a b && sameL r r'
  | _, _ => false
def sameO : O → Option O → Bool
  | .stk k els _ _, some (.stk k' els' _ _) => decide (k = k') && sameL els els'
  | _, _ => false
/-- They come back as they were. -/
def backP (look : Look) (slot : Nat) (rd : List Nat) (p : Nat × O) : Bool := if rd.contains p.1 && isStk (look p.1) then sameO p.2 (look p.1) && decide (p.1 < slot) else !isStk (some p.2)
def backOK (look : Look) (slot : Nat) (rd : List Nat) (upd : List (Nat × O)) : Bool := upd.all (backP look slot rd)
def notStk (p : Nat × O) : Bool := !isStk (some p.2)
def stkBack (look : Look) (slot : Nat) (e : Option Eff) : Option Eff :=
  match e with
  | some e => if backOK look slot e.rd e.upd = true then some { e with upd := e.upd.filter notStk } else none
  | none => none
/-- Own slices as data; keep: as they are. -/
def argVsK (keep : Bool) (look : Look) (args : List V) : Option (List V × List Nat) :=
  match keep with
  | true => some (args, [])
  | false => argVs look args
/-- What a call hands on: the objects' numbers, the own slices that go as data, the arguments and the objects under the callee's numbers. -/
def callPrep (f : FuncId) (look : Look) (args : List V) : Option (List Nat × List Nat × List V × List O) :=
  match argVsK (ownF f) look args with
  | none => none
  | some (args', bor) =>
    let ids := reach look 200 [] (args'.flatMap refsV)
    match mapO (renV (pos ids)) args' with
    | none => none
    | some args'' => match mapO look ids with
      | none => none
      | some objs => match mapO (renO (pos ids)) (objs.map enterO) with
        | none => none
        | some objs' => if decide ids.Nodup && bor.all (fun b => !ids.contains b) && decide bor.Nodup && stkOK look ids then some (ids, bor, args'', objs') else none
def callOut (ids bor : List Nat) (slot : Nat) (r : Option Out) : Option Eff :=
  match r with
  | some out => answer ids bor slot out
  | none => none
/-! an own slice that is handed to a function that only reads and lengthens it: it is gone behind the call -/
def isArrO : O → Bool
  | .arr _ _ => true
  | _ => false
def castO : O → O
  | .arr k els => .stk k els none true
  | o => o
def uncast : List O → List O → List O
  | .arr _ _ :: r, _ :: r' => .gone :: uncast r r'
  | _ :: r, o :: r' => o :: uncast r r'
  | [], outs => outs
  | _ :: _, [] => []
def castOut (objs : List O) (r : Option Out) : Option Out :=
  match r with
  | some (.ret vs outs) => some (.ret vs (uncast objs outs))
  | some (.pan x outs) => some (.pan x (uncast objs outs))
  | none => none
def noApC : C → Bool
  | .ap .. => false
  | _ => true
def noApP (p : Bool × List C) : Bool := p.2.all noApC
def noApV : V → Bool
  | .c x => noApC x
  | .agg cs => cs.all noApC
  | .tup vs => vs.all noApP
def noApO : O → Bool
  | .box cs => cs.all noApC
  | _ => true
def callRec (rec : Rec) (f : FuncId) (args : List V) (objs : List O) : Option Out :=
  if objs.any isArrO && castF f then
    if args.all noApV && objs.all noApO then castOut objs (rec (.call f args (objs.map castO))) else none
  else rec (.call f args objs)
def callFin (rec : Rec) (slot : Nat) (f : FuncId) (p : Option (List Nat × List Nat × List V × List O)) : Option Eff :=
  match p with
  | some (ids, bor, args, objs) => callOut ids bor slot (callRec rec f args objs)
  | none => none
def callA (rec : Rec) (look : Look) (slot : Nat) (f : FuncId) (args : List V) : Option Eff := stkBack look slot (callFin rec slot f (callPrep f look args))
end Go.Proofs.YteenjodhmppgjaaGreatDoor.Am
end
section
/- The abstract machine: what each operation does. -/
namespace Go.Proofs.YteenjodhmppgjaaGreatDoor.Am
open Go

def eff (v : V) (rd : List Nat := []) : Option Eff := some { res := .val v, rd := rd }
def num (v : V) : Option Int :=
  match v with
  | .c (.d (.v (.int _ n))) => some n
  | _ => none

def pickA (c a b : V) : Option Eff :=
  match c with
  | .c (.d (.v (.bool t))) => eff (if t then a else b)
  | _ => none
def allocA (P : Program) (slot : Nat) (t : TypeId) : Option Eff :=
  match zeroT P t with
  | some cs => some { res := .val (.c (.ptr slot 0)), upd := [(slot, .box cs)] }
  | none => none
def boxA (slot : Nat) (x : V) : Option Eff :=
  match cells x with
  | some cs => some { res := .val (.c (.ptr slot 0)), upd := [(slot, .box cs)] }
  | none => none
/-- cs with ys at off. -/
def over (cs : List C) (off : Nat) (ys : List C) : List C := cs.take off ++ ys ++ cs.drop (off + ys.length)
def fillA (places : List (Nat × Nat)) (cs : List C) : List (Nat × V) → Option (List C)
  | [] => some cs
  | (i, x) :: r => match places[i]? with
    | some (off, n) => match cells x with
      | some ys => if ys.length = n ∧ off + ys.length ≤ cs.length then fillA places (over cs off ys) r else none
      | none => none
    | none => none
def buildA (P : Program) (t : TypeId) (parts : List (Nat × V)) : Option Eff :=
  match placesT P t with
  | some places => match zeroT P t with
    | some zs => match fillA places zs parts with
      | some cs => eff (.agg cs)
      | none => none
    | none => none
  | none => none
/-- Are the parts of a slice literal all there, in order, each of k cells? -/
def inOrder (k : Nat) : Nat → List (Nat × List (D)) → Bool
  | _, [] => true
  | n, (i, x) :: r => decide (i = n) && decide (x.length = k) && inOrder k (n + 1) r
def buildSliceA (P : Program) (look : Look) (slot : Nat) (t : TypeId) (len : Nat) (parts : List (Nat × V)) : Option Eff :=
  match elemT P t with
  | some e => match sizeT P e with
    | some k => match toDss look (parts.map (·.2)) with
      | some (els, own) =>
        if parts.length = len ∧ 0 < k ∧ len * k ≤ 2 ^ 24 ∧ inOrder k 0 ((parts.map (·.1)).zip els) = true ∧ (zeroT P e).isSome = true then
          some { res := .val (.c (.own slot)), upd := kills own ++ [(slot, .arr k els)], rd := own }
        else none
      | none => none
    | none => none
  | none => none
def cutC (P : Program) (t : TypeId) (cs : List C) (off : Nat) : Option V :=
  match sizeT P t with
  | some n => match aggT P t with
    | some true => if off + n ≤ cs.length then some (.agg ((cs.drop off).take n)) else none
    | some false => match cs[off]? with
      | some x => some (.c x)
      | none => none
    | none => none
  | none => none
def loadA (P : Program) (look : Look) (t : TypeId) (a : V) : Option Eff :=
  match a with
  | .c (.ptr id off) => match look id with
    | some (.box cs) => match cutC P t cs off with
      | some v => eff v [id]
      | none => none
    | _ => none
  | .c (.ap id i off) => match look id with
    | some (.arr _ els) => match els[i]? with
      | some l => match cutC P t (l.map .d) off with
        | some v => eff v [id]
        | none => none
      | none => none
    | _ => none
  | .c (.elt _ els i off) => match els[i]? with
    | some l => match cutC P t (l.map .d) off with
      | some v => eff v
      | none => none
    | none => none
  | _ => none
def storeA (P : Program) (look : Look) (t : TypeId) (a x : V) : Option Eff :=
  match cells x with
  | none => none
  | some ys =>
    if sizeT P t = some ys.length then
      match a with
      | .c (.ptr id off) => match look id with
        | some (.box cs) => if off + ys.length ≤ cs.length then some { res := .val (.c .any), upd := [(id, .box (over cs off ys))], rd := [id] } else none
        | _ => none
      | .c (.ap id i off) => match look id with
        | some (.arr k els) => match els[i]? with
          | some l => match toDs look ys with
            | some (ds, own) =>
              if off + ds.length ≤ l.length ∧ own.contains id = false then
                some { res := .val (.c .any), upd := kills own ++ [(id, .arr k (els.set i (l.take off ++ ds ++ l.drop (off + ds.length))))], rd := own ++ [id] }
              else none
            | none => none
          | none => none
        | _ => none
      | _ => none
    else none
def fieldAddrA (P : Program) (look : Look) (t : TypeId) (x : V) (f : Nat) : Option Eff :=
  match fieldT P t f with
  | some (off, u) => match sizeT P u with
    | some n => if 0 < n then match x with
      | .c (.ptr id o) => eff (.c (.ptr id (o + off)))
      | .c (.ap id i o) => match look id with
        | some (.arr _ _) => eff (.c (.ap id i (o + off))) [id]
        | _ => none
      | .c (.elt k els i o) => eff (.c (.elt k els i (o + off)))
      | _ => none
      else none
    | none => none
  | none => none
def fieldA (P : Program) (t : TypeId) (x : V) (f : Nat) : Option Eff :=
  match fieldT P t f with
  | some (off, u) => match x with
    | .agg cs => match cutC P u cs off with
      | some v => eff v
      | none => none
    | _ => none
  | none => none
def indexAddrA (P : Program) (look : Look) (t : TypeId) (x i : V) : Option Eff :=
  match num i with
  | none => none
  | some n => match P.underlying t with
    | some (.slice e) => match sizeT P e with
      | some k => match x with
        | .c (.d (.s k' els)) => if k' = k ∧ 0 ≤ n ∧ n < els.length then eff (.c (.elt k els n.toNat 0)) else none
        | .c (.own id) => match look id with
          | some (.arr k' els) => if k' = k ∧ 0 ≤ n ∧ n < els.length then eff (.c (.ap id n.toNat 0)) [id] else none
          | _ => none
        | _ => none
      | none => none
    | some (.array len e) => match sizeT P e with
      | some k => match x with
        | .c (.ptr id o) => if 0 ≤ n ∧ n < len ∧ 0 < k then eff (.c (.ptr id (o + n.toNat * k))) else none
        | .c (.elt k' els j o) => if 0 ≤ n ∧ n < len ∧ 0 < k then eff (.c (.elt k' els j (o + n.toNat * k))) else none
        | _ => none
      | none => none
    | _ => none
def indexA (P : Program) (t : TypeId) (x i : V) : Option Eff :=
  match num i with
  | none => none
  | some n => match P.underlying t with
    | some .string => match x with
      | .c (.d (.v (.string s))) => if 0 ≤ n then match s[n.toNat]? with
        | some b => eff (.c (.d (.v (.int .u8 b.toNat))))
        | none => none
        else none
      | _ => none
    | _ => none
def bound (x : Option V) (dflt top : Nat) : Option Nat :=
  match x with
  | none => some dflt
  | some v => match num v with
    | some n => if 0 ≤ n ∧ n ≤ top then some n.toNat else none
    | none => none
def sliceA (P : Program) (look : Look) (slot : Nat) (t : TypeId) (x : V) (lo hi mx : Option V) : Option Eff :=
  match P.underlying t with
  | some .string => match x, mx with
    | .c (.d (.v (.string s))), none => match bound hi s.size s.size with
      | some h => match bound lo 0 h with
        | some l => eff (.c (.d (.v (.string (s.extract l h)))))
        | none => none
      | none => none
    | _, _ => none
  | some (.slice e) => match sizeT P e with
    | some k => if 0 < k then match x, mx with
      | .c (.d (.s k' els)), none => if k' = k then match bound hi els.length els.length with
          | some h => match bound lo 0 h with
            | some l => eff (.c (.d (.s k ((els.take h).drop l))))
            | none => none
          | none => none
        else none
      | .c (.own id), none => match look id with
        | some (.arr k' els) => if k' = k then match bound hi els.length els.length with
            | some h => match bound lo 0 h with
              | some l => some { res := .val (.c (.own slot)), upd := [(id, .gone), (slot, .arr k ((els.take h).drop l))], rd := [id] }
              | none => none
            | none => none
          else none
        | _ => none
      | _, _ => none
      else none
    | none => none
  | _ => none
def makeSliceA (P : Program) (slot : Nat) (t : TypeId) (len cap : V) : Option Eff :=
  match elemT P t with
  | some e => match sizeT P e, bytesT P e, zeroT P e, num len, num cap with
    | some k, some b, some zs, some l, some c =>
      match toDs (fun _ => none) zs with
      | some (ds, _) =>
        if 0 ≤ l ∧ l ≤ c ∧ c ≤ 9223372036854775807 ∧ b * c ≤ 281474976710656 ∧ 0 < k ∧ ds.length = k then
          some { res := .val (.c (.own slot)), upd := [(slot, .arr k (List.replicate l.toNat ds))] }
        else none
      | none => none
    | _, _, _, _, _ => none
  | none => none

def andI (k : IntKind) (a b : Int) : Int := k.wrap ((BitVec.ofInt k.bits a &&& BitVec.ofInt k.bits b).toNat : Int)
def orI (k : IntKind) (a b : Int) : Int := k.wrap ((BitVec.ofInt k.bits a ||| BitVec.ofInt k.bits b).toNat : Int)
def intOp (op : BinOp) (k : IntKind) (a b : Int) : Option V :=
  match op with
  | .and => some (.c (.d (.v (.int k (andI k a b)))))
  | .or => some (.c (.d (.v (.int k (orI k a b)))))
  | .add => some (.c (.d (.v (.int k (k.wrap (a + b))))))
  | .sub => some (.c (.d (.v (.int k (k.wrap (a - b))))))
  | .mul => some (.c (.d (.v (.int k (k.wrap (a * b))))))
  | .quo => if b = 0 then none else some (.c (.d (.v (.int k (k.wrap (a.tdiv b))))))
  | .rem => if b = 0 then none else some (.c (.d (.v (.int k (a.tmod b)))))
  | .eql => some (.c (.d (.v (.bool (a == b)))))
  | .neq => some (.c (.d (.v (.bool (a != b)))))
  | .lss => some (.c (.d (.v (.bool (decide (a < b))))))
  | .leq => some (.c (.d (.v (.bool (decide (a ≤ b))))))
  | .gtr => some (.c (.d (.v (.bool (decide (a > b))))))
  | .geq => some (.c (.d (.v (.bool (decide (a ≥ b))))))
  | _ => none
def strOp (op : BinOp) (x y : ByteArray) : Option V :=
  match op with
  | .add => if ((x.size + y.size : Nat) : Int) > IntKind.i64.max then none else some (.c (.d (.v (.string (x ++ y)))))
  | .eql => some (.c (.d (.v (.bool (x.toList == y.toList)))))
  | .neq => some (.c (.d (.v (.bool (!(x.toList == y.toList))))))
  | .lss => some (.c (.d (.v (.bool (Op.bytesLess x.toList y.toList)))))
  | .leq => some (.c (.d (.v (.bool (Op.bytesLess x.toList y.toList || x.toList == y.toList)))))
  | .gtr => some (.c (.d (.v (.bool (!(Op.bytesLess x.toList y.toList || x.toList == y.toList))))))
  | .geq => some (.c (.d (.v (.bool (!(Op.bytesLess x.toList y.toList))))))
  | _ => none
def binA (P : Program) (op : BinOp) (t : TypeId) (x y : V) : Option Eff :=
  match x, y with
  | .c (.d (.v (.int k a))), .c (.d (.v (.int k' b))) => if k = k' then match intOp op k a b with | some v => eff v | none => none else none
  | .c (.d (.v (.string a))), .c (.d (.v (.string b))) => match strOp op a b with | some v => eff v | none => none
  | .c (.d (.v (.bool a))), .c (.d (.v (.bool b))) =>
    match P.underlying t, op with
    | some .bool, .eql => eff (.c (.d (.v (.bool (a == b)))))
    | some .bool, .neq => eff (.c (.d (.v (.bool (!(a == b))))))
    | _, _ => none
  | _, _ => none
def nilEq (op : BinOp) (b : Bool) : Option Eff :=
  match op with
  | .eql => eff (.c (.d (.v (.bool b))))
  | .neq => eff (.c (.d (.v (.bool (!b)))))
  | _ => none
def eqFs (P : Program) (cs ds : List C) : List Field → Option Bool
  | [] => some true
  | f :: r => if f.name ≠ "_" then match P.underlying f.type with
    | some (.int k) => match cs[f.offset]? with
      | some (.d (.v (.int k1 a))) => match ds[f.offset]? with
        | some (.d (.v (.int k2 b))) => if k1 = k ∧ k2 = k then match eqFs P cs ds r with
          | some t => some ((a == b) && t)
          | none => none
          else none
        | _ => none
      | _ => none
    | _ => none
    else none
def plainEq (P : Program) (t : TypeId) : Bool := !P.stoodInHeld t && !P.eqGuardType P.depth t
def structA (P : Program) (op : BinOp) (t : TypeId) (cs ds : List C) : Option Eff :=
  if plainEq P t = true then match P.underlying t with
    | some (.struct fs) => match eqFs P cs ds fs.toList with
      | some b => nilEq op b
      | none => none
    | _ => none
  else none
def isIfaceT (P : Program) (t : TypeId) : Bool := match P.underlying t with | some (.interface _) => true | _ => false
def isPtrT (P : Program) (t : TypeId) : Bool := match P.underlying t with | some (.pointer _) => true | _ => false
def isSliceT (P : Program) (t : TypeId) : Bool := match P.underlying t with | some (.slice _) => true | _ => false
/-- Comparisons: of structs, with nil; c: an operand is a constant. -/
def binB (P : Program) (op : BinOp) (t : TypeId) (c : Bool) (x y : V) : Option Eff :=
  match x with
  | .agg cs => match y with
    | .agg ds => structA P op t cs ds
    | _ => none
  | .c (.d (.i _ _)) => match y with
    | .c (.d (.v .nilIface)) => if isIfaceT P t = true then nilEq op false else none
    | _ => none
  | .c (.d (.v (.iface _ _))) => match y with
    | .c (.d (.v .nilIface)) => if isIfaceT P t = true then nilEq op false else none
    | _ => none
  | .c (.d (.v .nilIface)) => match y with
    | .c (.d (.v .nilIface)) => if isIfaceT P t = true ∧ c = true then nilEq op true else none
    | _ => none
  | .c (.d (.v (.slice a _ _))) => match y with
    | .c (.d (.v (.slice none 0 0))) => if isSliceT P t = true then nilEq op a.isNone else none
    | _ => none
  | .c (.d (.s _ (_ :: _))) => match y with
    | .c (.d (.v (.slice none 0 0))) => if isSliceT P t = true then nilEq op false else none
    | _ => none
  | .c (.ptr _ _) => match y with
    | .c (.d (.v (.pointer none))) => if isPtrT P t = true then nilEq op false else none
    | _ => none
  | .c (.d (.v (.pointer a))) => match y with
    | .c (.d (.v (.pointer none))) => if isPtrT P t = true then nilEq op a.isNone else none
    | _ => none
  | _ => binA P op t x y
/-- An own slice against nil. -/
def boK (op : BinOp) (s : Bool) (id : Nat) (o : Option O) : Option Eff :=
  match o with
  | some (.arr _ _) => if s = true then (nilEq op false).map fun e => { e with rd := [id] } else none
  | some (.stk _ _ _ _) => if s = true then (nilEq op false).map fun e => { e with rd := [id] } else none
  | _ => none
def binL (P : Program) (look : Look) (op : BinOp) (t : TypeId) (c : Bool) (x y : V) : Option Eff :=
  match x, y with
  | .c (.own id), .c (.d (.v (.slice none 0 0))) => boK op (isSliceT P t) id (look id)
  | _, _ => binB P op t c x y
def constB : Operand → Bool
  | .const _ => true
  | _ => false
def unA (op : UnOp) (x : V) : Option Eff :=
  match op, x with
  | .not, .c (.d (.v (.bool b))) => eff (.c (.d (.v (.bool (!b)))))
  | .neg, .c (.d (.v (.int k n))) => eff (.c (.d (.v (.int k (k.wrap (0 - n))))))
  | _, _ => none
def convertA (P : Program) (src dst : TypeId) (x : V) : Option Eff :=
  match P.underlying src, P.underlying dst, x with
  | some (.int _), some (.int k), .c (.d (.v (.int _ n))) => eff (.c (.d (.v (.int k (k.wrap n)))))
  | some .string, some .string, .c (.d (.v (.string s))) => eff (.c (.d (.v (.string s))))
  | _, _, _ => none
/-- A value as the model has it, where it leads to no memory. -/
def plainC : C → Option Value
  | .d (.v x) => some x
  | _ => none
def plainV : V → Option Value
  | .c x => plainC x
  | .agg cs => match mapO plainC cs with | some l => some (.agg l.toArray) | none => none
  | .tup _ => none
/-- A struct in an interface: its cells as data. -/
def ifaceD (look : Look) (t : TypeId) (x : V) : Option Eff :=
  match x with
  | .agg cs => match toDs look cs with
    | some (ds, own) => some { res := .val (.c (.d (.i t ds))), upd := kills own, rd := own }
    | none => none
  | _ => eff (.c .any)
def makeInterfaceA (P : Program) (look : Look) (t : TypeId) (x : V) : Option Eff :=
  match P.underlying t with
  | some (.interface _) => none
  | none => none
  | _ => match plainV x with
    | some v => eff (.c (.d (.v (.iface t v))))
    | none => ifaceD look t x
def ptrs : List V → Option (List Nat)
  | [] => some []
  | .c (.ptr id 0) :: r => match ptrs r with | some l => some (id :: l) | none => none
  | _ => none
def makeFuncA (fn : Fn) (first caps : List V) : Option Eff :=
  match fn, ptrs first, ptrs caps with
  | .func f, some a, some b => eff (.c (.fn f a b))
  | _, _, _ => none
def extractA (x : V) (i : Nat) : Option Eff :=
  match x with
  | .tup vs => match vs[i]? with
    | some p => eff (ofComp p)
    | none => none
  | _ => none
def nilCheckA (look : Look) (x : V) : Option Eff :=
  match x with
  | .c (.ptr id o) => eff (.c (.ptr id o))
  | .c (.elt k els i o) => eff (.c (.elt k els i o))
  | .c (.ap id i o) => match look id with
    | some (.arr _ _) => eff (.c (.ap id i o)) [id]
    | _ => none
  | .c (.fn f a b) => eff (.c (.fn f a b))
  | _ => none

def lenA (look : Look) (x : V) : Option Eff :=
  match x with
  | .c (.d (.v (.slice _ 0 _))) => eff (.c (.d (.v (.int .i64 0))))
  | .c (.d (.s _ els)) => eff (.c (.d (.v (.int .i64 els.length))))
  | .c (.own id) => match look id with
    | some (.arr _ els) => eff (.c (.d (.v (.int .i64 els.length)))) [id]
    | _ => none
  | _ => none
def lenS (x : V) : Option Eff :=
  match x with
  | .c (.d (.v (.string s))) => eff (.c (.d (.v (.int .i64 s.size))))
  | _ => none
/-- The elements that an append adds, and the own slices that go with them. -/
def addedA (look : Look) (k : Nat) (x : V) : Option (List (List D) × List Nat) :=
  match x with
  | .c (.d (.s k' els)) => if k' = k ∨ els = [] then some (els, []) else none
  | .c (.d (.v (.slice _ 0 _))) => some ([], [])
  | .c (.own id) => match look id with
    | some (.arr k' els) => if k' = k then some (els, [id]) else none
    | some (.stk k' els _ _) => if k' = k then some (els, []) else none
    | _ => none
  | _ => none
/-- What is read alone, and stays. -/
def addedR (look : Look) (x : V) : List Nat :=
  match x with
  | .c (.own id) => if isStk (look id) then [id] else []
  | _ => []
def appendA (P : Program) (look : Look) (slot : Nat) (types : List TypeId) (args : List V) : Option Eff :=
  match types, args with
  | [t, u], [s, x] => if t ≠ u then none else match elemT P t with
    | some e => match sizeT P e, bytesT P e with
      | some k, some b => if 0 < k ∧ (zeroT P e).map List.length = some k then match addedA look k x with
        | some (new, o2) => match s with
          | .c (.d (.v (.slice none 0 0))) =>
            match new with
            | [] => some { res := .val (.c (.d (.v (.slice none 0 0)))), rd := o2 ++ addedR look x }
            | _ :: _ => if new.length * b ≤ 140737488355328 ∧ new.length ≤ 9223372036854775807 then some { res := .val (.c (.own slot)), upd := kills o2 ++ [(slot, .arr k new)], rd := o2 ++ addedR look x } else none
          | .c (.own id) => match look id with
            | some (.arr k' els) =>
              if k' = k ∧ (els.length + new.length) * b ≤ 140737488355328 ∧ els.length + new.length ≤ 9223372036854775807 ∧ o2.contains id = false then
                some { res := .val (.c (.own slot)), upd := kills o2 ++ [(id, .gone), (slot, .arr k (els ++ new))], rd := o2 ++ [id] ++ addedR look x }
              else none
            | some (.stk k' els cur true) =>
              if k' = k ∧ (els.length + new.length) * b ≤ 140737488355328 ∧ els.length + new.length ≤ 9223372036854775807 ∧ o2.contains id = false ∧ 0 < new.length then
                match cur with
                | none => some { res := .val (.c (.own slot)), upd := kills o2 ++ [(id, .stk k els (some slot) true), (slot, .stk k (els ++ new) none false)], rd := o2 ++ [id] ++ addedR look x }
                | some c => match look c with
                  | some (.stk _ _ none false) => if o2.contains c = false ∧ ¬ c = id then some { res := .val (.c (.own slot)), upd := kills o2 ++ [(c, .gone), (id, .stk k els (some slot) true), (slot, .stk k (els ++ new) none false)], rd := o2 ++ [c, id] ++ addedR look x } else none
                  | _ => none
              else none
            | _ => none
          | _ => none
        | none => none
        else none
      | _, _ => none
    | _ => none
  | _, _ => none
def maxA (args : List V) : Option Eff :=
  match args with
  | [.c (.d (.v (.int k x))), .c (.d (.v (.int _ y)))] => eff (.c (.d (.v (.int k (if y > x then y else x)))))
  | _ => none
def minA (args : List V) : Option Eff :=
  match args with
  | [.c (.d (.v (.int k x))), .c (.d (.v (.int _ y)))] => eff (.c (.d (.v (.int k (if y < x then y else x)))))
  | _ => none
def panicA (x : V) : Option Eff :=
  match x with
  | .c (.d (.v (.iface t v))) => some { res := .pan (.iface t v) }
  | _ => none
def builtinA (P : Program) (look : Look) (slot : Nat) (b : Builtin) (types : List TypeId) (args : List V) : Option Eff :=
  match b with
  | .len => match args with
    | [x] => match types with
      | [t] => match P.underlying t with
        | some .string => lenS x
        | some (.slice _) => lenA look x
        | _ => none
      | _ => none
    | _ => none
  | .append => appendA P look slot types args
  | .max => maxA args
  | .min => minA args
  | .panic => match args with
    | [x] => panicA x
    | _ => none
  | _ => none
/-! maps whose keys and values are scalars, iterators over texts -/
def scal (v : V) : Option Value :=
  match v with
  | .c (.d (.v x)) => some x
  | _ => none
def isKeyB : TypeDesc → Value → Bool
  | .bool, .bool _ => true
  | .int k, .int k' _ => decide (k' = k)
  | .string, .string _ => true
  | _, _ => false
def keyA (P : Program) (t : TypeId) (x : Value) : Option (TypeDesc × TypeId) :=
  match P.underlying t with
  | some (.map k e) => match P.underlying k with
    | some d => if isKeyB d x then some (d, e) else none
    | none => none
  | _ => none
def makeMapA (P : Program) (slot : Nat) (t : TypeId) (hint : Option V) : Option Eff :=
  match hint with
  | none => some { res := .val (.c (.rf true slot)), upd := [(slot, .raw (.map #[] 0))] }
  | some v => match num v, P.underlying t with
    | some _, some (.map _ _) => some { res := .val (.c (.rf true slot)), upd := [(slot, .raw (.map #[] 0))] }
    | _, _ => none
def mapUpdateA (P : Program) (look : Look) (t : TypeId) (m k x : V) : Option Eff :=
  match m, scal k, scal x with
  | .c (.rf true id), some key, some val => match keyA P t key with
    | some (d, _) => match look id with
      | some (.raw (.map es clock)) => match Instr.findNow d key es.toList 0 with
        | some (some (i, _)) => match es[i]? with
          | some old => if isKeyB d old.key && (Instr.sameNow d key old.key == some true) then some { res := .val (.c .any), upd := [(id, .raw (.map (es.modify i fun e => { e with key, val }) clock))], rd := [id] } else none
          | none => none
        | some none => some { res := .val (.c .any), upd := [(id, .raw (.map (es.push { key, val, born := clock }) (clock + 1)))], rd := [id] }
        | none => none
      | _ => none
    | none => none
  | _, _, _ => none
def zero1 (P : Program) (t : TypeId) : Option Value :=
  match P.info? t with
  | some i => match i.zero with
    | some z => if cellB z then some z else none
    | none => none
  | none => none
def pairV (ok : Bool) (x : Value) (b : Bool) : V := if ok then .tup [(false, [.d (.v x)]), (false, [.d (.v (.bool b))])] else .c (.d (.v x))
def lookupA (P : Program) (look : Look) (t : TypeId) (m k : V) (ok : Bool) : Option Eff :=
  match m, scal k with
  | .c (.rf true id), some key => match keyA P t key with
    | some (d, e) => match look id with
      | some (.raw (.map es _)) => match Instr.findNow d key es.toList 0 with
        | some (some (_, v)) => if cellB v then eff (pairV ok v true) [id] else none
        | some none => match zero1 P e with
          | some z => eff (pairV ok z false) [id]
          | none => none
        | none => none
      | _ => none
    | none => none
  | _, _ => none
def rangeA (P : Program) (slot : Nat) (t : TypeId) (x : V) : Option Eff :=
  match P.underlying t, scal x with
  | some .string, some (.string s) => some { res := .val (.c (.rf false slot)), upd := [(slot, .raw (.stringIter s 0))] }
  | _, _ => none
def nextA (look : Look) (it : V) (isString : Bool) : Option Eff :=
  match it, isString with
  | .c (.rf false id), true => match look id with
    | some (.raw (.stringIter s pos)) =>
      if pos < s.size then
        some { res := .val (.tup [(false, [.d (.v (.bool true))]), (false, [.d (.v (.int .i64 pos))]), (false, [.d (.v (.int .i32 (Utf8.decode s pos).1))])]), upd := [(id, .raw (.stringIter s (pos + (Utf8.decode s pos).2)))], rd := [id] }
      else eff (.tup [(false, [.d (.v (.bool false))])]) [id]
    | _ => none
  | _, _ => none
def ptrV (id : Nat) : V := .c (.ptr id 0)
/-- The function that a value calls, and with what. -/
def target (f : V) (args : List V) : Option (FuncId × List V) :=
  match f with
  | .c (.fn f first caps) => some (f, first.map ptrV ++ args ++ caps.map ptrV)
  | _ => none
def callV (rec : Rec) (look : Look) (slot : Nat) (f : V) (args : List V) : Option Eff :=
  match target f args with
  | some (f, args) => callA rec look slot f args
  | none => none
def callOpA (P : Program) (rec : Rec) (look : Look) (slot : Nat) (ρ : Operand → V) (c : Call) : Option Eff :=
  match c.callee with
  | .builtin b => builtinA P look slot b c.argTypes.toList (c.args.toList.map ρ)
  | .value f => callV rec look slot (ρ f) (c.args.toList.map ρ)
  | .invoke _ _ => none
def opA (P : Program) (rec : Rec) (look : Look) (slot : Nat) (ρ : Operand → V) (o : Op) : Option Eff :=
  match o with
  | .move x => eff (ρ x)
  | .assign x => eff (ρ x)
  | .pick c a b => pickA (ρ c) (ρ a) (ρ b)
  | .alloc t => allocA P slot t
  | .box _ x => boxA slot (ρ x)
  | .build t parts => buildA P t (parts.toList.map fun p => (p.1, ρ p.2))
  | .buildSlice t len parts => buildSliceA P look slot t len (parts.toList.map fun p => (p.1, ρ p.2))
  | .load t a => loadA P look t (ρ a)
  | .store t a x => storeA P look t (ρ a) (ρ x)
  | .nilCheck x => nilCheckA look (ρ x)
  | .binOp op t x y _ => binL P look op t (constB x || constB y) (ρ x) (ρ y)
  | .unOp op _ x => unA op (ρ x)
  | .convert a b x => convertA P a b (ρ x)
  | .makeInterface t x => makeInterfaceA P look t (ρ x)
  | .makeFunc fn first caps => makeFuncA fn (first.toList.map ρ) (caps.toList.map ρ)
  | .makeSlice t l c => makeSliceA P slot t (ρ l) (ρ c)
  | .slice t x lo hi mx => sliceA P look slot t (ρ x) (lo.map ρ) (hi.map ρ) (mx.map ρ)
  | .fieldAddr t x f => fieldAddrA P look t (ρ x) f
  | .field t x f => fieldA P t (ρ x) f
  | .indexAddr t x i => indexAddrA P look t (ρ x) (ρ i)
  | .index t x i => indexA P t (ρ x) (ρ i)
  | .extract x i => extractA (ρ x) i
  | .panic x => panicA (ρ x)
  | .makeMap t r => makeMapA P slot t (r.map ρ)
  | .mapUpdate t m k x => mapUpdateA P look t (ρ m) (ρ k) (ρ x)
  | .insert t m k x => mapUpdateA P look t (ρ m) (ρ k) (ρ x)
  | .lookup t x ix ok => lookupA P look t (ρ x) (ρ ix) ok
  | .range t x => rangeA P slot t (ρ x)
  | .next it s => nextA look (ρ it) s
  | .call c => callOpA P rec look slot ρ c
  | _ => none
end Go.Proofs.YteenjodhmppgjaaGreatDoor.Am
end
section
/- The abstract machine: one step, and its runs. -/
namespace Go.Proofs.YteenjodhmppgjaaGreatDoor.Am
open Go

abbrev Ext := FuncId → Option (List V → List O → Option Out)

def wantedA (all : Array Oper) (env : Env) (g : Option (Nat × Bool)) : Option Bool :=
  match g with
  | none => some true
  | some (j, want) => match all[j]? with
    | some oj => match oj.dst with
      | some t => match gt env t with
        | .c (.d (.v (.bool b))) => some (b == want)
        | .tup [] => some false
        | _ => none
      | none => none
    | none => none
def dstOk (nt : Nat) (dst : Option Nat) : Bool := match dst with | some t => decide (t < nt) | none => true

/-! ### what is kept at the end of a function, and at the head of a loop -/
def cleanO (look : Look) : O → O
  | .box cs => .box (cs.map (cleanC look))
  | o => o
/-- The objects that are kept, in order: the m that came in, then those that these and roots lead to. -/
def kept (m : Nat) (roots : List Nat) (loc : List O) : List Nat :=
  reach (lk loc) 200 (List.range m) (((List.range m).flatMap fun id => refsO (lk loc id)) ++ roots)
def keptO (ids : List Nat) (loc : List O) : Option (List O) :=
  match mapO (lk loc) ids with
  | some os => mapO (renO (pos ids)) os
  | none => none
def resultA (P : Program) (env : Env) (loc : List O) : ResultVar → Option V
  | .tmp t => some (gt env t)
  | .cell a t => match loadA P (lk loc) t (gt env a) with
    | some { res := .val v, .. } => some v
    | _ => none
def finishA (P : Program) (cf : Cf) (env : Env) (loc0 : List O) : Option Out :=
  match mapO (resultA P env loc0) cf.res with
  | some vs0 => match argVsK cf.keep (lk loc0) vs0 with
    | some (vs, own) =>
      let loc1 := updO loc0 (kills own)
      let loc := loc1.map (cleanO (lk loc1))
      let ids := kept cf.m (vs.flatMap refsV) loc
      if decide ids.Nodup && decide (cf.m ≤ loc.length) then
        match mapO (renV (pos ids)) vs with
        | some vs' => match keptO ids loc with
          | some os => some (.ret vs' os)
          | none => none
        | none => none
      else none
    | none => none
  | none => none
def panicOut (cf : Cf) (x : Value) (loc1 : List O) : Option Out :=
  let loc := loc1.map (cleanO (lk loc1))
  let ids := kept cf.m [] loc
  if decide ids.Nodup && decide (cf.m ≤ loc.length) then
    match keptO ids loc with
    | some os => some (.pan x os)
    | none => none
  else none

def isAssign : Op → Bool
  | .assign _ => true
  | _ => false
/-- The slots that a piece of code reads ahead of writing them, by its text. -/
def tmpOf : Operand → List Nat
  | .tmp t => [t]
  | _ => []
def earlyOps (w e : List Nat) : List Oper → List Nat × List Nat
  | [] => (w, e)
  | o :: l => earlyOps (o.dst.toList ++ w) (((o.op.operands.toList.flatMap tmpOf).filter fun t => !w.contains t) ++ e) l
def early (w e : List Nat) : Code → List Nat × List Nat
  | .region _ ops _ => earlyOps w e ops.toList
  | .seq a b => early (early w e a).1 (early w e a).2 b
  | .cond x a b => ((early w ((tmpOf x).filter (fun t => !w.contains t) ++ e) a).1 ++ (early w (early w ((tmpOf x).filter (fun t => !w.contains t) ++ e) a).2 b).1, (early w (early w ((tmpOf x).filter (fun t => !w.contains t) ++ e) a).2 b).2)
  | .block _ a => early w e a
  | .loop a => early w e a
  | _ => (w, e)
def renPair (r : Nat → Option Nat) (p : Nat × V) : Option (Nat × V) := match renV r p.2 with | some v => some (p.1, v) | none => none
/-- What is known at the head of a loop's round: the slots that the body makes anew are forgotten, objects that nothing leads to as well. -/
def headA (m : Nat) (forget : List Nat) (env0 : Env) (loc1 : List O) : Option (Env × List O) :=
  let look := lk loc1
  let env := (env0.filter fun p => !forget.contains p.1).map fun p => (p.1, cleanV look p.2)
  let loc := loc1.map (cleanO look)
  let ids := kept m (env.flatMap fun p => refsV p.2) loc
  if decide ids.Nodup && decide (m ≤ loc.length) then
    match mapO (renPair (pos ids)) env with
    | some env' => match keptO ids loc with
      | some os => some (env', os)
      | none => none
    | none => none
  else none

/-- The slots that a piece of code assigns. -/
def asgOps (ops : List Oper) : List Nat := ops.filterMap fun o => if isAssign o.op then o.dst else none
def asgs : Code → List Nat
  | .region _ ops _ => asgOps ops.toList
  | .seq a b => asgs a ++ asgs b
  | .cond _ a b => asgs a ++ asgs b
  | .block _ a => asgs a
  | .loop a => asgs a
  | _ => []
/-- These slots are there, whatever they hold. -/
def padE (l : List Nat) (env : Env) : Env :=
  match l with
  | [] => env
  | t :: r => padE r (if env.any (fun p => p.1 == t) then env else pt env t (.c .any))
/-- The slots that are read from here on, by the text. -/
def uni (a b : List Nat) : List Nat := a ++ b.filter fun t => !a.contains t
def opReads (all : Array Oper) (o : Oper) : List Nat :=
  (o.op.operands.toList.flatMap tmpOf) ++ (match o.guard with | some (j, _) => ((all[j]?).bind (·.dst)).toList | none => [])
def liveOps (all : Array Oper) : List Oper → List Nat → List Nat
  | [], L => L
  | o :: l, L => uni (opReads all o) ((liveOps all l L).filter fun t => !o.dst.toList.contains t)
def liveC (res : List Nat) : Code → List (Nat × List Nat) → List Nat → List Nat
  | .ret, _, _ => res
  | .seq a b, ex, L => liveC res a ex (liveC res b ex L)
  | .cond x a b, ex, L => uni (tmpOf x) (uni (liveC res a ex L) (liveC res b ex L))
  | .block id a, ex, L => liveC res a ((id, L) :: ex) L
  | .loop a, ex, _ => liveC res a ex []
  | .exit id, ex, _ => (ex.lookup id).getD []
  | .region _ ops _, _, L => liveOps ops ops.toList L
  | _, _, L => L
def liveK (res : List Nat) : List It → List Nat × List (Nat × List Nat)
  | [] => (res, [])
  | .code c :: K => (liveC res c (liveK res K).2 (liveK res K).1, (liveK res K).2)
  | .inBlock id :: K => ((liveK res K).1, (id, (liveK res K).1) :: (liveK res K).2)
  | .inLoop c :: K => (liveC res c (liveK res K).2 [], (liveK res K).2)
  | .ops all l :: K => (liveOps all l (liveK res K).1, (liveK res K).2)
def resT : ResultVar → Nat
  | .tmp t => t
  | .cell a _ => a
/-- What is known at the head of a loop's round: the slots that are read from there on, and what they lead to. -/
def headL (cf : Cf) (c : Code) (K : List It) (env : Env) (loc : List O) : Option (Env × List O) :=
  let live := liveC (cf.res.map resT) c (liveK (cf.res.map resT) K).2 []
  let e := padE ((asgs c).filter fun t => live.contains t) env
  headA cf.m ((e.map (·.1)).filter fun t => !live.contains t) e loc

/-! ### a statement whose order is open -/
def holes (n : Nat) : List O := List.replicate n .hole
def drawA (P : Program) (rec : Rec) (nt : Nat) (all : Array Oper) (base : Nat) : List Oper → Nat → Env → List O → Option (Env × List O × List (List Nat × List Nat))
  | [], _, env, loc => some (env, loc, [])
  | o :: l, i, env, loc =>
    if dstOk nt o.dst then
      match wantedA all env o.guard with
      | some true => match opA P rec (lk loc) (base + i) (ev env) o.op with
        | some { res := .val v, upd, rd } => if upd.all (fun p => decide (p.1 ≤ base + i)) then
            match drawA P rec nt all base l (i + 1) (putO env o.dst v) (updO loc upd) with
            | some (e, lo, fps) => some (e, lo, (rd, (base + i) :: upd.map (·.1)) :: fps)
            | none => none
          else none
        | _ => none
      | some false => match drawA P rec nt all base l (i + 1) (putO env o.dst (.tup [])) loc with
        | some (e, lo, fps) => some (e, lo, ([], [base + i]) :: fps)
        | none => none
      | none => none
    else none
def apart (a b : List Nat) : Bool := a.all fun x => !b.contains x
def seen (all : Array Oper) (o : Oper) : List Nat :=
  (o.op.operands.toList.filterMap fun | .tmp t => some t | _ => none) ++ (match o.guard with | some (j, _) => ((all[j]?).bind (·.dst)).toList | none => [])
/-- What an operation reads and writes: slots and objects. -/
structure Foot where
  seen : List Nat
  dst : List Nat
  rd : List Nat
  wr : List Nat
def foot (all : Array Oper) (o : Oper) (fp : List Nat × List Nat) : Foot := ⟨seen all o, o.dst.toList, fp.1, fp.2⟩
/-- Do two operations leave each other alone? -/
def free2 (x y : Foot) : Bool :=
  apart x.dst y.seen && apart y.dst x.seen && apart x.dst y.dst && apart x.wr y.rd && apart y.wr x.rd && apart x.wr y.wr
/-- The operations that an operation waits for, as bits. -/
def mask (acc : List Nat) (es : List Edge) : Nat :=
  match es with
  | [] => 0
  | e :: r => if Region.binds .any e then 2 ^ e.on ||| acc.getD e.on 0 ||| mask acc r else mask acc r
def befs (acc : List Nat) : List Oper → List Nat
  | [] => acc
  | o :: l => befs (acc ++ [mask acc o.after.toList]) l
def backOk : Nat → List Oper → Bool
  | _, [] => true
  | i, o :: l => o.after.toList.all (fun e => !Region.binds .any e || decide (e.on < i)) && backOk (i + 1) l
def freeAll (b : List Nat) (xs : List Foot) : Bool :=
  (List.range xs.length).all fun j => (List.range j).all fun i => (b.getD j 0).testBit i || (match xs[i]?, xs[j]? with | some x, some y => free2 x y | _, _ => true)
def feet (all : Array Oper) : List Oper → List (List Nat × List Nat) → List Foot
  | o :: l, fp :: r => foot all o fp :: feet all l r
  | _, _ => []
/-- Are all orders that the edges allow one? -/
def drawOk (all : Array Oper) (fps : List (List Nat × List Nat)) : Bool :=
  backOk 0 all.toList && freeAll (befs [] all.toList) (feet all all.toList fps)

/-! a statement whose order is open, in which an operation panics -/
/-- The first operation, in the text's order, that panics. -/
def panIx (P : Program) (rec : Rec) (nt : Nat) (all : Array Oper) (base : Nat) : List Oper → Nat → Env → List O → Option Nat
  | [], _, _, _ => none
  | o :: l, i, env, loc =>
    if dstOk nt o.dst then
      match wantedA all env o.guard with
      | some true => match opA P rec (lk loc) (base + i) (ev env) o.op with
        | some { res := .val v, upd, .. } => if upd.all (fun p => decide (p.1 ≤ base + i)) then panIx P rec nt all base l (i + 1) (putO env o.dst v) (updO loc upd) else none
        | some { res := .pan _, .. } => some i
        | none => none
      | some false => panIx P rec nt all base l (i + 1) (putO env o.dst (.tup [])) loc
      | none => none
    else none
/-- The others are played, but for those that wait for the one that panics: what it panics with, the objects then, the footprints. -/
def drawP (P : Program) (rec : Rec) (nt : Nat) (all : Array Oper) (base p : Nat) (b : List Nat) : List Oper → Nat → Env → List O → Option (Option (Value × List O) × List (List Nat × List Nat))
  | [], _, _, _ => some (none, [])
  | o :: l, i, env, loc =>
    if dstOk nt o.dst then
      if (b.getD i 0).testBit p then
        match drawP P rec nt all base p b l (i + 1) env loc with
        | some (r, fps) => some (r, ([], [base + i]) :: fps)
        | none => none
      else match wantedA all env o.guard with
      | some true => match opA P rec (lk loc) (base + i) (ev env) o.op with
        | some { res := .val v, upd, rd } => if upd.all (fun p => decide (p.1 ≤ base + i)) && decide (i ≠ p) then
            match drawP P rec nt all base p b l (i + 1) (putO env o.dst v) (updO loc upd) with
            | some (r, fps) => some (r, (rd, (base + i) :: upd.map (·.1)) :: fps)
            | none => none
          else none
        | some { res := .pan x, upd, rd } => if upd.all (fun p => decide (p.1 ≤ base + i)) && decide (i = p) then
            match drawP P rec nt all base p b l (i + 1) env loc with
            | some (none, fps) => some (some (x, updO loc upd), (rd, (base + i) :: upd.map (·.1)) :: fps)
            | _ => none
          else none
        | none => none
      | some false => if i = p then none else
        match drawP P rec nt all base p b l (i + 1) (putO env o.dst (.tup [])) loc with
        | some (r, fps) => some (r, ([], [base + i]) :: fps)
        | none => none
      | none => none
    else none
/-- Does what may go before or not leave the old objects alone? -/
def panOk (b : List Nat) (p base : Nat) (fps : List (List Nat × List Nat)) : Bool :=
  (List.range fps.length).all fun i => decide (i = p) || (b.getD p 0).testBit i || (fps.getD i ([], [])).2.all fun id => decide (base ≤ id)
def closedBelow (base : Nat) (loc : List O) : Bool := (List.range base).all fun id => (refsO (lk loc id)).all fun j => decide (j < base)
def afterPan (cf : Cf) (all : Array Oper) (base p : Nat) (r : Option (Option (Value × List O) × List (List Nat × List Nat))) : Option Out :=
  match r with
  | some (some (x, loc1), fps) => if drawOk all fps && panOk (befs [] all.toList) p base fps && closedBelow base loc1 && decide (cf.m ≤ base) && decide (base ≤ loc1.length) then panicOut cf x loc1 else none
  | _ => none

def exitA (id : Nat) : List It → Option (List It)
  | .inBlock id' :: k => if id' == id then some k else exitA id k
  | _ :: k => exitA id k
  | [] => none

/-! ### one step -/
def afterOp (rec : Rec) (cf : Cf) (all : Array Oper) (dst : Option Nat) (l : List Oper) (K : List It) (env : Env) (loc : List O) (r : Option Eff) : Option Out :=
  match r with
  | some { res := .val v, upd, .. } => rec (.k cf (.ops all l :: K) (putO env dst v) (updO loc upd))
  | some { res := .pan x, upd, .. } => panicOut cf x (updO loc upd)
  | none => none
def afterDraw (rec : Rec) (cf : Cf) (all : Array Oper) (K : List It) (r : Option (Env × List O × List (List Nat × List Nat))) : Option Out :=
  match r with
  | some (env, loc, fps) => if drawOk all fps then rec (.k cf K env loc) else none
  | none => none
def afterHead (rec : Rec) (cf : Cf) (K : List It) (r : Option (Env × List O)) : Option Out :=
  match r with
  | some (env, loc) => rec (.k cf K env loc)
  | none => none
def codeA (P : Program) (rec : Rec) (cf : Cf) (c : Code) (K : List It) (env : Env) (loc : List O) : Option Out :=
  match c with
  | .skip => rec (.k cf K env loc)
  | .ret => finishA P cf env loc
  | .seq a b => rec (.k cf (.code a :: .code b :: K) env loc)
  | .cond x a b => match ev env x with
    | .c (.d (.v (.bool t))) => rec (.k cf (.code (if t then a else b) :: K) env loc)
    | _ => none
  | .block id a => rec (.k cf (.code a :: .inBlock id :: K) env loc)
  | .loop a => rec (.k cf (.inLoop a :: K) env loc)
  | .exit id => match exitA id K with
    | some K' => rec (.k cf K' env loc)
    | none => none
  | .region _ ops false => rec (.k cf (.ops ops ops.toList :: K) env loc)
  | .region _ ops true => match drawA P rec cf.nt ops loc.length ops.toList 0 env (loc ++ holes ops.size) with
    | some r => afterDraw rec cf ops K (some r)
    | none => match panIx P rec cf.nt ops loc.length ops.toList 0 env (loc ++ holes ops.size) with
      | some p => afterPan cf ops loc.length p (drawP P rec cf.nt ops loc.length p (befs [] ops.toList) ops.toList 0 env (loc ++ holes ops.size))
      | none => none
  | _ => none
def stepA (P : Program) (ext : Ext) (rec : Rec) : Entry → Option Out
  | .call f args objs => match ext f with
    | some g => g args objs
    | none => match P.funcs[f]? with
      | some fn => match fn.body with
        | some c => if args.length ≤ fn.ntmps then
            rec (.k ⟨fn.ntmps, objs.length, fn.results.toList, retF f⟩ [.code c] (args.zipIdx.map fun (v, i) => (i, v)) objs)
          else none
        | none => none
      | none => none
  | .k cf todo env loc => match todo with
    | [] => finishA P cf env loc
    | .code c :: K => codeA P rec cf c K env loc
    | .inBlock _ :: K => rec (.k cf K env loc)
    | .inLoop c :: K => afterHead rec cf (.code c :: .inLoop c :: K) (headL cf c K env loc)
    | .ops _ [] :: K => rec (.k cf K env loc)
    | .ops all (o :: l) :: K =>
      if dstOk cf.nt o.dst then
        match wantedA all env o.guard with
        | some true => afterOp rec cf all o.dst l K env loc (opA P rec (lk loc) loc.length (ev env) o.op)
        | some false => rec (.k cf (.ops all l :: K) (putO env o.dst (.tup [])) loc)
        | none => none
      else none

/-! ### runs -/
def runN (P : Program) (ext : Ext) : Nat → Rec
  | 0, _ => none
  | n + 1, e => stepA P ext (runN P ext n) e
open Classical in
noncomputable def run (P : Program) (ext : Ext) (e : Entry) : Option Out :=
  if h : ∃ o n, runN P ext n e = some o then some h.choose else none

end Go.Proofs.YteenjodhmppgjaaGreatDoor.Am
end
section
/- The abstract machine: a run is one step and then a run. -/
namespace Go.Proofs.YteenjodhmppgjaaGreatDoor.Am
open Go

/-- What g takes from rec for its answer is finite. -/
def Cont {γ : Type} (g : Rec → Option γ) : Prop :=
  ∀ rec o, g rec = some o → ∃ l : List (Entry × Out), (∀ p ∈ l, rec p.1 = some p.2) ∧ ∀ rec' : Rec, (∀ p ∈ l, rec' p.1 = some p.2) → g rec' = some o
theorem cont_const {γ : Type} (x : Option γ) : Cont (fun _ => x) := fun _ _ h => ⟨[], by simp, fun _ _ => h⟩
theorem cont_rec (e : Entry) : Cont (fun rec => rec e) := fun rec o h => ⟨[(e, o)], by simpa using h, fun rec' h' => by simpa using h'⟩
theorem cont_map {γ δ : Type} {g : Rec → Option γ} (h : Option γ → Option δ) (hn : h none = none) (hg : Cont g) : Cont (fun rec => h (g rec)) := by
  intro rec o ho
  dsimp only at ho
  cases hr : g rec with
  | none => rw [hr, hn] at ho; cases ho
  | some x =>
    obtain ⟨l, h1, h2⟩ := hg rec x hr
    exact ⟨l, h1, fun rec' h' => by dsimp only; rw [h2 rec' h', ← hr]; exact ho⟩
theorem cont_callRec (f : FuncId) (args : List V) (objs : List O) : Cont (fun rec => callRec rec f args objs) := by
  unfold callRec
  split
  · split
    · exact cont_map (castOut objs) rfl (fun rec o h => ⟨[(_, o)], by simpa using h, fun rec' h' => h' _ List.mem_cons_self⟩)
    · exact cont_const _
  · exact fun rec o h => ⟨[(_, o)], by simpa using h, fun rec' h' => h' _ List.mem_cons_self⟩
theorem cont_callA (look : Look) (slot : Nat) (f : FuncId) (args : List V) : Cont (fun rec => callA rec look slot f args) := by
  unfold callA
  refine cont_map (stkBack look _) rfl ?_
  cases callPrep f look args with
  | none => exact cont_const _
  | some p => exact cont_map (callOut p.1 p.2.1 slot) rfl (cont_callRec f p.2.2.1 p.2.2.2)
theorem cont_opA (P : Program) (look : Look) (slot : Nat) (ρ : Operand → V) (o : Op) : Cont (fun rec => opA P rec look slot ρ o) := by
  cases o with
  | call c =>
    show Cont (fun rec => callOpA P rec look slot ρ c)
    unfold callOpA
    cases c.callee with
    | builtin b => exact cont_const _
    | invoke _ _ => exact cont_const _
    | value f =>
      dsimp only
      unfold callV
      cases target (ρ f) (c.args.toList.map ρ) with
      | none => exact cont_const _
      | some p => exact cont_callA _ _ _ _
  | _ => exact cont_const _
theorem cont_afterOp (P : Program) (cf : Cf) (all : Array Oper) (dst : Option Nat) (l : List Oper) (K : List It) (env : Env) (loc : List O) (o : Op) :
    Cont (fun rec => afterOp rec cf all dst l K env loc (opA P rec (lk loc) loc.length (ev env) o)) := by
  intro rec out h
  dsimp only at h
  cases hr : opA P rec (lk loc) loc.length (ev env) o with
  | none => simp [hr, afterOp] at h
  | some e =>
    obtain ⟨l1, h1, h2⟩ := cont_opA P (lk loc) loc.length (ev env) o rec e hr
    rw [hr] at h
    obtain ⟨res, upd, rd⟩ := e
    cases res with
    | pan x => exact ⟨l1, h1, fun rec' h' => by have e1 := h2 rec' h'; dsimp only at e1 ⊢; rw [e1]; exact h⟩
    | val v =>
      refine ⟨(.k cf (.ops all l :: K) (putO env dst v) (updO loc upd), out) :: l1, ?_, fun rec' h' => ?_⟩
      · intro p hp
        rcases List.mem_cons.1 hp with rfl | hp
        · exact h
        · exact h1 p hp
      · have e1 := h2 rec' (fun p hp => h' p (List.mem_cons_of_mem _ hp))
        dsimp only at e1 ⊢
        rw [e1]
        exact h' _ (List.mem_cons_self)
theorem cont_drawA (P : Program) (nt : Nat) (all : Array Oper) (base : Nat) : ∀ (l : List Oper) (i : Nat) (env : Env) (loc : List O), Cont (fun rec => drawA P rec nt all base l i env loc)
  | [], _, _, _ => cont_const _
  | o :: l, i, env, loc => by
    intro rec out h
    simp only [drawA] at h
    by_cases hd : dstOk nt o.dst = true
    case neg => simp [hd] at h
    simp only [hd, if_true] at h
    cases hw : wantedA all env o.guard with
    | none => simp [hw] at h
    | some t =>
      cases t with
      | false =>
        simp only [hw] at h
        cases hr : drawA P rec nt all base l (i + 1) (putO env o.dst (.tup [])) loc with
        | none => simp [hr] at h
        | some x =>
          obtain ⟨l1, h1, h2⟩ := cont_drawA P nt all base l (i + 1) _ _ rec x hr
          refine ⟨l1, h1, fun rec' h' => ?_⟩
          simp only [drawA, hd, if_true, hw]
          have := h2 rec' h'
          dsimp only at this
          rw [this]; rw [hr] at h; exact h
      | true =>
        simp only [hw] at h
        cases hr : opA P rec (lk loc) (base + i) (ev env) o.op with
        | none => simp [hr] at h
        | some e =>
          obtain ⟨l1, h1, h2⟩ := cont_opA P (lk loc) (base + i) (ev env) o.op rec e hr
          rw [hr] at h
          obtain ⟨res, upd, rd⟩ := e
          cases res with
          | pan x => simp at h
          | val v =>
            dsimp only at h
            by_cases hu : (upd.all fun p => decide (p.1 ≤ base + i)) = true
            case neg => simp [hu] at h
            simp only [hu, if_true] at h
            cases hq : drawA P rec nt all base l (i + 1) (putO env o.dst v) (updO loc upd) with
            | none => simp [hq] at h
            | some x =>
              obtain ⟨l3, h3, h4⟩ := cont_drawA P nt all base l (i + 1) _ _ rec x hq
              refine ⟨l1 ++ l3, ?_, fun rec' h' => ?_⟩
              · intro p hp
                rcases List.mem_append.1 hp with hp | hp
                · exact h1 p hp
                · exact h3 p hp
              · have e1 := h2 rec' (fun p hp => h' p (List.mem_append_left _ hp))
                have e2 := h4 rec' (fun p hp => h' p (List.mem_append_right _ hp))
                dsimp only at e1 e2
                simp only [drawA, hd, if_true, hw, e1, hu, e2]
                rw [hq] at h; exact h
theorem cont_afterDraw (P : Program) (cf : Cf) (ops : Array Oper) (K : List It) (env : Env) (loc : List O) :
    Cont (fun rec => afterDraw rec cf ops K (drawA P rec cf.nt ops loc.length ops.toList 0 env (loc ++ holes ops.size))) := by
  intro rec out h
  dsimp only at h
  cases hr : drawA P rec cf.nt ops loc.length ops.toList 0 env (loc ++ holes ops.size) with
  | none => simp [hr, afterDraw] at h
  | some x =>
    obtain ⟨l1, h1, h2⟩ := cont_drawA P cf.nt ops loc.length ops.toList 0 env (loc ++ holes ops.size) rec x hr
    obtain ⟨e, lo, fps⟩ := x
    rw [hr] at h
    simp only [afterDraw] at h
    by_cases hd : drawOk ops fps = true
    case neg => simp [hd] at h
    simp only [hd, if_true] at h
    refine ⟨(.k cf K e lo, out) :: l1, ?_, fun rec' h' => ?_⟩
    · intro p hp
      rcases List.mem_cons.1 hp with rfl | hp
      · exact h
      · exact h1 p hp
    · have e1 := h2 rec' (fun p hp => h' p (List.mem_cons_of_mem _ hp))
      dsimp only at e1 ⊢
      rw [e1]
      simp only [afterDraw, hd, if_true]
      exact h' _ (List.mem_cons_self)
theorem panIx_no (P : Program) (rec : Rec) (nt : Nat) (all : Array Oper) (base : Nat) : ∀ (l : List Oper) (i : Nat) (env : Env) (loc : List O) (p : Nat), panIx P rec nt all base l i env loc = some p → drawA P rec nt all base l i env loc = none
  | [], _, _, _, _, h => by cases h
  | o :: l, i, env, loc, p, h => by
    simp only [panIx] at h
    simp only [drawA]
    by_cases hd : dstOk nt o.dst = true
    case neg => simp [hd] at h
    simp only [hd, if_true] at h ⊢
    cases hw : wantedA all env o.guard with
    | none => simp [hw] at h
    | some t =>
      cases t with
      | false =>
        simp only [hw] at h
        simp only [panIx_no P rec nt all base l (i + 1) _ _ p h]
      | true =>
        simp only [hw] at h
        cases hr : opA P rec (lk loc) (base + i) (ev env) o.op with
        | none => simp
        | some e =>
          obtain ⟨res, upd, rd⟩ := e
          cases res with
          | pan x => simp
          | val v =>
            simp only [hr] at h
            dsimp only
            by_cases hu : (upd.all fun p => decide (p.1 ≤ base + i)) = true
            case neg => simp [hu] at h
            simp only [hu, if_true] at h ⊢
            simp only [panIx_no P rec nt all base l (i + 1) _ _ p h]
theorem cont_panIx (P : Program) (nt : Nat) (all : Array Oper) (base : Nat) : ∀ (l : List Oper) (i : Nat) (env : Env) (loc : List O), Cont (fun rec => panIx P rec nt all base l i env loc)
  | [], _, _, _ => cont_const _
  | o :: l, i, env, loc => by
    intro rec out h
    simp only [panIx] at h
    by_cases hd : dstOk nt o.dst = true
    case neg => simp [hd] at h
    simp only [hd, if_true] at h
    cases hw : wantedA all env o.guard with
    | none => simp [hw] at h
    | some t =>
      cases t with
      | false =>
        simp only [hw] at h
        obtain ⟨l1, h1, h2⟩ := cont_panIx P nt all base l (i + 1) _ _ rec out h
        refine ⟨l1, h1, fun rec' h' => ?_⟩
        simp only [panIx, hd, if_true, hw]
        exact h2 rec' h'
      | true =>
        simp only [hw] at h
        cases hr : opA P rec (lk loc) (base + i) (ev env) o.op with
        | none => simp [hr] at h
        | some e =>
          obtain ⟨l1, h1, h2⟩ := cont_opA P (lk loc) (base + i) (ev env) o.op rec e hr
          rw [hr] at h
          obtain ⟨res, upd, rd⟩ := e
          cases res with
          | pan x =>
            refine ⟨l1, h1, fun rec' h' => ?_⟩
            have e1 := h2 rec' h'
            dsimp only at e1 h
            simp only [panIx, hd, if_true, hw, e1]
            exact h
          | val v =>
            dsimp only at h
            by_cases hu : (upd.all fun p => decide (p.1 ≤ base + i)) = true
            case neg => simp [hu] at h
            simp only [hu, if_true] at h
            obtain ⟨l3, h3, h4⟩ := cont_panIx P nt all base l (i + 1) _ _ rec out h
            refine ⟨l1 ++ l3, ?_, fun rec' h' => ?_⟩
            · intro p hp
              rcases List.mem_append.1 hp with hp | hp
              · exact h1 p hp
              · exact h3 p hp
            · have e1 := h2 rec' (fun p hp => h' p (List.mem_append_left _ hp))
              have e2 := h4 rec' (fun p hp => h' p (List.mem_append_right _ hp))
              dsimp only at e1 e2
              simp only [panIx, hd, if_true, hw, e1, hu]
              exact e2
theorem cont_drawP (P : Program) (nt : Nat) (all : Array Oper) (base p : Nat) (b : List Nat) : ∀ (l : List Oper) (i : Nat) (env : Env) (loc : List O), Cont (fun rec => drawP P rec nt all base p b l i env loc)
  | [], _, _, _ => cont_const _
  | o :: l, i, env, loc => by
    intro rec out h
    simp only [drawP] at h
    by_cases hd : dstOk nt o.dst = true
    case neg => simp [hd] at h
    simp only [hd, if_true] at h
    by_cases hb : (b.getD i 0).testBit p = true
    · simp only [hb, if_true] at h
      cases hr : drawP P rec nt all base p b l (i + 1) env loc with
      | none => simp [hr] at h
      | some x =>
        obtain ⟨l1, h1, h2⟩ := cont_drawP P nt all base p b l (i + 1) _ _ rec x hr
        refine ⟨l1, h1, fun rec' h' => ?_⟩
        have := h2 rec' h'
        dsimp only at this
        simp only [drawP, hd, if_true, hb, this]
        rw [hr] at h; exact h
    simp only [hb, Bool.false_eq_true, if_false] at h
    cases hw : wantedA all env o.guard with
    | none => simp [hw] at h
    | some t =>
      cases t with
      | false =>
        simp only [hw] at h
        by_cases hip : i = p
        · simp [hip] at h
        simp only [hip, if_false] at h
        cases hr : drawP P rec nt all base p b l (i + 1) (putO env o.dst (.tup [])) loc with
        | none => simp [hr] at h
        | some x =>
          obtain ⟨l1, h1, h2⟩ := cont_drawP P nt all base p b l (i + 1) _ _ rec x hr
          refine ⟨l1, h1, fun rec' h' => ?_⟩
          have := h2 rec' h'
          dsimp only at this
          simp only [drawP, hd, if_true, hb, Bool.false_eq_true, if_false, hw, hip, this]
          rw [hr] at h; exact h
      | true =>
        simp only [hw] at h
        cases hr : opA P rec (lk loc) (base + i) (ev env) o.op with
        | none => simp [hr] at h
        | some e =>
          obtain ⟨l1, h1, h2⟩ := cont_opA P (lk loc) (base + i) (ev env) o.op rec e hr
          rw [hr] at h
          obtain ⟨res, upd, rd⟩ := e
          have both : ∀ (env1 : Env) (loc1 : List O) (x : Option (Value × List O) × List (List Nat × List Nat)), drawP P rec nt all base p b l (i + 1) env1 loc1 = some x →
              (∀ rec' : Rec, opA P rec' (lk loc) (base + i) (ev env) o.op = some ⟨res, upd, rd⟩ → drawP P rec' nt all base p b l (i + 1) env1 loc1 = some x → drawP P rec' nt all base p b (o :: l) i env loc = some out) →
              ∃ l1 : List (Entry × Out), (∀ q ∈ l1, rec q.1 = some q.2) ∧ ∀ rec' : Rec, (∀ q ∈ l1, rec' q.1 = some q.2) → drawP P rec' nt all base p b (o :: l) i env loc = some out := by
            intro env1 loc1 x hq k
            obtain ⟨l3, h3, h4⟩ := cont_drawP P nt all base p b l (i + 1) _ _ rec x hq
            refine ⟨l1 ++ l3, ?_, fun rec' h' => ?_⟩
            · intro p hp
              rcases List.mem_append.1 hp with hp | hp
              · exact h1 p hp
              · exact h3 p hp
            · exact k rec' (h2 rec' (fun p hp => h' p (List.mem_append_left _ hp))) (h4 rec' (fun p hp => h' p (List.mem_append_right _ hp)))
          cases res with
          | pan x =>
            dsimp only at h
            by_cases hu : ((upd.all fun p => decide (p.1 ≤ base + i)) && decide (i = p)) = true
            case neg => simp only [hu] at h; cases h
            simp only [hu, if_true] at h
            cases hq : drawP P rec nt all base p b l (i + 1) env loc with
            | none => simp [hq] at h
            | some y =>
              refine both _ _ y hq fun rec' e1 e2 => ?_
              simp only [drawP, hd, if_true, hb, Bool.false_eq_true, if_false, hw, e1, hu, e2]
              rw [hq] at h
              exact h
          | val v =>
            dsimp only at h
            by_cases hu : ((upd.all fun p => decide (p.1 ≤ base + i)) && decide (i ≠ p)) = true
            case neg => simp only [hu] at h; cases h
            simp only [hu, if_true] at h
            cases hq : drawP P rec nt all base p b l (i + 1) (putO env o.dst v) (updO loc upd) with
            | none => simp [hq] at h
            | some y =>
              refine both _ _ y hq fun rec' e1 e2 => ?_
              simp only [drawP, hd, if_true, hb, Bool.false_eq_true, if_false, hw, e1, hu, e2]
              rw [hq] at h
              exact h
theorem cont_draw (P : Program) (cf : Cf) (ops : Array Oper) (K : List It) (env : Env) (loc : List O) (n : Nat) :
    Cont (fun rec => codeA P rec cf (.region n ops true) K env loc) := by
  intro rec out h
  dsimp only [codeA] at h
  cases hr : drawA P rec cf.nt ops loc.length ops.toList 0 env (loc ++ holes ops.size) with
  | some x =>
    have h' : afterDraw rec cf ops K (drawA P rec cf.nt ops loc.length ops.toList 0 env (loc ++ holes ops.size)) = some out := by
      rw [hr] at h ⊢; exact h
    obtain ⟨l1, h1, h2⟩ := cont_drawA P cf.nt ops loc.length ops.toList 0 env (loc ++ holes ops.size) rec x hr
    obtain ⟨l3, h3, h4⟩ := cont_afterDraw P cf ops K env loc rec out h'
    refine ⟨l1 ++ l3, ?_, fun rec' h' => ?_⟩
    · intro p hp
      rcases List.mem_append.1 hp with hp | hp
      · exact h1 p hp
      · exact h3 p hp
    · have e1 := h2 rec' (fun p hp => h' p (List.mem_append_left _ hp))
      have e2 := h4 rec' (fun p hp => h' p (List.mem_append_right _ hp))
      dsimp only at e1 e2
      dsimp only [codeA]
      rw [e1] at e2 ⊢
      exact e2
  | none =>
    rw [hr] at h
    dsimp only at h
    cases hi : panIx P rec cf.nt ops loc.length ops.toList 0 env (loc ++ holes ops.size) with
    | none => simp [hi] at h
    | some p =>
      simp only [hi] at h
      obtain ⟨l1, h1, h2⟩ := cont_panIx P cf.nt ops loc.length ops.toList 0 env (loc ++ holes ops.size) rec p hi
      cases hp : drawP P rec cf.nt ops loc.length p (befs [] ops.toList) ops.toList 0 env (loc ++ holes ops.size) with
      | none => simp [hp, afterPan] at h
      | some y =>
        obtain ⟨l3, h3, h4⟩ := cont_drawP P cf.nt ops loc.length p (befs [] ops.toList) ops.toList 0 env (loc ++ holes ops.size) rec y hp
        refine ⟨l1 ++ l3, ?_, fun rec' h' => ?_⟩
        · intro p hp
          rcases List.mem_append.1 hp with hp | hp
          · exact h1 p hp
          · exact h3 p hp
        · have e1 := h2 rec' (fun p hp => h' p (List.mem_append_left _ hp))
          have e2 := h4 rec' (fun p hp => h' p (List.mem_append_right _ hp))
          dsimp only at e1 e2
          dsimp only [codeA]
          rw [panIx_no _ _ _ _ _ _ _ _ _ _ e1]
          dsimp only
          rw [e1]
          dsimp only
          rw [e2]
          rw [hp] at h
          exact h
theorem cont_codeA (P : Program) (cf : Cf) (c : Code) (K : List It) (env : Env) (loc : List O) : Cont (fun rec => codeA P rec cf c K env loc) := by
  cases c with
  | region n ops d =>
    cases d with
    | false => exact cont_rec _
    | true => exact cont_draw P cf ops K env loc n
  | cond x a b =>
    simp only [codeA]
    split
    · exact cont_rec _
    · exact cont_const _
  | exit id =>
    simp only [codeA]
    split
    · exact cont_rec _
    · exact cont_const _
  | skip => exact cont_rec _
  | seq _ _ => exact cont_rec _
  | block _ _ => exact cont_rec _
  | loop _ => exact cont_rec _
  | _ => exact cont_const _
theorem cont_stepA (P : Program) (ext : Ext) (e : Entry) : Cont (fun rec => stepA P ext rec e) := by
  cases e with
  | call f args objs =>
    simp only [stepA]
    split
    · exact cont_const _
    · split
      · split
        · split
          · exact cont_rec _
          · exact cont_const _
        · exact cont_const _
      · exact cont_const _
  | k cf todo env loc =>
    cases todo with
    | nil => exact cont_const _
    | cons x K =>
      cases x with
      | code c => exact cont_codeA P cf c K env loc
      | inBlock _ => exact cont_rec _
      | inLoop c =>
        simp only [stepA]
        cases headL cf c K env loc with
        | none => exact cont_const _
        | some p => exact cont_rec _
      | ops all l =>
        cases l with
        | nil => exact cont_rec _
        | cons o l =>
          simp only [stepA]
          split
          · split
            · exact cont_afterOp P cf all o.dst l K env loc o.op
            · exact cont_rec _
            · exact cont_const _
          · exact cont_const _
theorem runN_succ (P : Program) (ext : Ext) : ∀ (n : Nat) (e : Entry) (o : Out), runN P ext n e = some o → runN P ext (n + 1) e = some o
  | 0, _, _, h => by simp [runN] at h
  | n + 1, e, o, h => by
    obtain ⟨l, h1, h2⟩ := cont_stepA P ext e (runN P ext n) o h
    exact h2 (runN P ext (n + 1)) (fun p hp => runN_succ P ext n p.1 p.2 (h1 p hp))
theorem runN_le (P : Program) (ext : Ext) {n m : Nat} (h : n ≤ m) {e : Entry} {o : Out} (hr : runN P ext n e = some o) : runN P ext m e = some o := by
  induction h with
  | refl => exact hr
  | step _ ih => exact runN_succ P ext _ e o ih
theorem run_iff (P : Program) (ext : Ext) (e : Entry) (o : Out) : run P ext e = some o ↔ ∃ n, runN P ext n e = some o := by
  unfold run
  constructor
  · intro h
    split at h
    · rename_i hx
      obtain ⟨n, hn⟩ := hx.choose_spec
      exact ⟨n, by rw [hn]; exact h⟩
    · simp at h
  · rintro ⟨n, hn⟩
    have hx : ∃ o n, runN P ext n e = some o := ⟨o, n, hn⟩
    rw [dif_pos hx]
    obtain ⟨m, hm⟩ := hx.choose_spec
    have a := runN_le P ext (Nat.le_max_left n m) hn
    have b := runN_le P ext (Nat.le_max_right n m) hm
    exact b.symm.trans a
theorem common (P : Program) (ext : Ext) : ∀ l : List (Entry × Out), (∀ p ∈ l, run P ext p.1 = some p.2) → ∃ n, ∀ p ∈ l, runN P ext n p.1 = some p.2
  | [], _ => ⟨0, by simp⟩
  | p :: l, h => by
    obtain ⟨n, hn⟩ := common P ext l (fun q hq => h q (List.mem_cons_of_mem _ hq))
    obtain ⟨m, hm⟩ := (run_iff P ext p.1 p.2).1 (h p List.mem_cons_self)
    refine ⟨max n m, fun q hq => ?_⟩
    rcases List.mem_cons.1 hq with rfl | hq
    · exact runN_le P ext (Nat.le_max_right n m) hm
    · exact runN_le P ext (Nat.le_max_left n m) (hn q hq)
/-- A run is one step, and runs behind it. -/
theorem run_eq (P : Program) (ext : Ext) (e : Entry) : run P ext e = stepA P ext (run P ext) e := by
  have key : ∀ o, run P ext e = some o ↔ stepA P ext (run P ext) e = some o := by
    intro o
    constructor
    · intro h
      obtain ⟨n, hn⟩ := (run_iff P ext e o).1 h
      cases n with
      | zero => simp [runN] at hn
      | succ n =>
        obtain ⟨l, h1, h2⟩ := cont_stepA P ext e (runN P ext n) o hn
        exact h2 _ (fun p hp => (run_iff P ext p.1 p.2).2 ⟨n, h1 p hp⟩)
    · intro h
      obtain ⟨l, h1, h2⟩ := cont_stepA P ext e (run P ext) o h
      obtain ⟨n, hn⟩ := common P ext l h1
      exact (run_iff P ext e o).2 ⟨n + 1, h2 _ hn⟩
  cases h : stepA P ext (run P ext) e with
  | some o => exact (key o).2 h
  | none =>
    cases hr : run P ext e with
    | none => rfl
    | some o => rw [(key o).1 hr] at h; cases h
end Go.Proofs.YteenjodhmppgjaaGreatDoor.Am
end
section
/- The abstract machine: what it means that a world, a frame's slots and own objects are as the abstract ones say. -/
namespace Go.Proofs.YteenjodhmppgjaaGreatDoor.Am
open Go

inductive All2 {α β : Type} (R : α → β → Prop) : List α → List β → Prop
  | nil : All2 R [] []
  | cons {a b l m} : R a b → All2 R l m → All2 R (a :: l) (b :: m)
section all2
variable {α β : Type} {R S : α → β → Prop}
theorem All2.mono (h : ∀ a b, R a b → S a b) {l : List α} {m : List β} (hl : All2 R l m) : All2 S l m := by
  induction hl with
  | nil => exact .nil
  | cons a _ ih => exact .cons (h _ _ a) ih
theorem All2.length {l : List α} {m : List β} (hl : All2 R l m) : l.length = m.length := by
  induction hl with
  | nil => rfl
  | cons _ _ ih => simp [ih]
theorem All2.get {l : List α} {m : List β} (hl : All2 R l m) : ∀ {i : Nat} {a : α} {b : β}, l[i]? = some a → m[i]? = some b → R a b := by
  induction hl with
  | nil => intro i a b h; simp at h
  | cons r _ ih =>
    intro i a b h1 h2
    cases i with
    | zero => simp at h1 h2; subst h1 h2; exact r
    | succ i => exact ih (by simpa using h1) (by simpa using h2)
theorem All2.of_get : ∀ {l : List α} {m : List β}, l.length = m.length → (∀ (i : Nat) (a : α) (b : β), l[i]? = some a → m[i]? = some b → R a b) → All2 R l m
  | [], [], _, _ => .nil
  | a :: l, b :: m, hl, h => .cons (h 0 a b (by simp) (by simp)) (All2.of_get (by simpa using hl) (fun i x y h1 h2 => h (i + 1) x y (by simpa using h1) (by simpa using h2)))
  | [], _ :: _, hl, _ => by simp at hl
  | _ :: _, [], hl, _ => by simp at hl
theorem All2.append {l l' : List α} {m m' : List β} (h : All2 R l m) (h' : All2 R l' m') : All2 R (l ++ l') (m ++ m') := by
  induction h with
  | nil => exact h'
  | cons r _ ih => exact .cons r ih
theorem All2.take {l : List α} {m : List β} (h : All2 R l m) (n : Nat) : All2 R (l.take n) (m.take n) := by
  induction h generalizing n with
  | nil => simp; exact .nil
  | cons r _ ih => cases n with
    | zero => exact .nil
    | succ n => exact .cons r (ih n)
theorem All2.drop {l : List α} {m : List β} (h : All2 R l m) (n : Nat) : All2 R (l.drop n) (m.drop n) := by
  induction h generalizing n with
  | nil => simp; exact .nil
  | cons r t ih => cases n with
    | zero => exact .cons r t
    | succ n => exact ih n
theorem All2.get_right {l : List α} {m : List β} (h : All2 R l m) {i : Nat} {b : β} (hb : m[i]? = some b) : ∃ a, l[i]? = some a ∧ R a b := by
  have hl := h.length
  have hi : i < m.length := by
    rcases Nat.lt_or_ge i m.length with x | x
    · exact x
    · simp [List.getElem?_eq_none x] at hb
  have : i < l.length := by omega
  exact ⟨l[i], by simp [this], h.get (by simp [this]) hb⟩
theorem All2.get_left {l : List α} {m : List β} (h : All2 R l m) {i : Nat} {a : α} (ha : l[i]? = some a) : ∃ b, m[i]? = some b ∧ R a b := by
  have hl := h.length
  have hi : i < l.length := by
    rcases Nat.lt_or_ge i l.length with x | x
    · exact x
    · simp [List.getElem?_eq_none x] at ha
  have : i < m.length := by omega
  exact ⟨m[i], by simp [this], h.get ha (by simp [this])⟩
end all2

/-! ### data -/
inductive RepD (w : World) (N : Nat → Prop) : Value → D → Prop
  | v {x : Value} : cellB x = true → RepD w N x (.v x)
  | e (a : Option Addr) (cap k : Nat) : RepD w N (.slice a 0 cap) (.s k [])
  | s {b o cap k : Nat} {els : List (List D)} (c : Nat → Nat → Value) : N b → els.length ≤ cap → (∀ l ∈ els, l.length = k) →
      (∀ i l j x, els[i]? = some l → l[j]? = some x → w.cell? ⟨b, o + i * k + j, none⟩ = some (c i j)) →
      (∀ i l j x, els[i]? = some l → l[j]? = some x → RepD w N (c i j) x) → RepD w N (.slice (some ⟨b, o, none⟩) els.length cap) (.s k els)
  | i {t : TypeId} {a : Array Value} {xs : List D} : a.size = xs.length → (∀ (j : Nat) v x, a[j]? = some v → xs[j]? = some x → RepD w N v x) → RepD w N (.iface t (.agg a)) (.i t xs)
theorem RepD.mono {w w' : World} {N N' : Nat → Prop} (h : ∀ b, N b → N' b ∧ w'.heap[b]? = w.heap[b]?) {v : Value} {x : D} (hr : RepD w N v x) : RepD w' N' v x := by
  induction hr with
  | v hx => exact .v hx
  | e a cap k => exact .e a cap k
  | @s b o cap k els c hb hc hk hcell _ ih =>
    refine .s c (h b hb).1 hc hk (fun i l j x h1 h2 => ?_) ih
    rw [World.cell?_of_block (w := w) (h b hb).2]
    exact hcell i l j x h1 h2
  | i hn _ ih => exact .i hn ih
theorem RepD.cell {w : World} {N : Nat → Prop} {v : Value} {x : D} (hr : RepD w N v x) : cellB v = true := by
  cases hr <;> first | assumption | rfl

/-! ### objects -/
inductive Sh where
  | box
  | arr (k n : Nat)
  | stk (k n : Nat)
  | raw
  | gone
def arrS : Sh → Bool
  | .arr _ _ => true
  | .stk _ _ => true
  | _ => false
def shO : O → Option Sh
  | .box _ => some .box
  | .arr k els => some (.arr k els.length)
  | .raw _ => some .raw
  | .stk k els _ _ => some (.stk k els.length)
  | .gone => some .gone
  | .hole => none
def shL (look : Look) : Nat → Option Sh := fun id => (look id).bind shO
/-- Where an own array begins in its block. -/
def bs (β : Int → Nat) (id : Nat) : Nat := β (Int.negSucc id)
def addrV (b : Nat) : Value := .pointer (some ⟨b, 0, none⟩)
def rawV (m : Bool) (b : Nat) : Value := if m then .map (some b) else .pointer (some ⟨b, 0, none⟩)
theorem rawV_cell (m : Bool) (b : Nat) : cellB (rawV m b) = true := by cases m <;> rfl
def RC (w : World) (N : Nat → Prop) (β : Int → Nat) (sh : Nat → Option Sh) (v : Value) : C → Prop
  | .d x => RepD w N v x
  | .ptr id off => sh id = some .box ∧ v = .pointer (some ⟨β id, off, none⟩)
  | .elt k els i off => ∃ b o cap, RepD w N (.slice (some ⟨b, o, none⟩) els.length cap) (.s k els) ∧ i < els.length ∧ v = .pointer (some ⟨b, o + i * k + off, none⟩)
  | .own id => (∃ k n cap, sh id = some (.arr k n) ∧ v = .slice (some ⟨β id, bs β id, none⟩) n cap ∧ n ≤ cap ∧ ∃ e sz, w.shape? (β id) = some (e, sz) ∧ bs β id + cap * k ≤ sz) ∨ (sh id = some .gone ∧ cellB v = true) ∨ (∃ k n cap, sh id = some (.stk k n) ∧ v = .slice (some ⟨β id, bs β id, none⟩) n cap ∧ n ≤ cap ∧ ∃ e sz, w.shape? (β id) = some (e, sz) ∧ bs β id + cap * k ≤ sz)
  | .ap id i off => (∃ k n, sh id = some (.arr k n) ∧ v = .pointer (some ⟨β id, bs β id + (i * k + off), none⟩)) ∨ (sh id = some .gone ∧ cellB v = true)
  | .fn f a b => v = .func (.func f) (a.map fun id : Nat => addrV (β id)).toArray (b.map fun id : Nat => addrV (β id)).toArray ∧ ∀ id, id ∈ a ∨ id ∈ b → sh id = some .box
  | .rf m id => sh id = some .raw ∧ v = rawV m (β id)
  | .any => True
theorem RC.cell {w : World} {N : Nat → Prop} {β : Int → Nat} {sh : Nat → Option Sh} {v : Value} {c : C} (h : RC w N β sh v c) (hc : okC c = true) : cellB v = true := by
  cases c with
  | d x => exact RepD.cell h
  | ptr id off => rw [h.2]; rfl
  | elt k els i off => obtain ⟨b, o, cap, _, _, rfl⟩ := h; rfl
  | own id => rcases h with ⟨k, n, cap, _, rfl, _⟩ | ⟨_, h⟩ | ⟨k, n, cap, _, rfl, _⟩; rfl; exact h; rfl
  | ap id i off => rcases h with ⟨k, n, _, rfl⟩ | ⟨_, h⟩; rfl; exact h
  | fn f a b => rw [h.1]; rfl
  | rf m id => rw [h.2]; exact rawV_cell m _
  | any => cases hc
/-- What becomes of the objects: each stays what it is, or an array is gone. -/
def Ids (m : Nat → Prop) (w : World) (β : Int → Nat) (sh : Nat → Option Sh) (w' : World) (β' : Int → Nat) (sh' : Nat → Option Sh) : Prop :=
  ∀ id s, m id → sh id = some s → (β' id = β id ∧ sh' id = some s ∧ w'.shape? (β id) = w.shape? (β id) ∧ bs β' id = bs β id) ∨ (arrS s = true ∧ sh' id = some .gone) ∨ (s = .gone ∧ sh' id = some .gone)
def Keep (w : World) (N : Nat → Prop) (w' : World) (N' : Nat → Prop) : Prop := ∀ b, N b → N' b ∧ w'.heap[b]? = w.heap[b]?
theorem RC.mono {w w' : World} {N N' : Nat → Prop} {β β' : Int → Nat} {sh sh' : Nat → Option Sh} (hk : Keep w N w' N') (hi : Ids (fun _ => True) w β sh w' β' sh')
    {v : Value} {c : C} (h : RC w N β sh v c) : RC w' N' β' sh' v c := by
  cases c with
  | d x => exact RepD.mono hk h
  | ptr id off =>
    obtain ⟨h1, rfl⟩ := h
    rcases hi id _ trivial h1 with ⟨a, b, _⟩ | ⟨e, _⟩ | ⟨e, _⟩
    · exact ⟨b, by rw [a]⟩
    · cases e
    · cases e
  | elt k els i off => obtain ⟨b, o, cap, h1, h2, rfl⟩ := h; exact ⟨b, o, cap, RepD.mono hk h1, h2, rfl⟩
  | own id =>
    rcases h with ⟨k, n, cap, h1, rfl, h2, e, sz, h3, h4⟩ | ⟨h1, h2⟩ | ⟨k, n, cap, h1, rfl, h2, e, sz, h3, h4⟩
    · rcases hi id _ trivial h1 with ⟨a, b, c, d⟩ | ⟨_, g⟩ | ⟨e, _⟩
      · exact .inl ⟨k, n, cap, b, by rw [a, d], h2, e, sz, by rw [a, c]; exact h3, by rw [d]; exact h4⟩
      · exact .inr (.inl ⟨g, rfl⟩)
      · cases e
    · rcases hi id _ trivial h1 with ⟨a, b, c⟩ | ⟨e, _⟩ | ⟨_, g⟩
      · exact .inr (.inl ⟨b, h2⟩)
      · cases e
      · exact .inr (.inl ⟨g, h2⟩)
    · rcases hi id _ trivial h1 with ⟨a, b, c, d⟩ | ⟨_, g⟩ | ⟨e, _⟩
      · exact .inr (.inr ⟨k, n, cap, b, by rw [a, d], h2, e, sz, by rw [a, c]; exact h3, by rw [d]; exact h4⟩)
      · exact .inr (.inl ⟨g, rfl⟩)
      · cases e
  | ap id i off =>
    rcases h with ⟨k, n, h1, rfl⟩ | ⟨h1, h2⟩
    · rcases hi id _ trivial h1 with ⟨a, b, _, d⟩ | ⟨_, g⟩ | ⟨e, _⟩
      · exact .inl ⟨k, n, b, by rw [a, d]⟩
      · exact .inr ⟨g, rfl⟩
      · cases e
    · rcases hi id _ trivial h1 with ⟨a, b, c⟩ | ⟨e, _⟩ | ⟨_, g⟩
      · exact .inr ⟨b, h2⟩
      · cases e
      · exact .inr ⟨g, h2⟩
  | fn f a b =>
    obtain ⟨rfl, h2⟩ := h
    have key : ∀ id, id ∈ a ∨ id ∈ b → β' id = β id ∧ sh' id = some .box := by
      intro id hid
      rcases hi id _ trivial (h2 id hid) with ⟨x, y, _⟩ | ⟨e, _⟩ | ⟨e, _⟩
      · exact ⟨x, y⟩
      · cases e
      · cases e
    refine ⟨?_, fun id hid => (key id hid).2⟩
    congr 2
    · apply List.map_congr_left; intro id hid; rw [(key id (.inl hid)).1]
    · apply List.map_congr_left; intro id hid; rw [(key id (.inr hid)).1]
  | rf m id =>
    obtain ⟨h1, rfl⟩ := h
    rcases hi id _ trivial h1 with ⟨a, b, _⟩ | ⟨e, _⟩ | ⟨e, _⟩
    · exact ⟨b, by rw [a]⟩
    · cases e
    · cases e
  | any => trivial

/-- The cell of a struct, an array, a variable. -/
def RK (w : World) (N : Nat → Prop) (β : Int → Nat) (sh : Nat → Option Sh) (v : Value) (c : C) : Prop := cellB v = true ∧ RC w N β sh v c
def RPt (w : World) (N : Nat → Prop) (β : Int → Nat) (sh : Nat → Option Sh) (v : Value) (p : Bool × List C) : Prop :=
  if p.1 then ∃ a, v = .agg a ∧ All2 (RK w N β sh) a.toList p.2 else ∃ x, p.2 = [x] ∧ RC w N β sh v x
def RV (w : World) (N : Nat → Prop) (β : Int → Nat) (sh : Nat → Option Sh) (v : Value) : V → Prop
  | .c x => RC w N β sh v x
  | .agg cs => ∃ a, v = .agg a ∧ All2 (RK w N β sh) a.toList cs
  | .tup vs => ∃ a, v = .tuple a ∧ All2 (RPt w N β sh) a.toList vs
def RO (w : World) (N : Nat → Prop) (β : Int → Nat) (sh : Nat → Option Sh) (b z : Nat) : O → Prop
  | .box cs => ∃ vals ty, w.heap[b]? = some (.cells vals ty (0, 0)) ∧ All2 (RK w N β sh) vals.toList cs
  | .arr k els => ∃ vals ty, w.heap[b]? = some (.cells vals ty (0, 0)) ∧ 0 < k ∧ (∀ l ∈ els, l.length = k) ∧ z + els.length * k ≤ vals.size ∧
      ∀ i l j x, els[i]? = some l → l[j]? = some x → ∃ v, vals[z + (i * k + j)]? = some v ∧ RepD w N v x
  | .raw x => w.heap[b]? = some x
  | .stk k els _ _ => ∃ vals ty, w.heap[b]? = some (.cells vals ty (0, 0)) ∧ 0 < k ∧ (∀ l ∈ els, l.length = k) ∧ z + els.length * k ≤ vals.size ∧
      ∀ i l j x, els[i]? = some l → l[j]? = some x → ∃ v, vals[z + (i * k + j)]? = some v ∧ RepD w N v x
  | _ => True
section mono
variable {w w' : World} {N N' : Nat → Prop} {β β' : Int → Nat} {sh sh' : Nat → Option Sh}
theorem RK.mono (hk : Keep w N w' N') (hi : Ids (fun _ => True) w β sh w' β' sh') {v : Value} {c : C} (h : RK w N β sh v c) : RK w' N' β' sh' v c := ⟨h.1, RC.mono hk hi h.2⟩
theorem RPt.mono (hk : Keep w N w' N') (hi : Ids (fun _ => True) w β sh w' β' sh') {v : Value} {p : Bool × List C} (h : RPt w N β sh v p) : RPt w' N' β' sh' v p := by
  obtain ⟨b, cs⟩ := p
  cases b with
  | true => obtain ⟨a, rfl, h⟩ := h; exact ⟨a, rfl, h.mono fun _ _ => RK.mono hk hi⟩
  | false => obtain ⟨x, e, h⟩ := h; exact ⟨x, e, RC.mono hk hi h⟩
theorem RV.mono (hk : Keep w N w' N') (hi : Ids (fun _ => True) w β sh w' β' sh') {v : Value} {x : V} (h : RV w N β sh v x) : RV w' N' β' sh' v x := by
  cases x with
  | c x => exact RC.mono hk hi h
  | agg cs => obtain ⟨a, rfl, h⟩ := h; exact ⟨a, rfl, h.mono fun _ _ => RK.mono hk hi⟩
  | tup vs => obtain ⟨a, rfl, h⟩ := h; exact ⟨a, rfl, h.mono fun _ _ => RPt.mono hk hi⟩
theorem RO.mono (hk : Keep w N w' N') (hi : Ids (fun _ => True) w β sh w' β' sh') {b z : Nat} (hb : w'.heap[b]? = w.heap[b]?) {o : O} (h : RO w N β sh b z o) : RO w' N' β' sh' b z o := by
  cases o with
  | box cs => obtain ⟨vals, ty, e, h⟩ := h; exact ⟨vals, ty, by rw [hb, e], h.mono fun _ _ => RK.mono hk hi⟩
  | arr k els => obtain ⟨vals, ty, e, h0, h1, h2, h3⟩ := h; exact ⟨vals, ty, by rw [hb, e], h0, h1, h2, fun i l j x a b => let ⟨v, p, q⟩ := h3 i l j x a b; ⟨v, p, RepD.mono hk q⟩⟩
  | raw x => exact hb.trans h
  | stk k els _ _ => obtain ⟨vals, ty, e, h0, h1, h2, h3⟩ := h; exact ⟨vals, ty, by rw [hb, e], h0, h1, h2, fun i l j x a b => let ⟨v, p, q⟩ := h3 i l j x a b; ⟨v, p, RepD.mono hk q⟩⟩
  | _ => trivial
end mono

def alive : O → Bool
  | .box _ => true
  | .arr _ _ => true
  | .raw _ => true
  | .stk .. => true
  | _ => false
/-- Two such slices that may lie in one array: j was made of i. -/
def Kin (β : Int → Nat) (look : Look) (i j : Nat) : Prop := ∃ k l l' r c, look i = some (.stk k l (some j) r) ∧ look j = some (.stk k l' c false) ∧ bs β i = bs β j ∧ l <+: l'
/-- Block b holds a living own object. -/
def Live (β : Int → Nat) (look : Look) (b : Nat) : Prop := ∃ id o, look id = some o ∧ alive o = true ∧ β id = b
/-- The blocks in which data may lie. -/
def Nn (w : World) (F : Nat → Prop) (β : Int → Nat) (look : Look) (b : Nat) : Prop := b < w.heap.size ∧ ¬ F b ∧ ¬ Live β look b
/-- A variable of the program that stays what it is. -/
def laidB : Nat := 0
def laidV : Value := .iface 203 (.agg #[.pointer (some ⟨1, 85, none⟩)])
def LaidIn (w : World) (β : Int → Nat) (look : Look) : Prop := w.cell? ⟨laidB, 0, none⟩ = some laidV ∧ ¬ Live β look laidB
theorem LaidIn.same {w : World} {β β' : Int → Nat} {look look' : Look} (h : LaidIn w β look) (hl : ∀ b, Live β' look' b → Live β look b) : LaidIn w β' look' := ⟨h.1, fun hb => h.2 (hl _ hb)⟩
structure Sim (w : World) (F : Nat → Prop) (β : Int → Nat) (look : Look) : Prop where
  flt : ∀ b, F b → b < w.heap.size
  live : ∀ id o, look id = some o → alive o = true → β id < w.heap.size ∧ ¬ F (β id) ∧ RO w (Nn w F β look) β (shL look) (β id) (bs β id) o
  inj : ∀ id id' o o', look id = some o → look id' = some o' → alive o = true → alive o' = true → β id = β id' → id = id' ∨ Kin β look id id' ∨ Kin β look id' id
  laid : LaidIn w β look
/-- What a piece of a run does to the world and to the objects with numbers in m. -/
structure St (m : Nat → Prop) (w : World) (β : Int → Nat) (look : Look) (w' : World) (β' : Int → Nat) (look' : Look) : Prop where
  os : w'.os = w.os
  tape : w'.tape = w.tape
  output : w'.output = w.output
  size : w.heap.size ≤ w'.heap.size
  block : ∀ b, b < w.heap.size → ¬ Live β look b → w'.heap[b]? = w.heap[b]?
  born : ∀ b, Live β' look' b → Live β look b ∨ w.heap.size ≤ b
  ids : Ids m w β (shL look) w' β' (shL look')
theorem LaidIn.st {m : Nat → Prop} {w w' : World} {β β' : Int → Nat} {look look' : Look} (h : LaidIn w β look) (hst : St m w β look w' β' look') : LaidIn w' β' look' := by
  obtain ⟨h1, h2⟩ := h
  have hlt : laidB < w.heap.size := by
    rcases Nat.lt_or_ge laidB w.heap.size with h | h
    · exact h
    · simp [World.cell?, Array.getElem?_eq_none h] at h1
  refine ⟨?_, fun hb => ?_⟩
  · rw [World.cell?_of_block (w := w) (hst.block _ hlt h2)]; exact h1
  · rcases hst.born _ hb with h | h
    · exact h2 h
    · omega
theorem St.keep {m : Nat → Prop} {w w' : World} {β β' : Int → Nat} {look look' : Look} {F : Nat → Prop} (h : St m w β look w' β' look') : Keep w (Nn w F β look) w' (Nn w' F β' look') := by
  intro b ⟨h1, h2, h3⟩
  refine ⟨⟨Nat.lt_of_lt_of_le h1 h.size, h2, fun hl => ?_⟩, h.block b h1 h3⟩
  rcases h.born b hl with h | h
  · exact h3 h
  · omega
theorem Ids.refl (m : Nat → Prop) (w : World) (β : Int → Nat) (sh : Nat → Option Sh) : Ids m w β sh w β sh := fun _ _ _ h => .inl ⟨rfl, h, rfl, rfl⟩
theorem St.refl (m : Nat → Prop) (w : World) (β : Int → Nat) (look : Look) : St m w β look w β look :=
  ⟨rfl, rfl, rfl, Nat.le_refl _, fun _ _ _ => rfl, fun _ h => .inl h, Ids.refl _ _ _ _⟩
theorem Ids.trans {m : Nat → Prop} {w w' w'' : World} {β β' β'' : Int → Nat} {sh sh' sh'' : Nat → Option Sh} (h : Ids m w β sh w' β' sh') (k : Ids m w' β' sh' w'' β'' sh'') : Ids m w β sh w'' β'' sh'' := by
  intro id s hm hs
  rcases h id s hm hs with ⟨a, b, c, d⟩ | ⟨a, b⟩ | ⟨rfl, b⟩
  · rcases k id s hm b with ⟨a', b', c', d'⟩ | h' | h'
    · exact .inl ⟨by rw [a', a], b', by rw [← c, ← a]; exact c', by rw [d', d]⟩
    · exact .inr (.inl h')
    · exact .inr (.inr h')
  · rcases k id _ hm b with ⟨_, b', _⟩ | ⟨e, _⟩ | ⟨_, b'⟩
    · exact .inr (.inl ⟨a, b'⟩)
    · cases e
    · exact .inr (.inl ⟨a, b'⟩)
  · rcases k id _ hm b with ⟨_, b', _⟩ | ⟨e, _⟩ | ⟨_, b'⟩
    · exact .inr (.inr ⟨rfl, b'⟩)
    · cases e
    · exact .inr (.inr ⟨rfl, b'⟩)
theorem St.trans {m : Nat → Prop} {w w' w'' : World} {β β' β'' : Int → Nat} {look look' look'' : Look} (h : St m w β look w' β' look') (k : St m w' β' look' w'' β'' look'') : St m w β look w'' β'' look'' := by
  refine ⟨k.os.trans h.os, k.tape.trans h.tape, k.output.trans h.output, Nat.le_trans h.size k.size, fun b hb hl => ?_, fun b hb => ?_, h.ids.trans k.ids⟩
  · rw [k.block b (Nat.lt_of_lt_of_le hb h.size), h.block b hb hl]
    intro hl'
    rcases h.born b hl' with h | h
    · exact hl h
    · omega
  · rcases k.born b hb with h' | h'
    · exact h.born b h'
    · exact .inr (Nat.le_trans h.size h')
theorem St.some {m : Nat → Prop} {w w' : World} {β β' : Int → Nat} {look look' : Look} (h : St (fun _ => True) w β look w' β' look') : St m w β look w' β' look' :=
  ⟨h.os, h.tape, h.output, h.size, h.block, h.born, fun id s _ hs => h.ids id s trivial hs⟩
end Go.Proofs.YteenjodhmppgjaaGreatDoor.Am
end
section
/- The abstract machine: new objects, objects that go, objects that are written. -/
namespace Go.Proofs.YteenjodhmppgjaaGreatDoor.Am
open Go

def upd1 (look : Look) (id : Nat) (o : O) : Look := fun j => if j = id then (match o with | .hole => none | o => some o) else look j
def updL (look : Look) : List (Nat × O) → Look
  | [] => look
  | (id, o) :: r => updL (upd1 look id o) r
theorem lk_setO (loc : List O) (id : Nat) (o : O) : lk (setO loc id o) = upd1 (lk loc) id o := by
  funext j
  unfold setO
  by_cases h : id < loc.length
  · simp only [h, if_true, lk, upd1, List.getElem?_set]
    by_cases e : j = id
    · subst e; simp [h]; cases o <;> rfl
    · simp [e, Ne.symm e]
  · simp only [h, if_false, lk, upd1]
    by_cases e : j = id
    · subst e
      have : (loc ++ List.replicate (j - loc.length) O.hole ++ [o])[j]? = some o := by
        rw [List.getElem?_append_right (by simp; omega)]
        simp only [List.length_append, List.length_replicate]
        rw [show j - (loc.length + (j - loc.length)) = 0 by omega]; rfl
      simp only [this, if_true]
      cases o <;> rfl
    · simp only [e, if_false]
      rcases Nat.lt_or_ge j loc.length with hj | hj
      · rw [List.append_assoc, List.getElem?_append_left hj]
      · rw [List.getElem?_eq_none hj]
        rcases Nat.lt_or_ge j id with hj' | hj'
        · rw [List.getElem?_append_left (by simp; omega), List.getElem?_append_right hj, List.getElem?_replicate, if_pos (by omega)]
        · rw [List.getElem?_eq_none (by simp; omega)]
theorem lk_updO : ∀ (u : List (Nat × O)) (loc : List O), lk (updO loc u) = updL (lk loc) u
  | [], _ => rfl
  | (id, o) :: r, loc => by rw [updO, lk_updO r, lk_setO]; rfl
theorem updL_append (look : Look) (a b : List (Nat × O)) : updL look (a ++ b) = updL (updL look a) b := by
  induction a generalizing look with
  | nil => rfl
  | cons x a ih => exact ih _

def newβ (β : Int → Nat) (slot b z : Nat) : Int → Nat
  | .ofNat j => if j = slot then b else β (.ofNat j)
  | .negSucc j => if j = slot then z else β (.negSucc j)
theorem newβ_eq {β : Int → Nat} {slot b z : Nat} : newβ β slot b z slot = b := by show (if slot = slot then b else _) = b; simp
theorem newβ_ne {β : Int → Nat} {slot b z j : Nat} (h : j ≠ slot) : newβ β slot b z j = β j := by show (if j = slot then b else β j) = _; simp [h]
theorem newb_eq {β : Int → Nat} {slot b z : Nat} : bs (newβ β slot b z) slot = z := by show (if slot = slot then z else _) = z; simp
theorem newb_ne {β : Int → Nat} {slot b z j : Nat} (h : j ≠ slot) : bs (newβ β slot b z) j = bs β j := by show (if j = slot then z else bs β j) = _; simp [h]
/-- The content of an object. -/
def ROc (w : World) (N : Nat → Prop) (β : Int → Nat) (sh : Nat → Option Sh) (vals : Array Value) (z : Nat) : O → Prop
  | .box cs => All2 (RK w N β sh) vals.toList cs
  | .arr k els => 0 < k ∧ (∀ l ∈ els, l.length = k) ∧ z + els.length * k ≤ vals.size ∧
      ∀ i l j x, els[i]? = some l → l[j]? = some x → ∃ v, vals[z + (i * k + j)]? = some v ∧ RepD w N v x
  | .stk k els _ _ => 0 < k ∧ (∀ l ∈ els, l.length = k) ∧ z + els.length * k ≤ vals.size ∧
      ∀ i l j x, els[i]? = some l → l[j]? = some x → ∃ v, vals[z + (i * k + j)]? = some v ∧ RepD w N v x
  | _ => True
def celled : O → Bool
  | .box _ => true
  | .arr _ _ => true
  | .stk .. => true
  | _ => false
theorem celled_alive {o : O} (h : celled o = true) : alive o = true := by cases o <;> first | rfl | cases h
theorem RO_iff {w : World} {N : Nat → Prop} {β : Int → Nat} {sh : Nat → Option Sh} {b z : Nat} {o : O} (ho : celled o = true) :
    RO w N β sh b z o ↔ ∃ vals ty, w.heap[b]? = some (.cells vals ty (0, 0)) ∧ ROc w N β sh vals z o := by
  cases o with
  | box cs => rfl
  | arr k els => rfl
  | stk k els _ _ => rfl
  | raw x => cases ho
  | gone => cases ho
  | hole => cases ho
theorem ROc.mono {w w' : World} {N N' : Nat → Prop} {β β' : Int → Nat} {sh sh' : Nat → Option Sh} (hk : Keep w N w' N') (hi : Ids (fun _ => True) w β sh w' β' sh') {vals : Array Value} {z : Nat} {o : O} (h : ROc w N β sh vals z o) : ROc w' N' β' sh' vals z o := by
  cases o with
  | box cs => exact All2.mono (fun _ _ => RK.mono hk hi) h
  | arr k els => obtain ⟨h0, h1, h2, h3⟩ := h; exact ⟨h0, h1, h2, fun i l j x a b => let ⟨v, p, q⟩ := h3 i l j x a b; ⟨v, p, RepD.mono hk q⟩⟩
  | stk k els _ _ => obtain ⟨h0, h1, h2, h3⟩ := h; exact ⟨h0, h1, h2, fun i l j x a b => let ⟨v, p, q⟩ := h3 i l j x a b; ⟨v, p, RepD.mono hk q⟩⟩
  | _ => trivial
theorem Kin.mono {β β' : Int → Nat} {look look' : Look} {i j : Nat} (h : Kin β look i j) (hi : look' i = look i) (hj : look' j = look j) (bi : bs β' i = bs β i) (bj : bs β' j = bs β j) : Kin β' look' i j := by
  obtain ⟨k, l, l', r, c, h1, h2, h3, h4⟩ := h
  exact ⟨k, l, l', r, c, by rw [hi, h1], by rw [hj, h2], by rw [bi, bj, h3], h4⟩
theorem Kin.stk {β : Int → Nat} {look : Look} {i j : Nat} (h : Kin β look i j) : isStk (look i) = true ∧ isStk (look j) = true := by
  obtain ⟨k, l, l', r, c, h1, h2, _⟩ := h
  rw [h1, h2]; exact ⟨rfl, rfl⟩
theorem kin_mono {β β' : Int → Nat} {look look' : Look} {i j : Nat} (h : i = j ∨ Kin β look i j ∨ Kin β look j i) (hi : look' i = look i) (hj : look' j = look j) (bi : bs β' i = bs β i) (bj : bs β' j = bs β j) : i = j ∨ Kin β' look' i j ∨ Kin β' look' j i := by
  rcases h with h | h | h
  · exact .inl h
  · exact .inr (.inl (h.mono hi hj bi bj))
  · exact .inr (.inr (h.mono hj hi bj bi))
theorem Sim.inj1 {w : World} {F : Nat → Prop} {β : Int → Nat} {look : Look} (hS : Sim w F β look) (id id' : Nat) (o o' : O) (h1 : look id = some o) (h2 : look id' = some o') (h3 : alive o = true) (h4 : alive o' = true) (he : β id = β id') (hs : isStk (some o) = false ∨ isStk (some o') = false) : id = id' := by
  rcases hS.inj id id' o o' h1 h2 h3 h4 he with h | h | h
  · exact h
  · have := h.stk
    rw [h1, h2] at this
    rcases hs with hs | hs
    · rw [hs] at this; cases this.1
    · rw [hs] at this; cases this.2
  · have := h.stk
    rw [h1, h2] at this
    rcases hs with hs | hs
    · rw [hs] at this; cases this.2
    · rw [hs] at this; cases this.1
theorem shL_alive {look : Look} {id : Nat} {s : Sh} (h : shL look id = some s) : ∃ o, look id = some o ∧ shO o = some s := by
  unfold shL at h
  cases hl : look id with
  | none => simp [hl] at h
  | some o => exact ⟨o, rfl, by simpa [hl] using h⟩
theorem shO_alive {o : O} {s : Sh} (h : shO o = some s) (hs : s ≠ .gone) : alive o = true := by
  cases o <;> simp_all [shO, alive]
theorem shape_of_cells {w : World} {b : Nat} {c : Array Value} {t : TypeId} {f : Nat × Nat} (h : w.heap[b]? = some (.cells c t f)) : w.shape? b = some (t, c.size) := by
  simp [World.shape?, h]
theorem shape_of_block {w w' : World} {b : Nat} (h : w'.heap[b]? = w.heap[b]?) : w'.shape? b = w.shape? b := by simp [World.shape?, h]

/-- Nothing but the objects that go has turned: the world is the same to the eye, blocks and objects. -/
theorem sim_frame {w w' : World} {F : Nat → Prop} {β : Int → Nat} {look : Look} (hS : Sim w F β look) (h1 : w'.heap = w.heap) (h2 : w'.os = w.os) (h3 : w'.tape = w.tape) (h4 : w'.output = w.output) :
    Sim w' F β look ∧ St (fun _ => True) w β look w' β look := by
  have st : St (fun _ => True) w β look w' β look :=
    ⟨h2, h3, h4, by rw [h1]; exact Nat.le_refl _, fun b _ _ => by rw [h1], fun _ h => .inl h, fun id s _ hs => .inl ⟨rfl, hs, by simp [World.shape?, h1], rfl⟩⟩
  refine ⟨⟨fun b hb => by rw [h1]; exact hS.flt b hb, fun id o hl ha => ?_, hS.inj, hS.laid.st st⟩, st⟩
  obtain ⟨a, b, c⟩ := hS.live id o hl ha
  exact ⟨by rw [h1]; exact a, b, RO.mono st.keep st.ids (by rw [h1]) c⟩

/-- An array that goes. -/
theorem sim_kill {w : World} {F : Nat → Prop} {β : Int → Nat} {look : Look} (hS : Sim w F β look) {id : Nat} (hid : ∃ s, shL look id = some s ∧ s ≠ .box ∧ s ≠ .raw) :
    Sim w F β (upd1 look id .gone) ∧ St (fun _ => True) w β look w β (upd1 look id .gone) := by
  have hl' : ∀ j o, upd1 look id .gone j = some o → alive o = true → look j = some o ∧ j ≠ id := by
    intro j o hj ho
    unfold upd1 at hj
    by_cases e : j = id
    · simp only [e, if_true, Option.some.injEq] at hj; subst hj; cases ho
    · simp only [e, if_false] at hj; exact ⟨hj, e⟩
  have st : St (fun _ => True) w β look w β (upd1 look id .gone) := by
    refine ⟨rfl, rfl, rfl, Nat.le_refl _, fun _ _ _ => rfl, fun b ⟨j, o, hj, ho, hb⟩ => .inl ⟨j, o, (hl' j o hj ho).1, ho, hb⟩, fun j s _ hs => ?_⟩
    by_cases e : j = id
    · subst e
      obtain ⟨s', h1, h2, h3⟩ := hid
      obtain rfl : s' = s := by rw [h1] at hs; exact Option.some.inj hs
      have : shL (upd1 look j .gone) j = some .gone := by simp [shL, upd1, shO]
      cases s' with
      | box => exact absurd rfl h2
      | arr k n => exact .inr (.inl ⟨rfl, this⟩)
      | stk k n => exact .inr (.inl ⟨rfl, this⟩)
      | raw => exact absurd rfl h3
      | gone => exact .inr (.inr ⟨rfl, this⟩)
    · refine .inl ⟨rfl, ?_, rfl, rfl⟩
      simp only [shL, upd1, e, if_false]; exact hs
  refine ⟨⟨hS.flt, fun j o hj ho => ?_, fun j j' o o' hj hj' ho ho' hb => kin_mono (hS.inj j j' o o' (hl' j o hj ho).1 (hl' j' o' hj' ho').1 ho ho' hb) (by rw [hj, (hl' j o hj ho).1]) (by rw [hj', (hl' j' o' hj' ho').1]) rfl rfl, hS.laid.st st⟩, st⟩
  obtain ⟨a, b, c⟩ := hS.live j o (hl' j o hj ho).1 ho
  exact ⟨a, b, RO.mono st.keep st.ids rfl c⟩
theorem sim_kills {w : World} {F : Nat → Prop} {β : Int → Nat} : ∀ (ids : List Nat) {look : Look}, Sim w F β look → (∀ id ∈ ids, ∃ s, shL look id = some s ∧ s ≠ .box ∧ s ≠ .raw) →
    Sim w F β (updL look (kills ids)) ∧ St (fun _ => True) w β look w β (updL look (kills ids))
  | [], look, hS, _ => ⟨hS, St.refl _ _ _ _⟩
  | id :: r, look, hS, h => by
    obtain ⟨h1, h2⟩ := sim_kill hS (h id List.mem_cons_self)
    obtain ⟨h3, h4⟩ := sim_kills r h1 (fun j hj => by
      by_cases e : j = id
      · exact ⟨.gone, by simp [shL, upd1, e, shO], by simp, by simp⟩
      · obtain ⟨s, a, b⟩ := h j (List.mem_cons_of_mem _ hj)
        exact ⟨s, by simp only [shL, upd1, e, if_false]; exact a, b⟩)
    exact ⟨h3, h2.trans h4⟩

/-- A new object. -/
theorem sim_new {w w' : World} {F : Nat → Prop} {β : Int → Nat} {look : Look} (hS : Sim w F β look) {slot : Nat} (hs : look slot = none) {o : O} (ho : celled o = true) {vals : Array Value} {ty : TypeId}
    (hw : w'.heap = w.heap.push (.cells vals ty)) (h2 : w'.os = w.os) (h3 : w'.tape = w.tape) (h4 : w'.output = w.output) (hc : ROc w (Nn w F β look) β (shL look) vals 0 o) :
    let β' := newβ β slot w.heap.size 0
    Sim w' F β' (upd1 look slot o) ∧ St (fun _ => True) w β look w' β' (upd1 look slot o) ∧ shL (upd1 look slot o) slot = shO o ∧ β' slot = w.heap.size ∧ bs β' slot = 0 ∧ w'.shape? w.heap.size = some (ty, vals.size) := by
  intro β'
  have hal := celled_alive ho
  have hup : upd1 look slot o slot = some o := by unfold upd1; simp; cases o <;> first | rfl | cases ho
  have hother : ∀ j, j ≠ slot → upd1 look slot o j = look j := fun j hj => by simp [upd1, hj]
  have hold : ∀ b, b < w.heap.size → w'.heap[b]? = w.heap[b]? := fun b hb => by rw [hw, Array.getElem?_push, if_neg (by omega)]
  have hnew : w'.heap[w.heap.size]? = some (.cells vals ty (0, 0)) := by rw [hw]; simp
  have hsz : w'.heap.size = w.heap.size + 1 := by rw [hw]; simp
  have hβ : ∀ j : Nat, j ≠ slot → β' j = β j := fun j hj => newβ_ne hj
  have hβs : β' slot = w.heap.size := newβ_eq
  have hbs : ∀ j : Nat, j ≠ slot → bs β' j = bs β j := fun j hj => newb_ne hj
  have hbss : bs β' slot = 0 := newb_eq
  have st : St (fun _ => True) w β look w' β' (upd1 look slot o) := by
    refine ⟨h2, h3, h4, by omega, fun b hb _ => hold b hb, fun b ⟨j, x, hj, hx, hb⟩ => ?_, fun j s _ hj => ?_⟩
    · by_cases e : j = slot
      · subst e; right; rw [← hb, hβs]; exact Nat.le_refl _
      · left; rw [hother j e] at hj; rw [hβ j e] at hb; exact ⟨j, x, hj, hx, hb⟩
    · have e : j ≠ slot := by rintro rfl; simp [shL, hs] at hj
      by_cases hg : s = .gone
      · subst hg; exact .inr (.inr ⟨rfl, by simp only [shL, hother j e]; exact hj⟩)
      · obtain ⟨x, hx, hxs⟩ := shL_alive hj
        refine .inl ⟨hβ j e, by simp only [shL, hother j e]; exact hj, shape_of_block (hold _ (hS.live j x hx (shO_alive hxs hg)).1), hbs j e⟩
  refine ⟨⟨fun b hb => by have := hS.flt b hb; omega, fun j x hj hx => ?_, fun j j' x x' hj hj' hx hx' hb => ?_, hS.laid.st st⟩, st, by simp [shL, hup], hβs, hbss, shape_of_cells hnew⟩
  · by_cases e : j = slot
    · subst e
      rw [hup] at hj
      obtain rfl := Option.some.inj hj
      refine ⟨by rw [hβs]; omega, fun hf => ?_, ?_⟩
      · have := hS.flt _ hf; rw [hβs] at this; omega
      · rw [RO_iff ho, hβs, hbss]; exact ⟨vals, ty, hnew, ROc.mono st.keep st.ids hc⟩
    · rw [hother j e] at hj
      obtain ⟨a, b, c⟩ := hS.live j x hj hx
      rw [hβ j e, hbs j e]
      exact ⟨by omega, b, RO.mono st.keep st.ids (hold _ a) c⟩
  · by_cases e : j = slot
    · by_cases e' : j' = slot
      · left; rw [e, e']
      · rw [e, hβs, hβ j' e'] at hb
        rw [hother j' e'] at hj'
        have := (hS.live j' x' hj' hx').1; omega
    · by_cases e' : j' = slot
      · rw [e', hβs, hβ j e] at hb
        rw [hother j e] at hj
        have := (hS.live j x hj hx).1; omega
      · rw [hother j e] at hj; rw [hother j' e'] at hj'; rw [hβ j e, hβ j' e'] at hb
        exact kin_mono (hS.inj j j' x x' hj hj' hx hx' hb) (hother j e) (hother j' e') (hbs j e) (hbs j' e')

/-- An array that another takes the place of, in the same block. -/
theorem sim_move {w w' : World} {F : Nat → Prop} {β : Int → Nat} {look : Look} (hS : Sim w F β look) {id k : Nat} {els : List (List D)} (hid : look id = some (.arr k els)) {slot : Nat} (hs : look slot = none) {o : O} (ho : celled o = true) {vals : Array Value} {ty : TypeId}
    (hb : w'.heap[β id]? = some (.cells vals ty (0, 0))) (hsize : w'.heap.size = w.heap.size) (hoth : ∀ b, b ≠ β id → w'.heap[b]? = w.heap[b]?) (h2 : w'.os = w.os) (h3 : w'.tape = w.tape) (h4 : w'.output = w.output)
    {z : Nat} (hc : ROc w (Nn w F β look) β (shL look) vals z o) :
    let β' := newβ β slot (β id) z
    Sim w' F β' (upd1 (upd1 look id .gone) slot o) ∧ St (fun _ => True) w β look w' β' (upd1 (upd1 look id .gone) slot o) ∧ shL (upd1 (upd1 look id .gone) slot o) slot = shO o ∧ β' slot = β id ∧ bs β' slot = z := by
  intro β'
  have hal := celled_alive ho
  have hne : slot ≠ id := by rintro rfl; rw [hs] at hid; cases hid
  have hup : upd1 (upd1 look id .gone) slot o slot = some o := by unfold upd1; simp; cases o <;> first | rfl | cases ho
  have hgo : upd1 (upd1 look id .gone) slot o id = some .gone := by simp [upd1, hne.symm]
  have hother : ∀ j, j ≠ slot → j ≠ id → upd1 (upd1 look id .gone) slot o j = look j := fun j hj hj' => by simp [upd1, hj, hj']
  have hβ : ∀ j : Nat, j ≠ slot → β' j = β j := fun j hj => newβ_ne hj
  have hβs : β' slot = β id := newβ_eq
  have hbs : ∀ j : Nat, j ≠ slot → bs β' j = bs β j := fun j hj => newb_ne hj
  have hbss : bs β' slot = z := newb_eq
  have hlive : ∀ j x, upd1 (upd1 look id .gone) slot o j = some x → alive x = true → (j = slot ∧ x = o) ∨ (j ≠ slot ∧ j ≠ id ∧ look j = some x) := by
    intro j x hj hx
    by_cases e : j = slot
    · subst e; rw [hup] at hj; exact .inl ⟨rfl, (Option.some.inj hj).symm⟩
    · by_cases e' : j = id
      · subst e'; rw [hgo] at hj; cases hj; cases hx
      · rw [hother j e e'] at hj; exact .inr ⟨e, e', hj⟩
  obtain ⟨l1, l2, l3⟩ := hS.live id _ hid rfl
  have st : St (fun _ => True) w β look w' β' (upd1 (upd1 look id .gone) slot o) := by
    refine ⟨h2, h3, h4, by omega, fun b hb1 hl => hoth b ?_, fun b ⟨j, x, hj, hx, hb1⟩ => .inl ?_, fun j s _ hj => ?_⟩
    · rintro rfl; exact hl ⟨id, _, hid, rfl, rfl⟩
    · rcases hlive j x hj hx with ⟨rfl, rfl⟩ | ⟨e, e', hj'⟩
      · exact ⟨id, _, hid, rfl, by rw [← hb1, hβs]⟩
      · exact ⟨j, x, hj', hx, by rw [← hb1, hβ j e]⟩
    · have e : j ≠ slot := by rintro rfl; simp [shL, hs] at hj
      by_cases e' : j = id
      · subst e'
        have : s = .arr k els.length := by simpa [shL, hid, shO] using hj.symm
        exact .inr (.inl ⟨by rw [this]; rfl, by simp [shL, hgo, shO]⟩)
      · by_cases hg : s = .gone
        · subst hg; exact .inr (.inr ⟨rfl, by simp only [shL, hother j e e']; exact hj⟩)
        · obtain ⟨x, hx, hxs⟩ := shL_alive hj
          refine .inl ⟨hβ j e, by simp only [shL, hother j e e']; exact hj, shape_of_block (hoth _ fun hbb => e' ?_), hbs j e⟩
          exact hS.inj1 j id x _ hx hid (shO_alive hxs hg) rfl hbb (.inr rfl)
  refine ⟨⟨fun b hb1 => by rw [hsize]; exact hS.flt b hb1, fun j x hj hx => ?_, fun j j' x x' hj hj' hx hx' hbb => ?_, hS.laid.st st⟩, st, by simp [shL, hup], hβs, hbss⟩
  · rcases hlive j x hj hx with ⟨rfl, rfl⟩ | ⟨e, e', hj'⟩
    · rw [hβs, hbss]
      exact ⟨by omega, l2, by rw [RO_iff ho]; exact ⟨vals, ty, hb, ROc.mono st.keep st.ids hc⟩⟩
    · obtain ⟨a, b, c⟩ := hS.live j x hj' hx
      rw [hβ j e, hbs j e]
      exact ⟨by omega, b, RO.mono st.keep st.ids (hoth _ fun hbb => e' (hS.inj1 j id x _ hj' hid hx rfl hbb (.inr rfl))) c⟩
  · rcases hlive j x hj hx with ⟨rfl, rfl⟩ | ⟨e, e', hj1⟩ <;> rcases hlive j' x' hj' hx' with ⟨rfl, rfl⟩ | ⟨f, f', hj2⟩
    · exact .inl rfl
    · rw [hβs, hβ j' f] at hbb; exact absurd (hS.inj1 j' id x' _ hj2 hid hx' rfl hbb.symm (.inr rfl)) f'
    · rw [hβs, hβ j e] at hbb; exact absurd (hS.inj1 j id x _ hj1 hid hx rfl hbb (.inr rfl)) e'
    · rw [hβ j e, hβ j' f] at hbb; exact kin_mono (hS.inj j j' x x' hj1 hj2 hx hx' hbb) (hother j e e') (hother j' f f') (hbs j e) (hbs j' f)

/-- An object that is written. -/
theorem sim_set {w w' : World} {F : Nat → Prop} {β : Int → Nat} {look : Look} (hS : Sim w F β look) {id : Nat} {o o' : O} (hid : look id = some o) (ho' : celled o = true) (hns : isStk (some o) = false) (hsh : shO o' = shO o) {vals vals' : Array Value} {ty : TypeId}
    (hb : w.heap[β id]? = some (.cells vals ty (0, 0))) (hb' : w'.heap[β id]? = some (.cells vals' ty (0, 0))) (hsz : vals'.size = vals.size) (hsize : w'.heap.size = w.heap.size) (hoth : ∀ b, b ≠ β id → w'.heap[b]? = w.heap[b]?)
    (h2 : w'.os = w.os) (h3 : w'.tape = w.tape) (h4 : w'.output = w.output) (hc : ROc w (Nn w F β look) β (shL look) vals' (bs β id) o') :
    Sim w' F β (upd1 look id o') ∧ St (fun _ => True) w β look w' β (upd1 look id o') := by
  have ho := celled_alive ho'
  have hc' : celled o' = true := by cases o <;> cases o' <;> simp_all [shO, celled]
  have ho' : alive o' = true := celled_alive hc'
  have hup : upd1 look id o' id = some o' := by unfold upd1; simp; cases o' <;> first | rfl | cases ho'
  have hother : ∀ j, j ≠ id → upd1 look id o' j = look j := fun j hj => by simp [upd1, hj]
  have hshE : shL (upd1 look id o') = shL look := by
    funext j
    by_cases e : j = id
    · subst e; simp [shL, hup, hid, hsh]
    · simp [shL, hother j e]
  have st : St (fun _ => True) w β look w' β (upd1 look id o') := by
    refine ⟨h2, h3, h4, by omega, fun b hb1 hl => hoth b ?_, fun b ⟨j, x, hj, hx, hb1⟩ => .inl ?_, fun j s _ hj => .inl ⟨rfl, by rw [hshE]; exact hj, ?_, rfl⟩⟩
    · rintro rfl; exact hl ⟨id, o, hid, ho, rfl⟩
    · by_cases e : j = id
      · subst e; exact ⟨j, o, hid, ho, hb1⟩
      · rw [hother j e] at hj; exact ⟨j, x, hj, hx, hb1⟩
    · by_cases e : β j = β id
      · rw [e, shape_of_cells hb, shape_of_cells hb', hsz]
      · exact shape_of_block (hoth _ e)
  refine ⟨⟨fun b hb1 => by rw [hsize]; exact hS.flt b hb1, fun j x hj hx => ?_, fun j j' x x' hj hj' hx hx' hbb => ?_, hS.laid.st st⟩, st⟩
  · by_cases e : j = id
    · subst e
      rw [hup] at hj
      obtain rfl := Option.some.inj hj
      obtain ⟨a, b, _⟩ := hS.live j o hid ho
      refine ⟨by rw [hsize]; exact a, b, ?_⟩
      rw [RO_iff hc']; exact ⟨vals', ty, hb', ROc.mono st.keep st.ids hc⟩
    · rw [hother j e] at hj
      obtain ⟨a, b, c⟩ := hS.live j x hj hx
      refine ⟨by rw [hsize]; exact a, b, RO.mono st.keep st.ids (hoth _ fun hbb => e ?_) c⟩
      exact hS.inj1 j id x o hj hid hx ho hbb (.inr hns)
  · have hns' : isStk (some o') = false := by cases o <;> cases o' <;> simp_all [shO, isStk]
    have f : ∀ i y, upd1 look id o' i = some y → alive y = true → ∃ z, look i = some z ∧ alive z = true := by
      intro i y hi hy
      by_cases e : i = id
      · subst e; exact ⟨o, hid, ho⟩
      · rw [hother i e] at hi; exact ⟨y, hi, hy⟩
    obtain ⟨z, a, b⟩ := f j x hj hx
    obtain ⟨z', a', b'⟩ := f j' x' hj' hx'
    rcases hS.inj j j' z z' a a' b b' hbb with h | h | h
    · exact .inl h
    · have e1 : j ≠ id := by rintro rfl; have := h.stk.1; rw [hid, hns] at this; cases this
      have e2 : j' ≠ id := by rintro rfl; have := h.stk.2; rw [hid, hns] at this; cases this
      exact .inr (.inl (h.mono (hother j e1) (hother j' e2) rfl rfl))
    · have e1 : j' ≠ id := by rintro rfl; have := h.stk.1; rw [hid, hns] at this; cases this
      have e2 : j ≠ id := by rintro rfl; have := h.stk.2; rw [hid, hns] at this; cases this
      exact .inr (.inr (h.mono (hother j' e1) (hother j e2) rfl rfl))
/-- A new map or iterator. -/
theorem sim_newR {w w' : World} {F : Nat → Prop} {β : Int → Nat} {look : Look} (hS : Sim w F β look) {slot : Nat} (hs : look slot = none) {x : Obj}
    (hw : w'.heap = w.heap.push x) (h2 : w'.os = w.os) (h3 : w'.tape = w.tape) (h4 : w'.output = w.output) :
    let β' := newβ β slot w.heap.size 0
    Sim w' F β' (upd1 look slot (.raw x)) ∧ St (fun _ => True) w β look w' β' (upd1 look slot (.raw x)) ∧ shL (upd1 look slot (.raw x)) slot = some .raw ∧ β' slot = w.heap.size := by
  intro β'
  have hup : upd1 look slot (.raw x) slot = some (.raw x) := by simp [upd1]
  have hother : ∀ j, j ≠ slot → upd1 look slot (.raw x) j = look j := fun j hj => by simp [upd1, hj]
  have hold : ∀ b, b < w.heap.size → w'.heap[b]? = w.heap[b]? := fun b hb => by rw [hw, Array.getElem?_push, if_neg (by omega)]
  have hnew : w'.heap[w.heap.size]? = some x := by rw [hw]; simp
  have hsz : w'.heap.size = w.heap.size + 1 := by rw [hw]; simp
  have hβ : ∀ j : Nat, j ≠ slot → β' j = β j := fun j hj => newβ_ne hj
  have hβs : β' slot = w.heap.size := newβ_eq
  have hbs : ∀ j : Nat, j ≠ slot → bs β' j = bs β j := fun j hj => newb_ne hj
  have hbss : bs β' slot = 0 := newb_eq
  have st : St (fun _ => True) w β look w' β' (upd1 look slot (.raw x)) := by
    refine ⟨h2, h3, h4, by omega, fun b hb _ => hold b hb, fun b ⟨j, y, hj, hx, hb⟩ => ?_, fun j s _ hj => ?_⟩
    · by_cases e : j = slot
      · subst e; right; rw [← hb, hβs]; exact Nat.le_refl _
      · left; rw [hother j e] at hj; rw [hβ j e] at hb; exact ⟨j, y, hj, hx, hb⟩
    · have e : j ≠ slot := by rintro rfl; simp [shL, hs] at hj
      by_cases hg : s = .gone
      · subst hg; exact .inr (.inr ⟨rfl, by simp only [shL, hother j e]; exact hj⟩)
      · obtain ⟨y, hx, hxs⟩ := shL_alive hj
        refine .inl ⟨hβ j e, by simp only [shL, hother j e]; exact hj, shape_of_block (hold _ (hS.live j y hx (shO_alive hxs hg)).1), hbs j e⟩
  refine ⟨⟨fun b hb => by have := hS.flt b hb; omega, fun j y hj hx => ?_, fun j j' y y' hj hj' hx hx' hb => ?_, hS.laid.st st⟩, st, by simp [shL, hup, shO], hβs⟩
  · by_cases e : j = slot
    · subst e
      rw [hup] at hj
      obtain rfl := Option.some.inj hj
      refine ⟨by rw [hβs]; omega, fun hf => ?_, ?_⟩
      · have := hS.flt _ hf; rw [hβs] at this; omega
      · rw [hβs]; exact hnew
    · rw [hother j e] at hj
      obtain ⟨a, b, c⟩ := hS.live j y hj hx
      rw [hβ j e, hbs j e]
      exact ⟨by omega, b, RO.mono st.keep st.ids (hold _ a) c⟩
  · by_cases e : j = slot
    · by_cases e' : j' = slot
      · left; rw [e, e']
      · rw [e, hβs, hβ j' e'] at hb
        rw [hother j' e'] at hj'
        have := (hS.live j' y' hj' hx').1; omega
    · by_cases e' : j' = slot
      · rw [e', hβs, hβ j e] at hb
        rw [hother j e] at hj
        have := (hS.live j y hj hx).1; omega
      · rw [hother j e] at hj; rw [hother j' e'] at hj'; rw [hβ j e, hβ j' e'] at hb
        exact kin_mono (hS.inj j j' y y' hj hj' hx hx' hb) (hother j e) (hother j' e') (hbs j e) (hbs j' e')
/-- No cells: a map, an iterator. -/
def noCells : Obj → Bool
  | .cells .. => false
  | _ => true
theorem shape_raw {w : World} {b : Nat} {x : Obj} (h : w.heap[b]? = some x) (hx : noCells x = true) : w.shape? b = none := by
  simp only [World.shape?, h]
  cases x <;> first | rfl | cases hx
/-- A map or an iterator that is written. -/
theorem sim_setR {w w' : World} {F : Nat → Prop} {β : Int → Nat} {look : Look} (hS : Sim w F β look) {id : Nat} {x x' : Obj} (hid : look id = some (.raw x)) (hn : noCells x = true) (hn' : noCells x' = true)
    (hb' : w'.heap[β id]? = some x') (hsize : w'.heap.size = w.heap.size) (hoth : ∀ b, b ≠ β id → w'.heap[b]? = w.heap[b]?)
    (h2 : w'.os = w.os) (h3 : w'.tape = w.tape) (h4 : w'.output = w.output) :
    Sim w' F β (upd1 look id (.raw x')) ∧ St (fun _ => True) w β look w' β (upd1 look id (.raw x')) := by
  have hup : upd1 look id (.raw x') id = some (.raw x') := by simp [upd1]
  have hother : ∀ j, j ≠ id → upd1 look id (.raw x') j = look j := fun j hj => by simp [upd1, hj]
  have hb : w.heap[β id]? = some x := (hS.live id _ hid rfl).2.2
  have hshE : shL (upd1 look id (.raw x')) = shL look := by
    funext j
    by_cases e : j = id
    · subst e; simp [shL, hup, hid, shO]
    · simp [shL, hother j e]
  have st : St (fun _ => True) w β look w' β (upd1 look id (.raw x')) := by
    refine ⟨h2, h3, h4, by omega, fun b hb1 hl => hoth b ?_, fun b ⟨j, y, hj, hx, hb1⟩ => .inl ?_, fun j s _ hj => .inl ⟨rfl, by rw [hshE]; exact hj, ?_, rfl⟩⟩
    · rintro rfl; exact hl ⟨id, _, hid, rfl, rfl⟩
    · by_cases e : j = id
      · subst e; exact ⟨j, _, hid, rfl, hb1⟩
      · rw [hother j e] at hj; exact ⟨j, y, hj, hx, hb1⟩
    · by_cases e : β j = β id
      · rw [e, shape_raw hb hn, shape_raw hb' hn']
      · exact shape_of_block (hoth _ e)
  refine ⟨⟨fun b hb1 => by rw [hsize]; exact hS.flt b hb1, fun j y hj hx => ?_, fun j j' y y' hj hj' hx hx' hbb => ?_, hS.laid.st st⟩, st⟩
  · by_cases e : j = id
    · subst e
      rw [hup] at hj
      obtain rfl := Option.some.inj hj
      obtain ⟨a, b, _⟩ := hS.live j _ hid rfl
      exact ⟨by rw [hsize]; exact a, b, hb'⟩
    · rw [hother j e] at hj
      obtain ⟨a, b, c⟩ := hS.live j y hj hx
      refine ⟨by rw [hsize]; exact a, b, RO.mono st.keep st.ids (hoth _ fun hbb => e ?_) c⟩
      exact hS.inj1 j id y _ hj hid hx rfl hbb (.inr rfl)
  · have f : ∀ i y, upd1 look id (.raw x') i = some y → alive y = true → ∃ z, look i = some z ∧ alive z = true := by
      intro i y hi hy
      by_cases e : i = id
      · subst e; exact ⟨_, hid, rfl⟩
      · rw [hother i e] at hi; exact ⟨y, hi, hy⟩
    obtain ⟨z, a, b⟩ := f j y hj hx
    obtain ⟨z', a', b'⟩ := f j' y' hj' hx'
    rcases hS.inj j j' z z' a a' b b' hbb with h | h | h
    · exact .inl h
    · have e1 : j ≠ id := by rintro rfl; have := h.stk.1; rw [hid] at this; cases this
      have e2 : j' ≠ id := by rintro rfl; have := h.stk.2; rw [hid] at this; cases this
      exact .inr (.inl (h.mono (hother j e1) (hother j' e2) rfl rfl))
    · have e1 : j' ≠ id := by rintro rfl; have := h.stk.1; rw [hid] at this; cases this
      have e2 : j ≠ id := by rintro rfl; have := h.stk.2; rw [hid] at this; cases this
      exact .inr (.inr (h.mono (hother j' e1) (hother j e2) rfl rfl))
/-! ### slices that are only read and lengthened -/
theorem stk_alone {w : World} {F : Nat → Prop} {β : Int → Nat} {look : Look} (hS : Sim w F β look) {id k : Nat} {els : List (List D)} {cur : Option Nat} (hl : look id = some (.stk k els cur true)) (hc : ∀ c, cur = some c → isStk (look c) = false) :
    ∀ (j : Nat) o, look j = some o → alive o = true → β j = β id → j = id := by
  intro j o hj ho hb
  rcases hS.inj j id o _ hj hl ho rfl hb with h | h | h
  · exact h
  · obtain ⟨k', l, l', r, c, h1, h2, _⟩ := h
    rw [hl] at h2
    have := Option.some.inj h2
    injection this with _ _ _ hr
    cases hr
  · obtain ⟨k', l, l', r, c, h1, h2, _⟩ := h
    rw [hl] at h1
    have := Option.some.inj h1
    injection this with _ _ hcur _
    have := hc j hcur
    rw [h2] at this
    cases this
/-- Another is noted as made of it. -/
theorem sim_cur {w : World} {F : Nat → Prop} {β : Int → Nat} {look : Look} (hS : Sim w F β look) {id k : Nat} {els : List (List D)} {cur : Option Nat} (hl : look id = some (.stk k els cur true)) (hc : ∀ c, cur = some c → isStk (look c) = false) (cur' : Option Nat) :
    Sim w F β (upd1 look id (.stk k els cur' true)) ∧ St (fun _ => True) w β look w β (upd1 look id (.stk k els cur' true)) := by
  have hup : upd1 look id (.stk k els cur' true) id = some (.stk k els cur' true) := by simp [upd1]
  have hother : ∀ j, j ≠ id → upd1 look id (.stk k els cur' true) j = look j := fun j hj => by simp [upd1, hj]
  have hshE : shL (upd1 look id (.stk k els cur' true)) = shL look := by
    funext j
    by_cases e : j = id
    · subst e; simp [shL, hup, hl, shO]
    · simp [shL, hother j e]
  have st : St (fun _ => True) w β look w β (upd1 look id (.stk k els cur' true)) := by
    refine ⟨rfl, rfl, rfl, Nat.le_refl _, fun b _ _ => rfl, fun b ⟨j, x, hj, hx, hb1⟩ => .inl ?_, fun j s _ hj => .inl ⟨rfl, by rw [hshE]; exact hj, rfl, rfl⟩⟩
    by_cases e : j = id
    · subst e; exact ⟨j, _, hl, rfl, hb1⟩
    · rw [hother j e] at hj; exact ⟨j, x, hj, hx, hb1⟩
  refine ⟨⟨hS.flt, fun j x hj hx => ?_, fun j j' x x' hj hj' hx hx' hbb => ?_, hS.laid.st st⟩, st⟩
  · by_cases e : j = id
    · subst e
      rw [hup] at hj
      obtain rfl := Option.some.inj hj
      obtain ⟨a, b, c⟩ := hS.live j _ hl rfl
      exact ⟨a, b, RO.mono st.keep st.ids rfl (show RO w (Nn w F β look) β (shL look) (β j) (bs β j) (.stk k els cur' true) from c)⟩
    · rw [hother j e] at hj
      obtain ⟨a, b, c⟩ := hS.live j x hj hx
      exact ⟨a, b, RO.mono st.keep st.ids rfl c⟩
  · have al := stk_alone hS hl hc
    by_cases e : j = id
    · by_cases e' : j' = id
      · exact .inl (by rw [e, e'])
      · rw [hother j' e'] at hj'
        rw [e] at hbb
        exact absurd (al j' x' hj' hx' hbb.symm) e'
    · by_cases e' : j' = id
      · rw [hother j e] at hj
        rw [e'] at hbb
        exact absurd (al j x hj hx hbb) e
      · rw [hother j e] at hj; rw [hother j' e'] at hj'
        exact kin_mono (hS.inj j j' x x' hj hj' hx hx' hbb) (hother j e) (hother j' e') rfl rfl
theorem ROc.pre {w : World} {N : Nat → Prop} {β : Int → Nat} {sh : Nat → Option Sh} {vals : Array Value} {z k : Nat} {els t : List (List D)} {cur cur' : Option Nat} {r r' : Bool} (h : ROc w N β sh vals z (.stk k (els ++ t) cur r)) : ROc w N β sh vals z (.stk k els cur' r') := by
  obtain ⟨h0, h1, h2, h3⟩ := h
  refine ⟨h0, fun l hl => h1 l (List.mem_append_left _ hl), ?_, fun i l j x a b => h3 i l j x ?_ b⟩
  · have : els.length * k ≤ (els ++ t).length * k := Nat.mul_le_mul_right k (by simp)
    omega
  · rw [List.getElem?_append_left, a]
    rcases Nat.lt_or_ge i els.length with h | h
    · exact h
    · rw [List.getElem?_eq_none h] at a; cases a
/-- It is lengthened in its own array. -/
theorem sim_share {w w' : World} {F : Nat → Prop} {β : Int → Nat} {look : Look} (hS : Sim w F β look) {id k : Nat} {els t : List (List D)} {cur : Option Nat} (hl : look id = some (.stk k els cur true)) (hc : ∀ c, cur = some c → isStk (look c) = false) {slot : Nat} (hs : look slot = none)
    {vals vals' : Array Value} {ty : TypeId} (hb : w.heap[β id]? = some (.cells vals ty (0, 0))) (hb' : w'.heap[β id]? = some (.cells vals' ty (0, 0))) (hsz : vals'.size = vals.size) (hsize : w'.heap.size = w.heap.size) (hoth : ∀ b, b ≠ β id → w'.heap[b]? = w.heap[b]?)
    (h2 : w'.os = w.os) (h3 : w'.tape = w.tape) (h4 : w'.output = w.output) (hcont : ROc w (Nn w F β look) β (shL look) vals' (bs β id) (.stk k (els ++ t) none false)) :
    let β' := newβ β slot (β id) (bs β id)
    let look' := upd1 (upd1 look id (.stk k els (some slot) true)) slot (.stk k (els ++ t) none false)
    Sim w' F β' look' ∧ St (fun _ => True) w β look w' β' look' ∧ shL look' slot = some (.stk k (els ++ t).length) ∧ β' slot = β id ∧ bs β' slot = bs β id := by
  intro β' look'
  have hne : slot ≠ id := by rintro rfl; rw [hs] at hl; cases hl
  have al := stk_alone hS hl hc
  have hup : look' slot = some (.stk k (els ++ t) none false) := by simp [look', upd1]
  have hid : look' id = some (.stk k els (some slot) true) := by simp [look', upd1, hne.symm]
  have hother : ∀ j, j ≠ slot → j ≠ id → look' j = look j := fun j hj hj' => by simp [look', upd1, hj, hj']
  have hβ : ∀ j : Nat, j ≠ slot → β' j = β j := fun j hj => newβ_ne hj
  have hβs : β' slot = β id := newβ_eq
  have hbs : ∀ j : Nat, j ≠ slot → bs β' j = bs β j := fun j hj => newb_ne hj
  have hbss : bs β' slot = bs β id := newb_eq
  have hcase : ∀ j x, look' j = some x → alive x = true → (j = slot ∧ x = .stk k (els ++ t) none false) ∨ (j = id ∧ x = .stk k els (some slot) true) ∨ (j ≠ slot ∧ j ≠ id ∧ look j = some x) := by
    intro j x hj hx
    by_cases e : j = slot
    · subst e; rw [hup] at hj; exact .inl ⟨rfl, (Option.some.inj hj).symm⟩
    · by_cases e' : j = id
      · subst e'; rw [hid] at hj; exact .inr (.inl ⟨rfl, (Option.some.inj hj).symm⟩)
      · rw [hother j e e'] at hj; exact .inr (.inr ⟨e, e', hj⟩)
  obtain ⟨l1, l2, _⟩ := hS.live id _ hl rfl
  have st : St (fun _ => True) w β look w' β' look' := by
    refine ⟨h2, h3, h4, by omega, fun b hb1 hlv => hoth b ?_, fun b ⟨j, x, hj, hx, hb1⟩ => .inl ?_, fun j s _ hj => ?_⟩
    · rintro rfl; exact hlv ⟨id, _, hl, rfl, rfl⟩
    · rcases hcase j x hj hx with ⟨rfl, rfl⟩ | ⟨rfl, rfl⟩ | ⟨e, e', hj'⟩
      · exact ⟨id, _, hl, rfl, by rw [← hb1, hβs]⟩
      · exact ⟨j, _, hl, rfl, by rw [← hb1, hβ j hne.symm]⟩
      · exact ⟨j, x, hj', hx, by rw [← hb1, hβ j e]⟩
    · have e : j ≠ slot := by rintro rfl; simp [shL, hs] at hj
      by_cases e' : j = id
      · subst e'
        refine .inl ⟨hβ j e, ?_, by rw [shape_of_cells hb, shape_of_cells hb', hsz], hbs j e⟩
        rw [← hj]; simp [shL, hid, hl, shO]
      · by_cases hg : s = .gone
        · subst hg; exact .inr (.inr ⟨rfl, by simp only [shL, hother j e e']; exact hj⟩)
        · obtain ⟨x, hx, hxs⟩ := shL_alive hj
          exact .inl ⟨hβ j e, by simp only [shL, hother j e e']; exact hj, shape_of_block (hoth _ fun hbb => e' (al j x hx (shO_alive hxs hg) hbb)), hbs j e⟩
  have hcont' := ROc.mono st.keep st.ids hcont
  refine ⟨⟨fun b hb1 => by rw [hsize]; exact hS.flt b hb1, fun j x hj hx => ?_, fun j j' x x' hj hj' hx hx' hbb => ?_, hS.laid.st st⟩, st, by simp [shL, hup, shO], hβs, hbss⟩
  · rcases hcase j x hj hx with ⟨rfl, rfl⟩ | ⟨rfl, rfl⟩ | ⟨e, e', hj'⟩
    · rw [hβs, hbss]
      exact ⟨by omega, l2, by rw [RO_iff rfl]; exact ⟨vals', ty, hb', hcont'⟩⟩
    · rw [hβ j hne.symm, hbs j hne.symm]
      exact ⟨by omega, l2, by rw [RO_iff rfl]; exact ⟨vals', ty, hb', hcont'.pre⟩⟩
    · obtain ⟨a, b, c⟩ := hS.live j x hj' hx
      rw [hβ j e, hbs j e]
      exact ⟨by omega, b, RO.mono st.keep st.ids (hoth _ fun hbb => e' (al j x hj' hx hbb)) c⟩
  · have kin : Kin β' look' id slot := ⟨k, els, els ++ t, true, none, hid, hup, by rw [hbs id hne.symm, hbss], List.prefix_append _ _⟩
    rcases hcase j x hj hx with ⟨rfl, rfl⟩ | ⟨rfl, rfl⟩ | ⟨e, e', hj1⟩ <;> rcases hcase j' x' hj' hx' with ⟨rfl, rfl⟩ | ⟨rfl, rfl⟩ | ⟨f, f', hj2⟩
    · exact .inl rfl
    · exact .inr (.inr kin)
    · rw [hβs, hβ j' f] at hbb; exact absurd (al j' x' hj2 hx' hbb.symm) f'
    · exact .inr (.inl kin)
    · exact .inl rfl
    · rw [hβ j hne.symm, hβ j' f] at hbb; exact absurd (al j' x' hj2 hx' hbb.symm) f'
    · rw [hβs, hβ j e] at hbb; exact absurd (al j x hj1 hx hbb) e'
    · rw [hβ j e, hβ j' hne.symm] at hbb; exact absurd (al j x hj1 hx hbb) e'
    · rw [hβ j e, hβ j' f] at hbb
      exact kin_mono (hS.inj j j' x x' hj1 hj2 hx hx' hbb) (hother j e e') (hother j' f f') (hbs j e) (hbs j' f)
end Go.Proofs.YteenjodhmppgjaaGreatDoor.Am
end
section
/- The abstract machine: memory operations of the model, run. -/
namespace Go.Proofs.YteenjodhmppgjaaGreatDoor.Am
open Go

section
variable {P : Program} {w : World}
theorem run_sizeOf {t : TypeId} {n : Nat} (h : sizeT P t = some n) (w : World) : (sizeOf t).run P w = .ok n w := by
  unfold sizeT at h
  cases hi : P.info? t with
  | none => simp [hi] at h
  | some i => simp [hi] at h; simp [sizeOf, typeInfo, hi, h]
theorem run_isAgg {t : TypeId} {b : Bool} (h : aggT P t = some b) (w : World) : (isAgg t).run P w = .ok b w := by
  unfold aggT at h
  cases hu : P.underlying t with
  | none => simp [hu] at h
  | some d => cases d <;> simp_all [isAgg, run_underlying hu]
theorem run_elem {t e : TypeId} (h : elemT P t = some e) : P.underlying t = some (.slice e) := by
  unfold elemT at h
  split at h
  · rename_i x hx; rw [hx]; cases h; rfl
  · cases h
theorem add_at (b o j : Nat) : (⟨b, o, none⟩ : Addr).add j = ⟨b, o + j, none⟩ := by unfold Addr.add; split <;> simp_all

/-- Cells that lie from an address on. -/
def At (w : World) (b o : Nat) (vals : List Value) : Prop := ∀ j x, vals[j]? = some x → w.cell? ⟨b, o + j, none⟩ = some x
theorem At.drop {b o : Nat} {vals : List Value} (h : At w b o vals) (n : Nat) : At w b (o + n) (vals.drop n) := by
  intro j x hj
  rw [List.getElem?_drop] at hj
  have := h (n + j) x hj
  rwa [← Nat.add_assoc] at this
theorem At.take {b o : Nat} {vals : List Value} (h : At w b o vals) (n : Nat) : At w b o (vals.take n) := by
  intro j x hj
  rw [List.getElem?_take] at hj
  split at hj
  · exact h j x hj
  · cases hj
theorem At.of_block {b : Nat} {vals : Array Value} {ty : TypeId} {fr : Nat × Nat} (h : w.heap[b]? = some (.cells vals ty fr)) : At w b 0 vals.toList := by
  intro j x hj
  simp only [World.cell?, h, Nat.zero_add]
  simpa using hj
theorem run_loadCells_at {b o : Nat} {vals : List Value} (h : At w b o vals) : (loadCells ⟨b, o, none⟩ vals.length).run P w = .ok vals.toArray w :=
  run_loadCells_list w _ vals (fun j v hv => by rw [add_at]; exact h j v hv)
variable {N : Nat → Prop} {β : Int → Nat} {sh : Nat → Option Sh}
theorem run_cut {t : TypeId} {b o off : Nat} {vals : List Value} {cs : List C} {v : V} (hr : All2 (RK w N β sh) vals cs) (hat : At w b o vals) (hc : cutC P t cs off = some v) :
    ∃ x, (loadVar t ⟨b, o + off, none⟩).run P w = .ok x w ∧ RV w N β sh x v := by
  unfold cutC at hc
  cases hs : sizeT P t with
  | none => simp [hs] at hc
  | some n =>
    cases ha : aggT P t with
    | none => simp [hs, ha] at hc
    | some g =>
      cases g with
      | true =>
        simp only [hs, ha] at hc
        by_cases hl : off + n ≤ cs.length
        · simp only [hl, if_true, Option.some.injEq] at hc
          subst hc
          have hlen := hr.length
          have hn : ((vals.drop off).take n).length = n := by simp; omega
          have h1 := run_loadCells_at (P := P) ((hat.drop off).take n)
          rw [hn] at h1
          refine ⟨.agg ((vals.drop off).take n).toArray, ?_, _, rfl, ?_⟩
          · simp [loadVar, run_isAgg ha, run_sizeOf hs, h1]
          · simpa using (hr.drop off).take n
        · simp [hl] at hc
      | false =>
        simp only [hs, ha] at hc
        cases hx : cs[off]? with
        | none => simp [hx] at hc
        | some c =>
          simp only [hx, Option.some.injEq] at hc
          subst hc
          obtain ⟨x, h1, h2⟩ := hr.get_right hx
          refine ⟨x, ?_, h2.2⟩
          have := hat off x h1
          simp [loadVar, run_isAgg ha, this]
theorem run_cutpart {t : TypeId} {off : Nat} {vals : Array Value} {cs : List C} {v : V} (hr : All2 (RK w N β sh) vals.toList cs) (hc : cutC P t cs off = some v) :
    ∃ x, (part t vals off).run P w = .ok x w ∧ RV w N β sh x v := by
  unfold cutC at hc
  cases hs : sizeT P t with
  | none => simp [hs] at hc
  | some n =>
    cases ha : aggT P t with
    | none => simp [hs, ha] at hc
    | some g =>
      cases g with
      | true =>
        simp only [hs, ha] at hc
        by_cases hl : off + n ≤ cs.length
        · simp only [hl, if_true, Option.some.injEq] at hc
          subst hc
          refine ⟨.agg (vals.extract off (off + n)), ?_, _, rfl, ?_⟩
          · simp [part, run_isAgg ha, run_sizeOf hs]
          · have := (hr.drop off).take n
            simpa [Array.toList_extract, List.extract_eq_take_drop, Nat.add_sub_cancel_left] using this
        · simp [hl] at hc
      | false =>
        simp only [hs, ha] at hc
        cases hx : cs[off]? with
        | none => simp [hx] at hc
        | some c =>
          simp only [hx, Option.some.injEq] at hc
          subst hc
          obtain ⟨x, h1, h2⟩ := hr.get_right hx
          refine ⟨x, ?_, h2.2⟩
          have h1' : vals[off]? = some x := by simpa using h1
          simp [part, run_isAgg ha, h1']
/-- The cells of a value that may be stored. -/
theorem cells_rep {x : Value} {v : V} {ys : List C} (h : RV w N β sh x v) (hc : cells v = some ys) : All2 (RK w N β sh) x.cells.toList ys := by
  cases v with
  | c y =>
    simp only [cells] at hc
    split at hc
    · rename_i hok
      cases hc
      have hcell := RC.cell h hok
      have : x.cells = #[x] := by cases x <;> first | rfl | cases hcell
      rw [this]
      exact .cons ⟨hcell, h⟩ .nil
    · cases hc
  | agg cs =>
    simp only [cells] at hc
    split at hc
    · cases hc
      obtain ⟨a, rfl, h⟩ := h
      exact h
    · cases hc
  | tup vs => cases hc
theorem oneCell_of {x : Value} (h : cellB x = true) : x.oneCell' = true := by cases x <;> first | rfl | cases h
theorem run_storeVar_at {t : TypeId} {b off : Nat} {x : Value} {n : Nat} (hs : sizeT P t = some n) (hn : x.cells.size = n) {vals : Array Value} {ty : TypeId} (hb : w.heap[b]? = some (.cells vals ty (0, 0)))
    (hl : off + n ≤ vals.size) (h1 : ∀ y ∈ x.cells.toList, cellB y = true) :
    (storeVar t ⟨b, off, none⟩ x).run P w = .ok () (w.setRow b (vals.toList.take off ++ x.cells.toList ++ vals.toList.drop (off + n)).toArray) := by
  have := run_storeCells_at P b off ty x.cells.toList 0 vals w hb (by simp; omega) (fun v hv => oneCell_of (h1 v hv))
  simp only [Nat.add_zero, Array.length_toList, hn] at this
  simp [storeVar, run_sizeOf hs, hn, this]
theorem All2.over {vals : List Value} {cs : List C} {xs : List Value} {ys : List C} {off : Nat} (h : All2 (RK w N β sh) vals cs) (h' : All2 (RK w N β sh) xs ys) :
    All2 (RK w N β sh) (vals.take off ++ xs ++ vals.drop (off + xs.length)) (over cs off ys) := by
  unfold Am.over
  rw [← h'.length]
  exact ((h.take off).append h').append (h.drop _)
theorem setRow_other (w : World) (b : Nat) (cs : Array Value) (i : Nat) (h : i ≠ b) : (w.setRow b cs).heap[i]? = w.heap[i]? := by
  simp only [World.setRow, Array.getElem?_modify]
  rw [if_neg (fun e => h e.symm)]
theorem setRow_size (w : World) (b : Nat) (cs : Array Value) : (w.setRow b cs).heap.size = w.heap.size := by simp [World.setRow]

theorem zero_rep {t : TypeId} {cs : List C} (h : zeroT P t = some cs) : ∃ i z, P.info? t = some i ∧ i.zero = some z ∧ (zeroValue t).run P w = .ok z w ∧ All2 (RK w N β sh) z.cells.toList cs := by
  unfold zeroT at h
  cases hi : P.info? t with
  | none => simp [hi] at h
  | some i =>
    simp only [hi] at h
    cases hz : i.zero with
    | none => simp [hz] at h
    | some z =>
      simp only [hz] at h
      split at h
      · rename_i hall
        cases h
        refine ⟨i, z, rfl, hz, by simp [zeroValue, typeInfo, hi, hz], ?_⟩
        have key : ∀ l : List Value, l.all cellB = true → All2 (RK w N β sh) l (l.map fun y => C.d (D.v y)) := by
          intro l
          induction l with
          | nil => intro _; exact .nil
          | cons y l ih =>
            intro hy
            simp only [List.all_cons, Bool.and_eq_true] at hy
            exact .cons ⟨hy.1, .v hy.1⟩ (ih hy.2)
        exact key _ hall
      · cases h
end
theorem foldl_over (off : Nat) : ∀ (vs : List Value) (i : Nat) (cur : Array Value), off + i + vs.length ≤ cur.size →
    ((vs.zipIdx i).foldl (fun (cs : Array Value) (p : Value × Nat) => cs.setIfInBounds (off + p.2) p.1) cur).toList = cur.toList.take (off + i) ++ vs ++ cur.toList.drop (off + i + vs.length)
  | [], i, cur, _ => by simp
  | v :: rest, i, cur, h => by
    have hi : off + i < cur.size := by simp at h; omega
    rw [List.zipIdx_cons, List.foldl_cons, foldl_over off rest (i + 1) (cur.setIfInBounds (off + i) v) (by simp at h ⊢; omega)]
    have e := list_seg_step cur.toList (off + i) v rest (by simp at h ⊢; omega)
    simpa [Array.toList_setIfInBounds, Nat.add_assoc] using e
theorem fill_step {place : Nat → Option (Nat × Nat)} {cur : Array Value} {i off n : Nat} {v : Value} {rest : List (Nat × Value)} (hp : place i = some (off, n)) (hn : v.cells.size = n) (hl : off + n ≤ cur.size) :
    Instr.fill place cur ((i, v) :: rest) = Instr.fill place (cur.toList.take off ++ v.cells.toList ++ cur.toList.drop (off + n)).toArray rest := by
  rw [Instr.fill, hp]
  simp only
  rw [if_neg (by simp; omega)]
  congr 1
  apply Array.ext'
  have := foldl_over off v.cells.toList 0 cur (by simp; omega)
  simp only [Nat.add_zero, Array.length_toList, hn] at this
  rw [← Array.foldl_toList]
  simpa using this
end Go.Proofs.YteenjodhmppgjaaGreatDoor.Am
end
section
/- The abstract machine: own slices as data; elements in a row. -/
namespace Go.Proofs.YteenjodhmppgjaaGreatDoor.Am
open Go

theorem updL_kills : ∀ (own : List Nat) (look : Look) (j : Nat), updL look (kills own) j = if j ∈ own then some .gone else look j
  | [], look, j => by simp [kills, updL]
  | id :: r, look, j => by
    have := updL_kills r (upd1 look id .gone) j
    simp only [kills, List.map_cons, updL] at this ⊢
    rw [this]
    by_cases h1 : j ∈ r
    · simp [h1]
    · by_cases h2 : j = id
      · subst h2; simp [upd1]
      · simp [h1, h2, upd1]
/-- The elements of a slice, one behind the other. -/
def Flat (w : World) (N : Nat → Prop) (k : Nat) (els : List (List D)) (news : List Value) : Prop :=
  0 < k ∧ (∀ l ∈ els, l.length = k) ∧ news.length = els.length * k ∧ ∀ i l j x, els[i]? = some l → l[j]? = some x → ∃ v, news[i * k + j]? = some v ∧ RepD w N v x
section
variable {w : World} {N : Nat → Prop} {k : Nat} {els : List (List D)} {news : List Value}
theorem Flat.cell (h : Flat w N k els news) : ∀ v ∈ news, cellB v = true := by
  obtain ⟨hk, hl, hn, hr⟩ := h
  intro v hv
  obtain ⟨m, hm⟩ := List.getElem?_of_mem hv
  have hlt : m < els.length * k := by
    rw [← hn]
    rcases Nat.lt_or_ge m news.length with h | h
    · exact h
    · rw [List.getElem?_eq_none h] at hm; cases hm
  have hi : m / k < els.length := by rw [Nat.div_lt_iff_lt_mul hk]; exact hlt
  have hj : m % k < k := Nat.mod_lt _ hk
  have e1 : els[m / k]? = some els[m / k] := by simp [hi]
  have e2 : (els[m / k]).length = k := hl _ (List.getElem_mem hi)
  have e3 : (els[m / k])[m % k]? = some ((els[m / k])[m % k]'(by omega)) := by simp [e2, hj]
  obtain ⟨v', h1, h2⟩ := hr _ _ _ _ e1 e3
  have : m / k * k + m % k = m := by rw [Nat.mul_comm]; exact Nat.div_add_mod m k
  rw [this] at h1
  rw [h1] at hm
  cases hm
  exact h2.cell
theorem Flat.append {els' : List (List D)} {news' : List Value} (h : Flat w N k els news) (h' : Flat w N k els' news') : Flat w N k (els ++ els') (news ++ news') := by
  obtain ⟨hk, hl, hn, hr⟩ := h
  obtain ⟨_, hl', hn', hr'⟩ := h'
  refine ⟨hk, fun l hx => ?_, by simp [hn, hn', Nat.add_mul], fun i l j x h1 h2 => ?_⟩
  · rcases List.mem_append.1 hx with hx | hx
    · exact hl l hx
    · exact hl' l hx
  · rcases Nat.lt_or_ge i els.length with hi | hi
    · rw [List.getElem?_append_left hi] at h1
      obtain ⟨v, a, b⟩ := hr i l j x h1 h2
      refine ⟨v, ?_, b⟩
      rw [List.getElem?_append_left, a]
      rcases Nat.lt_or_ge (i * k + j) news.length with h | h
      · exact h
      · rw [List.getElem?_eq_none h] at a; cases a
    · rw [List.getElem?_append_right hi] at h1
      obtain ⟨v, a, b⟩ := hr' _ l j x h1 h2
      refine ⟨v, ?_, b⟩
      have e : els.length * k ≤ i * k := Nat.mul_le_mul_right k hi
      rw [List.getElem?_append_right (by omega), hn, ← a]
      congr 1
      rw [Nat.sub_mul]; omega
theorem Flat.mono {w' : World} {N' : Nat → Prop} (hk : Keep w N w' N') (h : Flat w N k els news) : Flat w' N' k els news :=
  ⟨h.1, h.2.1, h.2.2.1, fun i l j x a b => let ⟨v, p, q⟩ := h.2.2.2 i l j x a b; ⟨v, p, q.mono hk⟩⟩
theorem Flat.content {β : Int → Nat} {sh : Nat → Option Sh} {vals : Array Value} {z : Nat} (h : Flat w N k els news) (hz : z ≤ vals.size) (hv : (vals.toList.drop z).take news.length = news) : ROc w N β sh vals z (.arr k els) := by
  refine ⟨h.1, h.2.1, ?_, fun i l j x a b => ?_⟩
  · have := congrArg List.length hv
    simp only [List.length_take, List.length_drop, Array.length_toList] at this
    rw [← h.2.2.1]; omega
  · obtain ⟨v, p, q⟩ := h.2.2.2 i l j x a b
    refine ⟨v, ?_, q⟩
    rw [← hv, List.getElem?_take] at p
    split at p
    · rw [List.getElem?_drop] at p
      simpa using p
    · cases p
theorem ROc.flat {β : Int → Nat} {sh : Nat → Option Sh} {vals : Array Value} {z : Nat} (h : ROc w N β sh vals z (.arr k els)) : Flat w N k els ((vals.toList.drop z).take (els.length * k)) := by
  obtain ⟨h0, h1, h2, h3⟩ := h
  refine ⟨h0, h1, by simp; omega, fun i l j x a b => ?_⟩
  obtain ⟨v, p, q⟩ := h3 i l j x a b
  refine ⟨v, ?_, q⟩
  have hi : i < els.length := by
    rcases Nat.lt_or_ge i els.length with h | h
    · exact h
    · rw [List.getElem?_eq_none h] at a; cases a
  have hj : j < k := by
    have e := h1 l (List.mem_of_getElem? a)
    rcases Nat.lt_or_ge j l.length with h | h
    · omega
    · rw [List.getElem?_eq_none h] at b; cases b
  have : i * k + j < els.length * k := Nat.lt_of_lt_of_le (show i * k + j < (i + 1) * k by rw [Nat.succ_mul]; omega) (Nat.mul_le_mul_right k hi)
  rw [List.getElem?_take, if_pos this, List.getElem?_drop]
  simpa using p
theorem At.of_drop {b : Nat} {vals : Array Value} {ty : TypeId} {fr : Nat × Nat} (h : w.heap[b]? = some (.cells vals ty fr)) (z : Nat) : At w b z (vals.toList.drop z) := by
  have := (At.of_block h).drop z
  rwa [Nat.zero_add] at this
/-- A slice that is data, with its elements in memory. -/
theorem RepD.flat {b : Option Addr} {n cap : Nat} (hk : 0 < k) (h : RepD w N (.slice b n cap) (.s k els)) : n = els.length ∧ ((els = []) ∨ ∃ g o news, b = some ⟨g, o, none⟩ ∧ N g ∧ Flat w N k els news ∧ At w g o news ∧ els.length ≤ cap) := by
  cases h with
  | e => exact ⟨rfl, .inl rfl⟩
  | @s g o _ _ _ c hb hc hl hcell hrep =>
    refine ⟨rfl, .inr ⟨g, o, (List.range (els.length * k)).map fun m => c (m / k) (m % k), rfl, hb, ⟨hk, hl, by simp, fun i l j x a b => ?_⟩, fun m x hm => ?_, hc⟩⟩
    · have hi : i < els.length := by
        rcases Nat.lt_or_ge i els.length with h | h
        · exact h
        · rw [List.getElem?_eq_none h] at a; cases a
      have hj : j < k := by
        have e := hl l (List.mem_of_getElem? a)
        rcases Nat.lt_or_ge j l.length with h | h
        · omega
        · rw [List.getElem?_eq_none h] at b; cases b
      have hlt : i * k + j < els.length * k := Nat.lt_of_lt_of_le (show i * k + j < (i + 1) * k by rw [Nat.succ_mul]; omega) (Nat.mul_le_mul_right k hi)
      have e1 : (i * k + j) / k = i := by rw [Nat.mul_comm, Nat.mul_add_div hk, Nat.div_eq_of_lt hj]; rfl
      have e2 : (i * k + j) % k = j := by rw [Nat.mul_comm, Nat.mul_add_mod]; exact Nat.mod_eq_of_lt hj
      exact ⟨c i j, by rw [List.getElem?_map, List.getElem?_range hlt]; simp only [Option.map_some, e1, e2], hrep i l j x a b⟩
    · have hlt : m < els.length * k := by
        rcases Nat.lt_or_ge m (els.length * k) with h | h
        · exact h
        · rw [List.getElem?_eq_none (by simp; omega)] at hm; cases hm
      rw [List.getElem?_map, List.getElem?_range hlt] at hm
      simp only [Option.map_some, Option.some.injEq] at hm
      have hi : m / k < els.length := by rw [Nat.div_lt_iff_lt_mul hk]; exact hlt
      have hj : m % k < k := Nat.mod_lt _ hk
      have e1 : els[m / k]? = some els[m / k] := by simp [hi]
      have e2 : (els[m / k]).length = k := hl _ (List.getElem_mem hi)
      have e3 : (els[m / k])[m % k]? = some ((els[m / k])[m % k]'(by omega)) := by simp [e2, hj]
      have := hcell _ _ _ _ e1 e3
      rw [Nat.add_assoc, show m / k * k + m % k = m by rw [Nat.mul_comm]; exact Nat.div_add_mod m k] at this
      rw [this, hm]
theorem Flat.rep {g o cap : Nat} (h : Flat w N k els news) (hg : N g) (ha : At w g o news) (hc : els.length ≤ cap) : RepD w N (.slice (some ⟨g, o, none⟩) els.length cap) (.s k els) := by
  have key : ∀ i l j x, els[i]? = some l → l[j]? = some x → w.cell? ⟨g, o + i * k + j, none⟩ = some (news.getD (i * k + j) undef) ∧ RepD w N (news.getD (i * k + j) undef) x := by
    intro i l j x a b
    obtain ⟨v, p, q⟩ := h.2.2.2 i l j x a b
    have := ha _ _ p
    rw [← Nat.add_assoc] at this
    have e : news.getD (i * k + j) undef = v := by simp [List.getD, p]
    rw [e]
    exact ⟨this, q⟩
  exact .s (fun i j => news.getD (i * k + j) undef) hg hc h.2.1 (fun i l j x a b => (key i l j x a b).1) (fun i l j x a b => (key i l j x a b).2)
end

/-- What data may lie in, once some own slices are data too. -/
structure Wide (N N' : Nat → Prop) (β : Int → Nat) (own : List Nat) : Prop where
  all : ∀ b, N b → N' b
  own : ∀ id ∈ own, N' (β id)
section
variable {w : World} {F : Nat → Prop} {β : Int → Nat} {look : Look} {N' : Nat → Prop}
theorem keep_wide {N N' : Nat → Prop} (h : ∀ b, N b → N' b) : Keep w N w N' := fun b hb => ⟨h b hb, rfl⟩
theorem arr_rep (hS : Sim w F β look) {id k : Nat} {els : List (List D)} {v : Value} (hl : look id = some (.arr k els)) (h : RC w (Nn w F β look) β (shL look) v (.own id)) (hw : ∀ b, Nn w F β look b → N' b) (hN : N' (β id)) :
    RepD w N' v (.s k els) := by
  have hs : shL look id = some (.arr k els.length) := by simp [shL, hl, shO]
  rcases h with ⟨k', n, cap, h1, rfl, h2, _⟩ | ⟨h1, _⟩ | ⟨k', n, cap, h1, _⟩
  · rw [hs] at h1
    cases h1
    obtain ⟨_, _, hr⟩ := hS.live id _ hl rfl
    obtain ⟨vals, ty, hb, hc⟩ := (RO_iff rfl).1 hr
    have hf := (ROc.flat hc).mono (keep_wide hw)
    exact hf.rep hN ((At.of_drop hb _).take _) h2
  · rw [hs] at h1; cases h1
  · rw [hs] at h1; cases h1
theorem toD_rep (hS : Sim w F β look) {c : C} {x : D} {own : List Nat} {v : Value} (h : RC w (Nn w F β look) β (shL look) v c) (hd : toD look c = some (x, own)) (hw : Wide (Nn w F β look) N' β own) : RepD w N' v x := by
  cases c with
  | d y => simp only [toD, Option.some.injEq, Prod.mk.injEq] at hd; obtain ⟨rfl, rfl⟩ := hd; exact RepD.mono (keep_wide hw.all) h
  | own id =>
    simp only [toD] at hd
    cases hl : look id with
    | none => simp [hl] at hd
    | some o =>
      cases o <;> simp [hl] at hd
      obtain ⟨rfl, rfl⟩ := hd
      exact arr_rep hS hl h hw.all (hw.own id (by simp))
  | _ => cases hd
theorem toD_arr {c : C} {x : D} {own : List Nat} (hd : toD look c = some (x, own)) : ∀ id ∈ own, ∃ k els, look id = some (.arr k els) := by
  cases c with
  | d y => simp only [toD, Option.some.injEq, Prod.mk.injEq] at hd; obtain ⟨rfl, rfl⟩ := hd; simp
  | own id =>
    simp only [toD] at hd
    cases hl : look id with
    | none => simp [hl] at hd
    | some o =>
      cases o <;> simp [hl] at hd
      obtain ⟨rfl, rfl⟩ := hd
      intro j hj
      simp at hj
      subst hj
      exact ⟨_, _, hl⟩
  | _ => cases hd
theorem toDs_rep (hS : Sim w F β look) : ∀ {cs : List C} {xs : List D} {own : List Nat} {vs : List Value}, All2 (RK w (Nn w F β look) β (shL look)) vs cs → toDs look cs = some (xs, own) → Wide (Nn w F β look) N' β own → All2 (RepD w N') vs xs := by
  intro cs
  induction cs with
  | nil => intro xs own vs h hd _; simp only [toDs, Option.some.injEq, Prod.mk.injEq] at hd; obtain ⟨rfl, rfl⟩ := hd; cases h; exact .nil
  | cons c cs ih =>
    intro xs own vs h hd hw
    cases h with
    | cons h1 h2 =>
      simp only [toDs] at hd
      cases e1 : toD look c with
      | none => simp [e1] at hd
      | some p =>
        obtain ⟨d, a⟩ := p
        cases e2 : toDs look cs with
        | none => simp [e1, e2] at hd
        | some q =>
          obtain ⟨ds, b⟩ := q
          simp only [e1, e2, Option.some.injEq, Prod.mk.injEq] at hd
          obtain ⟨rfl, rfl⟩ := hd
          exact .cons (toD_rep hS h1.2 e1 ⟨hw.all, fun id hid => hw.own id (List.mem_append_left _ hid)⟩) (ih h2 e2 ⟨hw.all, fun id hid => hw.own id (List.mem_append_right _ hid)⟩)
theorem toDs_arr : ∀ {cs : List C} {xs : List D} {own : List Nat}, toDs look cs = some (xs, own) → ∀ id ∈ own, ∃ k els, look id = some (.arr k els) := by
  intro cs
  induction cs with
  | nil => intro xs own hd; simp only [toDs, Option.some.injEq, Prod.mk.injEq] at hd; obtain ⟨rfl, rfl⟩ := hd; simp
  | cons c cs ih =>
    intro xs own hd
    simp only [toDs] at hd
    cases e1 : toD look c with
    | none => simp [e1] at hd
    | some p =>
      obtain ⟨d, a⟩ := p
      cases e2 : toDs look cs with
      | none => simp [e1, e2] at hd
      | some q =>
        obtain ⟨ds, b⟩ := q
        simp only [e1, e2, Option.some.injEq, Prod.mk.injEq] at hd
        obtain ⟨rfl, rfl⟩ := hd
        intro id hid
        rcases List.mem_append.1 hid with h | h
        · exact toD_arr e1 id h
        · exact ih e2 id h
theorem toDs_length : ∀ {cs : List C} {xs : List D} {own : List Nat}, toDs look cs = some (xs, own) → xs.length = cs.length := by
  intro cs
  induction cs with
  | nil => intro xs own hd; simp only [toDs, Option.some.injEq, Prod.mk.injEq] at hd; obtain ⟨rfl, rfl⟩ := hd; rfl
  | cons c cs ih =>
    intro xs own hd
    simp only [toDs] at hd
    cases e1 : toD look c with
    | none => simp [e1] at hd
    | some p =>
      obtain ⟨d, a⟩ := p
      cases e2 : toDs look cs with
      | none => simp [e1, e2] at hd
      | some q =>
        obtain ⟨ds, b⟩ := q
        simp only [e1, e2, Option.some.injEq, Prod.mk.injEq] at hd
        obtain ⟨rfl, rfl⟩ := hd
        simp [ih e2]
theorem toDss_arr : ∀ {vs : List V} {xs : List (List D)} {own : List Nat}, toDss look vs = some (xs, own) → ∀ id ∈ own, ∃ k els, look id = some (.arr k els) := by
  intro vs
  induction vs with
  | nil => intro xs own hd; simp only [toDss, Option.some.injEq, Prod.mk.injEq] at hd; obtain ⟨rfl, rfl⟩ := hd; simp
  | cons v vs ih =>
    intro xs own hd
    simp only [toDss] at hd
    cases e0 : cells v with
    | none => simp [e0] at hd
    | some cs =>
      cases e1 : toDs look cs with
      | none => simp [e0, e1] at hd
      | some p =>
        obtain ⟨d, a⟩ := p
        cases e2 : toDss look vs with
        | none => simp [e0, e1, e2] at hd
        | some q =>
          obtain ⟨ds, b⟩ := q
          simp only [e0, e1, e2, Option.some.injEq, Prod.mk.injEq] at hd
          obtain ⟨rfl, rfl⟩ := hd
          intro id hid
          rcases List.mem_append.1 hid with h | h
          · exact toDs_arr e1 id h
          · exact ih e2 id h
theorem toDss_rep (hS : Sim w F β look) : ∀ {vs : List V} {xs : List (List D)} {own : List Nat} {us : List Value}, All2 (RV w (Nn w F β look) β (shL look)) us vs → toDss look vs = some (xs, own) → Wide (Nn w F β look) N' β own →
    All2 (fun (u : Value) x => All2 (RepD w N') u.cells.toList x) us xs := by
  intro vs
  induction vs with
  | nil => intro xs own us h hd _; simp only [toDss, Option.some.injEq, Prod.mk.injEq] at hd; obtain ⟨rfl, rfl⟩ := hd; cases h; exact .nil
  | cons v vs ih =>
    intro xs own us h hd hw
    cases h with
    | cons h1 h2 =>
      simp only [toDss] at hd
      cases e0 : cells v with
      | none => simp [e0] at hd
      | some cs =>
        cases e1 : toDs look cs with
        | none => simp [e0, e1] at hd
        | some p =>
          obtain ⟨d, a⟩ := p
          cases e2 : toDss look vs with
          | none => simp [e0, e1, e2] at hd
          | some q =>
            obtain ⟨ds, b⟩ := q
            simp only [e0, e1, e2, Option.some.injEq, Prod.mk.injEq] at hd
            obtain ⟨rfl, rfl⟩ := hd
            exact .cons (toDs_rep hS (cells_rep h1 e0) e1 ⟨hw.all, fun id hid => hw.own id (List.mem_append_left _ hid)⟩) (ih h2 e2 ⟨hw.all, fun id hid => hw.own id (List.mem_append_right _ hid)⟩)
/-- Behind the end of own slices data may lie in them. -/
theorem wide_kills (hS : Sim w F β look) {own : List Nat} (ho : ∀ id ∈ own, ∃ k els, look id = some (.arr k els)) :
    Wide (Nn w F β look) (Nn w F β (updL look (kills own))) β own := by
  have hlive : ∀ b, Live β (updL look (kills own)) b → Live β look b ∧ ∀ id ∈ own, β id ≠ b := by
    rintro b ⟨id, o, h1, h2, h3⟩
    rw [updL_kills] at h1
    split at h1
    · cases h1; cases h2
    · rename_i hn
      refine ⟨⟨id, o, h1, h2, h3⟩, fun j hj e => ?_⟩
      obtain ⟨k, els, hk⟩ := ho j hj
      have := hS.inj1 j id _ o hk h1 rfl h2 (by rw [e, h3]) (.inl rfl)
      subst this
      exact hn hj
  refine ⟨fun b ⟨h1, h2, h3⟩ => ⟨h1, h2, fun h => h3 (hlive b h).1⟩, fun id hid => ?_⟩
  obtain ⟨k, els, hk⟩ := ho id hid
  obtain ⟨h1, h2, _⟩ := hS.live id _ hk rfl
  exact ⟨h1, h2, fun h => (hlive _ h).2 id hid rfl⟩
theorem kills_ok {own : List Nat} (ho : ∀ id ∈ own, ∃ k els, look id = some (.arr k els)) : ∀ id ∈ own, ∃ s, shL look id = some s ∧ s ≠ .box ∧ s ≠ .raw := by
  intro id hid
  obtain ⟨k, els, hk⟩ := ho id hid
  exact ⟨.arr k els.length, by simp [shL, hk, shO], by simp, by simp⟩
end
end Go.Proofs.YteenjodhmppgjaaGreatDoor.Am
end
section
/- The abstract machine: each operation is sound (but for calls of functions). -/
namespace Go.Proofs.YteenjodhmppgjaaGreatDoor.Am
open Go

structure Good (w : World) (F : Nat → Prop) (β : Int → Nat) (look : Look) (upd : List (Nat × O)) (w' : World) (β' : Int → Nat) : Prop where
  sim : Sim w' F β' (updL look upd)
  st : St (fun _ => True) w β look w' β' (updL look upd)
abbrev RVs (w : World) (F : Nat → Prop) (β : Int → Nat) (look : Look) (x : Value) (v : V) : Prop := RV w (Nn w F β look) β (shL look) x v
/-- What the model's operation comes to, as the abstract one says. -/
def Runs (w : World) (F : Nat → Prop) (β : Int → Nat) (look : Look) (e : Eff) (r : Result Next) : Prop :=
  ∃ w' β', Good w F β look e.upd w' β' ∧ match e.res with
    | .val v => (∃ x, r = .ok (.value x) w' ∧ RVs w' F β' (updL look e.upd) x v) ∨ (r = .ok .skip w' ∧ v = .c .any)
    | .pan x => r = .halt (.panic x) w'
section
variable {P : Program} {w : World} {F : Nat → Prop} {β : Int → Nat} {look : Look}
theorem Good.refl (hS : Sim w F β look) : Good w F β look [] w β := ⟨hS, St.refl _ _ _ _⟩
theorem Runs.pure (hS : Sim w F β look) {r : Result Next} {x : Value} {v : V} {rd : List Nat} (hr : r = .ok (.value x) w) (h : RVs w F β look x v) : Runs w F β look ⟨.val v, [], rd⟩ r :=
  ⟨w, β, Good.refl hS, .inl ⟨x, hr, h⟩⟩
theorem Runs.eff (hS : Sim w F β look) {r : Result Next} {x : Value} {v : V} {rd : List Nat} {e : Eff} (he : eff v rd = some e) (hr : r = .ok (.value x) w) (h : RVs w F β look x v) : Runs w F β look e r := by
  cases he; exact Runs.pure hS hr h
theorem rv_int {k : IntKind} {n : Int} : RVs w F β look (.int k n) (.c (.d (.v (.int k n)))) := RepD.v rfl
theorem rv_v {x y : Value} (h : RVs w F β look x (.c (.d (.v y)))) : x = y ∧ cellB y = true := by cases h with | v h => exact ⟨rfl, h⟩

theorem alloc_runs (hS : Sim w F β look) {slot : Nat} (hs : look slot = none) {t : TypeId} {e : Eff} (h : allocA P slot t = some e) :
    Runs w F β look e ((do let v ← Instr.alloc t true (.tuple #[]); pure (.value v) : Sem Next).run P w) := by
  unfold allocA at h
  cases hz : zeroT P t with
  | none => simp [hz] at h
  | some cs =>
    simp only [hz, Option.some.injEq] at h
    subst h
    obtain ⟨i, z, _, _, hrun, hall⟩ := zero_rep (P := P) (w := w) (N := Nn w F β look) (β := β) (sh := shL look) hz
    obtain ⟨h1, h2, h3, h4, h5⟩ := sim_new (w' := w.alloc (.cells z.cells t)) hS hs (o := .box cs) rfl rfl rfl rfl rfl hall
    exact ⟨_, _, ⟨h1, h2⟩, .inl ⟨.pointer (some ⟨w.heap.size, 0, none⟩), by simp [Instr.alloc, hrun, newVar, newRow], ⟨h3, by rw [h4]⟩⟩⟩
theorem box_runs (hS : Sim w F β look) {slot : Nat} (hs : look slot = none) {t : TypeId} {x : Value} {v : V} (hx : RVs w F β look x v) {e : Eff} (h : boxA slot v = some e) :
    Runs w F β look e ((do let v ← Instr.box t x; pure (.value v) : Sem Next).run P w) := by
  unfold boxA at h
  cases hc : cells v with
  | none => simp [hc] at h
  | some cs =>
    simp only [hc, Option.some.injEq] at h
    subst h
    obtain ⟨h1, h2, h3, h4, h5⟩ := sim_new (w' := w.alloc (.cells x.cells t)) hS hs (o := .box cs) rfl rfl rfl rfl rfl (cells_rep hx hc)
    exact ⟨_, _, ⟨h1, h2⟩, .inl ⟨.pointer (some ⟨w.heap.size, 0, none⟩), by simp [Instr.box, newVar, newRow], ⟨h3, by rw [h4]⟩⟩⟩
theorem fill_rep {N : Nat → Prop} {sh : Nat → Option Sh} {places : List (Nat × Nat)} : ∀ {parts : List (Nat × V)} {vals : List (Nat × Value)} {cs out : List C} {cur : Array Value},
    All2 (fun (p : Nat × Value) (q : Nat × V) => p.1 = q.1 ∧ RV w N β sh p.2 q.2) vals parts → All2 (RK w N β sh) cur.toList cs → fillA places cs parts = some out →
    ∃ cells, Instr.fill (places.toArray[·]?) cur vals = some cells ∧ All2 (RK w N β sh) cells.toList out := by
  intro parts
  induction parts with
  | nil => intro vals cs out cur h hc hf; cases h; simp only [fillA, Option.some.injEq] at hf; subst hf; exact ⟨cur, rfl, hc⟩
  | cons p parts ih =>
    intro vals cs out cur h hc hf
    cases h with
    | @cons a _ l _ h1 h2 =>
      obtain ⟨i, x⟩ := p
      obtain ⟨i', y⟩ := a
      obtain ⟨rfl, hy⟩ := h1
      dsimp only at hy
      simp only [fillA] at hf
      cases hp : places[i']? with
      | none => simp [hp] at hf
      | some on =>
        obtain ⟨off, n⟩ := on
        cases hcx : cells x with
        | none => simp [hp, hcx] at hf
        | some ys =>
          simp only [hp, hcx] at hf
          split at hf
          · rename_i hh
            obtain ⟨hn, hl⟩ := hh
            have hr := cells_rep hy hcx
            have e1 : y.cells.size = n := by have := hr.length; simp at this; omega
            have e2 : off + n ≤ cur.size := by have := hc.length; simp at this; omega
            have hstep := fill_step (place := (places.toArray[·]?)) (cur := cur) (i := i') (off := off) (n := n) (v := y) (rest := l) (by simpa using hp) e1 e2
            rw [hstep]
            refine ih h2 ?_ hf
            have := All2.over (off := off) hc hr
            simpa [e1] using this
          · cases hf
theorem fill_mono {p q : Nat → Option (Nat × Nat)} (hpq : ∀ i x, p i = some x → q i = some x) : ∀ {l : List (Nat × Value)} {cur r : Array Value}, Instr.fill p cur l = some r → Instr.fill q cur l = some r
  | [], _, _, h => h
  | (i, v) :: l, cur, r, h => by
    rw [Instr.fill] at h ⊢
    cases hp : p i with
    | none => simp [hp] at h
    | some x =>
      rw [hpq i x hp]
      simp only [hp] at h
      dsimp only
      split at h
      · cases h
      · rename_i hh
        rw [if_neg hh]
        exact fill_mono hpq h
theorem build_runs (hS : Sim w F β look) {t : TypeId} {parts : List (Nat × Operand)} {ρc : Operand → Value} {ρ : Operand → V} (hE : ∀ y, RVs w F β look (ρc y) (ρ y)) {e : Eff}
    (h : buildA P t (parts.map fun p => (p.1, ρ p.2)) = some e) :
    Runs w F β look e ((do let v ← Instr.build t (parts.toArray.map fun (i, x) => (i, ρc x)); pure (.value v) : Sem Next).run P w) := by
  unfold buildA at h
  cases hp : placesT P t with
  | none => simp [hp] at h
  | some places =>
    cases hz : zeroT P t with
    | none => simp [hp, hz] at h
    | some zs =>
      cases hf : fillA places zs (parts.map fun p => (p.1, ρ p.2)) with
      | none => simp [hp, hz, hf] at h
      | some cs =>
        simp only [hp, hz, hf] at h
        obtain ⟨it, z, hi, hz', _, hall⟩ := zero_rep (P := P) (w := w) (N := Nn w F β look) (β := β) (sh := shL look) hz
        have hparts : All2 (fun (p : Nat × Value) (q : Nat × V) => p.1 = q.1 ∧ RV w (Nn w F β look) β (shL look) p.2 q.2) (parts.map fun p => (p.1, ρc p.2)) (parts.map fun p => (p.1, ρ p.2)) := by
          clear hf h
          induction parts with
          | nil => exact .nil
          | cons p l ih => exact .cons ⟨rfl, hE p.2⟩ ih
        obtain ⟨cells, h1, h2⟩ := fill_rep hparts hall hf
        have hb : P.built t (parts.toArray.map fun (i, x) => (i, ρc x)).toList = some cells := by
          unfold placesT at hp
          unfold Program.built
          cases hu : P.underlying t with
          | none => simp [hu] at hp
          | some d =>
            cases d <;> simp [hu] at hp
            · rename_i len el
              cases hie : P.info? el with
              | none => simp [hie] at hp
              | some ie =>
                simp only [hie, Option.some.injEq] at hp
                subst hp
                simp only [hi, hz', hie]
                refine fill_mono (fun i x hx => ?_) (by simpa using h1)
                cases hr : (List.range len)[i]? with
                | none => simp [hr] at hx
                | some j =>
                  have : j = i := by
                    have := List.getElem?_eq_some_iff.1 hr
                    obtain ⟨a, b⟩ := this
                    simp at b
                    exact b.symm
                  subst this
                  simpa [hr] using hx
            · simp only [hi, hz', hp]
              simpa using h1
        exact Runs.eff hS h (x := .agg cells) (by rw [Sem.run_bind, run_build w t _ cells hb]; rfl) ⟨cells, rfl, h2⟩
theorem ptr_block (hS : Sim w F β look) {id : Nat} {cs : List C} (hl : look id = some (.box cs)) : ∃ vals ty, w.heap[β id]? = some (.cells vals ty (0, 0)) ∧ All2 (RK w (Nn w F β look) β (shL look)) vals.toList cs := (hS.live id _ hl rfl).2.2
theorem RepD.inv {N : Nat → Prop} {v : Value} {k : Nat} {els : List (List D)} (h : RepD w N v (.s k els)) : (els = [] ∧ ∃ a cap, v = .slice a 0 cap) ∨
    ∃ b o cap, ∃ c : Nat → Nat → Value, v = .slice (some ⟨b, o, none⟩) els.length cap ∧ N b ∧ els.length ≤ cap ∧ (∀ l ∈ els, l.length = k) ∧ (∀ i l j x, els[i]? = some l → l[j]? = some x → w.cell? ⟨b, o + i * k + j, none⟩ = some (c i j)) ∧
      (∀ i l j x, els[i]? = some l → l[j]? = some x → RepD w N (c i j) x) := by
  cases h with
  | e a cap => exact .inl ⟨rfl, a, cap, rfl⟩
  | s c h1 h2 h3 h4 h5 => exact .inr ⟨_, _, _, c, rfl, h1, h2, h3, h4, h5⟩
theorem elt_at {N : Nat → Prop} {b o cap k : Nat} {els : List (List D)} {i : Nat} {l : List D} {sh : Nat → Option Sh} (h : RepD w N (.slice (some ⟨b, o, none⟩) els.length cap) (.s k els)) (hi : els[i]? = some l) :
    ∃ vals, At w b (o + i * k) vals ∧ All2 (RK w N β sh) vals (l.map .d) := by
  rcases RepD.inv h with ⟨rfl, _⟩ | ⟨b', o', cap', c, e, hb, hc, hk, hcell, hrep⟩
  · simp at hi
  · cases e
    have hlk := hk l (List.mem_of_getElem? hi)
    refine ⟨(List.range k).map (c i), fun j x hj => ?_, All2.of_get (by simp [hlk]) fun j x y h1 h2 => ?_⟩
    · have hj' : j < k := by
        rcases Nat.lt_or_ge j k with h | h
        · exact h
        · rw [List.getElem?_eq_none (by simp; omega)] at hj; cases hj
      rw [List.getElem?_map, List.getElem?_range hj'] at hj
      simp only [Option.map_some, Option.some.injEq] at hj
      subst hj
      exact hcell i l j _ hi (List.getElem?_eq_getElem (by omega))
    · have hj' : j < k := by
        rcases Nat.lt_or_ge j k with h | h
        · exact h
        · rw [List.getElem?_eq_none (by simp; omega)] at h1; cases h1
      rw [List.getElem?_map, List.getElem?_range hj'] at h1
      simp only [Option.map_some, Option.some.injEq] at h1
      subst h1
      rw [List.getElem?_map, List.getElem?_eq_getElem (by omega)] at h2
      simp only [Option.map_some, Option.some.injEq] at h2
      subst h2
      have := hrep i l j _ hi (List.getElem?_eq_getElem (by omega))
      exact ⟨this.cell, this⟩
theorem load_val (hS : Sim w F β look) {t : TypeId} {x : Value} {v : V} (hx : RVs w F β look x v) {e : Eff} (h : loadA P look t v = some e) :
    ∃ ad y u rd, x = .pointer (some ad) ∧ e = ⟨.val u, [], rd⟩ ∧ (loadVar t ad).run P w = .ok y w ∧ RVs w F β look y u := by
  unfold loadA at h
  split at h
  · rename_i id off
    cases hl : look id with
    | none => simp [hl] at h
    | some o =>
      cases o with
      | box cs =>
        simp only [hl] at h
        cases hc : cutC P t cs off with
        | none => simp [hc] at h
        | some u =>
          simp only [hc] at h
          obtain ⟨_, rfl⟩ := hx
          obtain ⟨vals, ty, hb, hall⟩ := ptr_block hS hl
          obtain ⟨y, h1, h2⟩ := run_cut (P := P) hall (At.of_block hb) hc
          rw [Nat.zero_add] at h1
          cases h; exact ⟨_, y, _, _, rfl, rfl, h1, h2⟩
      | _ => simp [hl] at h
  · rename_i id i off
    cases hl : look id with
    | none => simp [hl] at h
    | some o =>
      cases o with
      | arr k els =>
        simp only [hl] at h
        cases he : els[i]? with
        | none => simp [he] at h
        | some l =>
          simp only [he] at h
          cases hc : cutC P t (l.map .d) off with
          | none => simp [hc] at h
          | some u =>
            simp only [hc] at h
            have hs : shL look id = some (.arr k els.length) := by simp [shL, hl, shO]
            rcases hx with ⟨k', n, h1, rfl⟩ | ⟨h1, _⟩
            · rw [hs] at h1
              cases h1
              obtain ⟨vals, ty, hb, h0, hk, hsz, hall⟩ := (hS.live id _ hl rfl).2.2
              have hlk := hk l (List.mem_of_getElem? he)
              have hr : All2 (RK w (Nn w F β look) β (shL look)) ((vals.toList.drop (bs β id + i * k)).take k) (l.map .d) := by
                have hi : i < els.length := by
                  rcases Nat.lt_or_ge i els.length with h | h
                  · exact h
                  · rw [List.getElem?_eq_none h] at he; cases he
                have hle : bs β id + i * k + k ≤ vals.size := by
                  have : (i + 1) * k ≤ els.length * k := Nat.mul_le_mul_right k hi
                  rw [Nat.succ_mul] at this; omega
                refine All2.of_get (by simp [hlk]; omega) fun j x y h1 h2 => ?_
                rw [List.getElem?_map] at h2
                cases hj : l[j]? with
                | none => rw [hj] at h2; cases h2
                | some d =>
                  rw [hj] at h2
                  simp only [Option.map_some, Option.some.injEq] at h2
                  subst h2
                  obtain ⟨z, h3, h4⟩ := hall i l j d he hj
                  rw [List.getElem?_take] at h1
                  split at h1
                  · rw [List.getElem?_drop] at h1
                    have : vals[bs β id + (i * k + j)]? = some x := by simpa [Nat.add_assoc] using h1
                    rw [h3] at this
                    cases this
                    exact ⟨h4.cell, h4⟩
                  · cases h1
              obtain ⟨y, h3, h4⟩ := run_cut (P := P) hr ((At.of_drop hb (bs β id + i * k)).take k) hc
              rw [Nat.add_assoc] at h3
              cases h; exact ⟨_, y, _, _, rfl, rfl, h3, h4⟩
            · rw [hs] at h1; cases h1
      | _ => simp [hl] at h
  · rename_i k els i off
    cases he : els[i]? with
    | none => simp [he] at h
    | some l =>
      simp only [he] at h
      cases hc : cutC P t (l.map .d) off with
      | none => simp [hc] at h
      | some u =>
        simp only [hc] at h
        obtain ⟨b, o, cap, h1, h2, rfl⟩ := hx
        obtain ⟨vals, h3, h4⟩ := elt_at (β := β) (sh := shL look) h1 he
        obtain ⟨y, h5, h6⟩ := run_cut (P := P) h4 h3 hc
        cases h; exact ⟨_, y, _, _, rfl, rfl, h5, h6⟩
  · cases h
theorem load_runs (hS : Sim w F β look) {t : TypeId} {x : Value} {v : V} (hx : RVs w F β look x v) {e : Eff} (h : loadA P look t v = some e) :
    Runs w F β look e ((do let v ← Instr.loadAt t x; pure (.value v) : Sem Next).run P w) := by
  obtain ⟨ad, y, u, rd, rfl, rfl, h1, h2⟩ := load_val hS hx h
  exact Runs.pure hS (x := y) (by simp [Instr.loadAt, Instr.sureAddr, h1]) h2
theorem store_runs (hS : Sim w F β look) {t : TypeId} {a x : Value} {va vx : V} (ha : RVs w F β look a va) (hx : RVs w F β look x vx) {e : Eff} (h : storeA P look t va vx = some e) :
    Runs w F β look e ((do Instr.storeAt t a x; pure .skip : Sem Next).run P w) := by
  unfold storeA at h
  cases hcx : cells vx with
  | none => simp [hcx] at h
  | some ys =>
    simp only [hcx] at h
    split at h
    case isFalse => cases h
    rename_i hsz
    have hr := cells_rep hx hcx
    have hn : x.cells.size = ys.length := by have := hr.length; simpa using this
    have hone : ∀ y ∈ x.cells.toList, cellB y = true := by
      intro y hy
      obtain ⟨j, hj⟩ := List.getElem?_of_mem hy
      obtain ⟨c, _, h⟩ := hr.get_left hj
      exact h.1
    split at h
    · rename_i id off
      cases hl : look id with
      | none => simp [hl] at h
      | some o =>
        cases o with
        | box cs =>
          simp only [hl] at h
          split at h
          case isFalse => cases h
          rename_i hle
          cases h
          obtain ⟨_, rfl⟩ := ha
          obtain ⟨vals, ty, hb, hall⟩ := ptr_block hS hl
          have hlen := hall.length
          have hrun := run_storeVar_at (P := P) (n := ys.length) (off := off) hsz hn hb (by simp at hlen; omega) hone
          have hover := All2.over (off := off) hall hr
          rw [show x.cells.toList.length = ys.length by simpa using hn] at hover
          have hlen' := hover.length
          obtain ⟨h1, h2⟩ := sim_set (o' := .box (over cs off ys)) (vals' := (vals.toList.take off ++ x.cells.toList ++ vals.toList.drop (off + ys.length)).toArray) (w' := w.setRow (β id) (vals.toList.take off ++ x.cells.toList ++ vals.toList.drop (off + ys.length)).toArray) hS hl rfl rfl rfl hb (setRow_heap w _ _ _ ty _ hb)
            (by simp at hlen ⊢; omega) (setRow_size _ _ _) (fun b hb => setRow_other _ _ _ _ hb) rfl rfl rfl (by simpa [ROc] using hover)
          refine ⟨_, _, ⟨h1, h2⟩, .inr ⟨?_, rfl⟩⟩
          simp [Instr.storeAt, Instr.sureAddr, hrun]
        | _ => simp [hl] at h
    · rename_i id i off
      cases hl : look id with
      | none => simp [hl] at h
      | some o =>
        cases o with
        | arr k els =>
          simp only [hl] at h
          cases he : els[i]? with
          | none => simp [he] at h
          | some l =>
            simp only [he] at h
            cases hd : toDs look ys with
            | none => simp [hd] at h
            | some p =>
              obtain ⟨ds, own⟩ := p
              simp only [hd] at h
              split at h
              case isFalse => cases h
              rename_i hh
              obtain ⟨hle, hno⟩ := hh
              cases h
              have hs : shL look id = some (.arr k els.length) := by simp [shL, hl, shO]
              rcases ha with ⟨k', n, h1, rfl⟩ | ⟨h1, _⟩
              case inr => rw [hs] at h1; cases h1
              rw [hs] at h1
              cases h1
              have hown := toDs_arr hd
              have hnot : id ∉ own := by simpa using hno
              obtain ⟨hS1, st1⟩ := sim_kills (F := F) own hS (kills_ok hown)
              have hwide := wide_kills hS hown
              have hrep := toDs_rep hS hr hd hwide
              have hl1 : updL look (kills own) id = some (.arr k els) := by rw [updL_kills, if_neg hnot, hl]
              obtain ⟨vals, ty, hb, h0, hk, hsz', hall⟩ := (hS1.live id _ hl1 rfl).2.2
              have hlk := hk l (List.mem_of_getElem? he)
              have hi : i < els.length := by
                rcases Nat.lt_or_ge i els.length with h | h
                · exact h
                · rw [List.getElem?_eq_none h] at he; cases he
              have hdl := toDs_length hd
              have hle' : i * k + k ≤ els.length * k := by
                have : (i + 1) * k ≤ els.length * k := Nat.mul_le_mul_right k hi
                rw [Nat.succ_mul] at this; omega
              have hrun := run_storeVar_at (P := P) (n := ys.length) (off := bs β id + (i * k + off)) hsz hn hb (by omega) hone
              have hcont : ROc w (Nn w F β (updL look (kills own))) β (shL (updL look (kills own))) (vals.toList.take (bs β id + (i * k + off)) ++ x.cells.toList ++ vals.toList.drop ((bs β id + (i * k + off)) + ys.length)).toArray (bs β id) (.arr k (els.set i (l.take off ++ ds ++ l.drop (off + ds.length)))) := by
                have hxl : x.cells.toList.length = ys.length := by simpa using hn
                refine ⟨h0, fun l' hl' => ?_, ?_, fun i' l' j d h1 h2 => ?_⟩
                · rcases List.mem_or_eq_of_mem_set hl' with h | rfl
                  · exact hk l' h
                  · simp; omega
                · simp only [List.length_set, List.size_toArray, List.length_append, List.length_take, List.length_drop, hxl, Array.length_toList]; omega
                · rw [List.getElem?_set] at h1
                  by_cases hii : i = i'
                  · subst hii
                    rw [if_pos rfl, if_pos hi] at h1
                    cases h1
                    have hj : j < k := by
                      rcases Nat.lt_or_ge j k with h | h
                      · exact h
                      · rw [List.getElem?_eq_none (by simp; omega)] at h2; cases h2
                    simp only [List.getElem?_toArray]
                    rcases Nat.lt_or_ge j off with hjo | hjo
                    · rw [List.append_assoc, List.getElem?_append_left (by simp; omega), List.getElem?_take, if_pos hjo] at h2
                      obtain ⟨v, p, q⟩ := hall i l j d he h2
                      refine ⟨v, ?_, q⟩
                      rw [List.append_assoc, List.getElem?_append_left (by simp; omega), List.getElem?_take, if_pos (by omega)]
                      simpa using p
                    · rcases Nat.lt_or_ge j (off + ds.length) with hjd | hjd
                      · rw [List.append_assoc, List.getElem?_append_right (by simp; omega), List.length_take, Nat.min_eq_left (by omega), List.getElem?_append_left (by omega)] at h2
                        obtain ⟨v, p, q⟩ := hrep.get_right h2
                        refine ⟨v, ?_, q⟩
                        have hvl : vals.toList.length = vals.size := Array.length_toList
                        rw [List.append_assoc, List.getElem?_append_right (by simp; omega), List.length_take, Nat.min_eq_left (by omega), List.getElem?_append_left (by omega)]
                        rw [← p]; congr 1; omega
                      · rw [List.getElem?_append_right (by simp; omega), List.getElem?_drop] at h2
                        have e1 : off + ds.length + (j - (List.take off l ++ ds).length) = j := by simp; omega
                        rw [e1] at h2
                        obtain ⟨v, p, q⟩ := hall i l j d he h2
                        refine ⟨v, ?_, q⟩
                        rw [List.getElem?_append_right (by simp; omega), List.getElem?_drop]
                        have e2 : (bs β id + (i * k + off)) + ys.length + (bs β id + (i * k + j) - (List.take (bs β id + (i * k + off)) vals.toList ++ x.cells.toList).length) = bs β id + (i * k + j) := by simp; omega
                        rw [e2]
                        simpa using p
                  · rw [if_neg hii] at h1
                    obtain ⟨v, p, q⟩ := hall i' l' j d h1 h2
                    refine ⟨v, ?_, q⟩
                    simp only [List.getElem?_toArray]
                    have hlk' := hk l' (List.mem_of_getElem? h1)
                    have hj : j < k := by
                      rcases Nat.lt_or_ge j k with h | h
                      · exact h
                      · rw [List.getElem?_eq_none (by omega)] at h2; cases h2
                    rcases Nat.lt_or_gt_of_ne hii with hlt | hgt
                    · have : i * k + k ≤ i' * k := by rw [← Nat.succ_mul]; exact Nat.mul_le_mul_right k hlt
                      rw [List.getElem?_append_right (by simp; omega), List.getElem?_drop]
                      have e2 : (bs β id + (i * k + off)) + ys.length + (bs β id + (i' * k + j) - (List.take (bs β id + (i * k + off)) vals.toList ++ x.cells.toList).length) = bs β id + (i' * k + j) := by simp; omega
                      rw [e2]
                      simpa using p
                    · have : i' * k + k ≤ i * k := by rw [← Nat.succ_mul]; exact Nat.mul_le_mul_right k hgt
                      rw [List.append_assoc, List.getElem?_append_left (by simp; omega), List.getElem?_take, if_pos (by omega)]
                      simpa using p
              obtain ⟨h3, h4⟩ := sim_set (o' := .arr k (els.set i (l.take off ++ ds ++ l.drop (off + ds.length)))) (vals' := (vals.toList.take (bs β id + (i * k + off)) ++ x.cells.toList ++ vals.toList.drop ((bs β id + (i * k + off)) + ys.length)).toArray) (w' := w.setRow (β id) (vals.toList.take (bs β id + (i * k + off)) ++ x.cells.toList ++ vals.toList.drop ((bs β id + (i * k + off)) + ys.length)).toArray) hS1 hl1 rfl rfl (by simp [shO]) hb (setRow_heap w _ _ _ ty _ hb)
                (by simp; omega) (setRow_size _ _ _) (fun b hb => setRow_other _ _ _ _ hb) rfl rfl rfl hcont
              refine ⟨_, _, ⟨by rw [updL_append]; exact h3, by rw [updL_append]; exact st1.trans h4⟩, .inr ⟨?_, rfl⟩⟩
              simp [Instr.storeAt, Instr.sureAddr, hrun]
        | _ => simp [hl] at h
    · cases h
end
end Go.Proofs.YteenjodhmppgjaaGreatDoor.Am
end
section
/- The abstract machine: each operation is sound, second part. -/
namespace Go.Proofs.YteenjodhmppgjaaGreatDoor.Am
open Go
section
variable {P : Program} {w : World} {F : Nat → Prop} {β : Int → Nat} {look : Look}
theorem num_rep {v : V} {x : Value} {n : Int} (h : RVs w F β look x v) (hn : num v = some n) : ∃ k, x = .int k n ∧ v = .c (.d (.v (.int k n))) := by
  unfold num at hn
  split at hn
  · rename_i k m
    cases hn
    exact ⟨k, (rv_v h).1, rfl⟩
  · cases hn
theorem fieldT_some {t : TypeId} {i off u : Nat} (h : fieldT P t i = some (off, u)) : ∃ fs : Array Field, ∃ f : Field, P.underlying t = some (.struct fs) ∧ fs[i]? = some f ∧ f.offset = off ∧ f.type = u := by
  unfold fieldT at h
  split at h
  · rename_i fs hu
    cases hf : fs[i]? with
    | none => simp [hf] at h
    | some f => simp [hf] at h; exact ⟨fs, f, hu, hf, h.1, h.2⟩
  · cases h
theorem run_fieldAt {t : TypeId} {b o i off u n : Nat} (hf : fieldT P t i = some (off, u)) (hs : sizeT P u = some n) (hn : 0 < n) :
    (Instr.fieldAt t (.pointer (some ⟨b, o, none⟩)) i).run P w = .ok (.pointer (some ⟨b, o + off, none⟩)) w := by
  obtain ⟨fs, f, h1, h2, rfl, rfl⟩ := fieldT_some hf
  have hn' : ¬ n = 0 := by omega
  simp [Instr.fieldAt, run_underlying h1, h2, Instr.sureAddr, fieldPlace, run_sizeOf hs, hn', add_at]
theorem fieldAddr_runs (hS : Sim w F β look) {t : TypeId} {i : Nat} {x : Value} {v : V} (hx : RVs w F β look x v) {e : Eff} (h : fieldAddrA P look t v i = some e) :
    Runs w F β look e ((do let v ← Instr.fieldAt t x i; pure (.value v) : Sem Next).run P w) := by
  unfold fieldAddrA at h
  cases hf : fieldT P t i with
  | none => simp [hf] at h
  | some p =>
    obtain ⟨off, u⟩ := p
    cases hs : sizeT P u with
    | none => simp [hf, hs] at h
    | some n =>
      simp only [hf, hs] at h
      split at h
      case isFalse => cases h
      rename_i hn
      split at h
      · rename_i id o
        obtain ⟨h1, rfl⟩ := hx
        exact Runs.eff hS h (x := .pointer (some ⟨β id, o + off, none⟩)) (by rw [Sem.run_bind, run_fieldAt hf hs hn]; rfl) ⟨h1, rfl⟩
      · rename_i id j o
        cases hl : look id with
        | none => simp [hl] at h
        | some q =>
        cases q <;> simp only [hl] at h <;> try (cases h; done)
        rcases hx with ⟨k, m, h1, rfl⟩ | ⟨h1, h2⟩
        · exact Runs.eff hS h (x := .pointer (some ⟨β id, bs β id + (j * k + o) + off, none⟩)) (by rw [Sem.run_bind, run_fieldAt hf hs hn]; rfl) (.inl ⟨k, m, h1, by simp only [Nat.add_assoc]⟩)
        · simp [shL, hl, shO] at h1
      · rename_i k els j o
        obtain ⟨b, o', cap, h1, h2, rfl⟩ := hx
        exact Runs.eff hS h (x := .pointer (some ⟨b, o' + j * k + o + off, none⟩)) (by rw [Sem.run_bind, run_fieldAt hf hs hn]; rfl) ⟨b, o', cap, h1, h2, by rw [Nat.add_assoc (o' + j * k)]⟩
      · cases h

theorem field_runs (hS : Sim w F β look) {t : TypeId} {i : Nat} {x : Value} {v : V} (hx : RVs w F β look x v) {e : Eff} (h : fieldA P t v i = some e) :
    Runs w F β look e ((do let v ← Instr.field t x i; pure (.value v) : Sem Next).run P w) := by
  unfold fieldA at h
  cases hf : fieldT P t i with
  | none => simp [hf] at h
  | some p =>
    obtain ⟨off, u⟩ := p
    simp only [hf] at h
    split at h
    · rename_i cs
      cases hc : cutC P u cs off with
      | none => simp [hc] at h
      | some y =>
        simp only [hc] at h
        obtain ⟨a, rfl, hall⟩ := hx
        obtain ⟨fs, f, h1, h2, rfl, rfl⟩ := fieldT_some hf
        obtain ⟨z, h3, h4⟩ := run_cutpart (P := P) (w := w) hall hc
        exact Runs.eff hS h (x := z) (by simp [Instr.field, run_underlying h1, h2, asAgg, h3]) h4
    · cases h
theorem indexAddr_runs (hS : Sim w F β look) {t : TypeId} {x i : Value} {v vi : V} (hx : RVs w F β look x v) (hi : RVs w F β look i vi) {e : Eff} (h : indexAddrA P look t v vi = some e) :
    Runs w F β look e ((do let v ← Instr.indexAt t x i; pure (.value v) : Sem Next).run P w) := by
  unfold indexAddrA at h
  cases hn : num vi with
  | none => simp [hn] at h
  | some n =>
    obtain ⟨kk, rfl, rfl⟩ := num_rep hi hn
    simp only [hn] at h
    split at h
    · rename_i el hu
      cases hs : sizeT P el with
      | none => simp [hs] at h
      | some k =>
        simp only [hs] at h
        split at h
        · rename_i k' els
          split at h
          case isFalse => cases h
          rename_i hh
          obtain ⟨rfl, h0, h1⟩ := hh
          have hr : RepD w (Nn w F β look) x (.s k' els) := hx
          rcases RepD.inv hr with ⟨rfl, _⟩ | ⟨b, o, cap, c, rfl, hrest⟩
          · simp at h1; omega
          · have hlt : n.toNat < els.length := by omega
            exact Runs.eff hS h (x := .pointer (some ⟨b, o + n.toNat * k', none⟩)) (by simp [Instr.indexAt, asIntOf, run_underlying hu, run_sizeOf hs, h0, h1, add_at]) ⟨b, o, cap, hr, hlt, by simp⟩
        · rename_i id
          cases hl : look id with
          | none => simp [hl] at h
          | some q =>
            cases q with
            | arr k' els =>
              simp only [hl] at h
              split at h
              case isFalse => cases h
              rename_i hh
              obtain ⟨rfl, h0, h1⟩ := hh
              have hsh : shL look id = some (.arr k' els.length) := by simp [shL, hl, shO]
              rcases hx with ⟨k2, m, cap, h2, rfl, _⟩ | ⟨h2, _⟩ | ⟨k2, m, cap, h2, _⟩
              rotate_left 2
              · rw [hsh] at h2; cases h2
              · rw [hsh] at h2
                cases h2
                exact Runs.eff hS h (x := .pointer (some ⟨β id, bs β id + n.toNat * k', none⟩)) (by simp [Instr.indexAt, asIntOf, run_underlying hu, run_sizeOf hs, h0, h1, add_at]) (.inl ⟨k', els.length, hsh, by simp⟩)
              · rw [hsh] at h2; cases h2
            | _ => simp [hl] at h
        · cases h
    · rename_i len el hu
      cases hs : sizeT P el with
      | none => simp [hs] at h
      | some k =>
        simp only [hs] at h
        split at h
        · rename_i id o
          split at h
          case isFalse => cases h
          rename_i hh
          obtain ⟨h0, h1, _⟩ := hh
          obtain ⟨h2, rfl⟩ := hx
          exact Runs.eff hS h (x := .pointer (some ⟨β id, o + n.toNat * k, none⟩)) (by simp [Instr.indexAt, asIntOf, run_underlying hu, Instr.sureAddr, run_sizeOf hs, h0, h1, add_at]) ⟨h2, rfl⟩
        · rename_i k' els j o
          split at h
          case isFalse => cases h
          rename_i hh
          obtain ⟨h0, h1, _⟩ := hh
          obtain ⟨b, o', cap, h2, h3, rfl⟩ := hx
          exact Runs.eff hS h (x := .pointer (some ⟨b, o' + j * k' + o + n.toNat * k, none⟩)) (by simp [Instr.indexAt, asIntOf, run_underlying hu, Instr.sureAddr, run_sizeOf hs, h0, h1, add_at]) ⟨b, o', cap, h2, h3, by rw [Nat.add_assoc (o' + j * k')]⟩
        · cases h
    · cases h
theorem index_runs (hS : Sim w F β look) {t : TypeId} {x i : Value} {v vi : V} (hx : RVs w F β look x v) (hi : RVs w F β look i vi) {e : Eff} (h : indexA P t v vi = some e) :
    Runs w F β look e ((do let v ← Instr.index t x i; pure (.value v) : Sem Next).run P w) := by
  unfold indexA at h
  cases hn : num vi with
  | none => simp [hn] at h
  | some n =>
    obtain ⟨kk, rfl, rfl⟩ := num_rep hi hn
    simp only [hn] at h
    split at h
    · rename_i hu
      split at h
      · rename_i s
        split at h
        case isFalse => cases h
        rename_i h0
        cases hb : s[n.toNat]? with
        | none => simp [hb] at h
        | some b =>
          simp only [hb] at h
          obtain ⟨rfl, _⟩ := rv_v hx
          exact Runs.eff hS h (x := .int .u8 b.toNat) (by simp [Instr.index, asIntOf, run_underlying hu, h0, hb]) rv_int
      · cases h
    · cases h
theorem bin_int {op : BinOp} {t : TypeId} {k : IntKind} {a b : Int} {v : V} (hi : intOp op k a b = some v) : ∃ x, v = .c (.d (.v x)) ∧ cellB x = true ∧ (binOp op t (.int k a) (.int k b)).run P w = .ok x w := by
  cases op with
  | add => cases hi; exact ⟨_, rfl, rfl, by rw [binOp_add]; rfl⟩
  | sub => cases hi; exact ⟨_, rfl, rfl, by rw [binOp_sub]; rfl⟩
  | mul => cases hi; exact ⟨_, rfl, rfl, by rw [binOp_mul]; rfl⟩
  | and => cases hi; exact ⟨_, rfl, rfl, by simp only [binOp]; rw [if_neg (by simp)]; rfl⟩
  | or => cases hi; exact ⟨_, rfl, rfl, by simp only [binOp]; rw [if_neg (by simp)]; rfl⟩
  | quo =>
    simp only [intOp] at hi
    by_cases hb : b = 0
    · rw [if_pos hb] at hi; cases hi
    · rw [if_neg hb] at hi; cases hi; exact ⟨_, rfl, rfl, by rw [binOp_quo]; simp only [Op.intDiv]; rw [if_neg hb]; rfl⟩
  | rem =>
    simp only [intOp] at hi
    by_cases hb : b = 0
    · rw [if_pos hb] at hi; cases hi
    · rw [if_neg hb] at hi; cases hi; exact ⟨_, rfl, rfl, by rw [binOp_rem]; simp only [Op.intDiv]; rw [if_neg hb]; rfl⟩
  | eql => cases hi; exact ⟨_, rfl, rfl, by rw [binOp_eql]; rfl⟩
  | neq => cases hi; exact ⟨_, rfl, rfl, by rw [binOp_neq]; rfl⟩
  | lss => cases hi; exact ⟨_, rfl, rfl, by rw [binOp_lss]; rfl⟩
  | leq => cases hi; exact ⟨_, rfl, rfl, by rw [binOp_leq]; rfl⟩
  | gtr => cases hi; exact ⟨_, rfl, rfl, by rw [binOp_gtr]; rfl⟩
  | geq => cases hi; exact ⟨_, rfl, rfl, by rw [binOp_geq]; rfl⟩
  | _ => cases hi
theorem bin_str {op : BinOp} {t : TypeId} {a b : ByteArray} {v : V} (hi : strOp op a b = some v) : ∃ x, v = .c (.d (.v x)) ∧ cellB x = true ∧ (binOp op t (.string a) (.string b)).run P w = .ok x w := by
  cases op with
  | add =>
    simp only [strOp] at hi
    by_cases hb : ((a.size + b.size : Nat) : Int) > IntKind.i64.max
    · rw [if_pos hb] at hi; cases hi
    · rw [if_neg hb] at hi; cases hi
      refine ⟨_, rfl, rfl, ?_⟩
      show (Op.stringOp .add a b).run P w = _
      simp only [Op.stringOp]; rw [if_neg hb]; rfl
  | eql => cases hi; exact ⟨_, rfl, rfl, rfl⟩
  | neq => cases hi; exact ⟨_, rfl, rfl, rfl⟩
  | lss => cases hi; exact ⟨_, rfl, rfl, rfl⟩
  | leq => cases hi; exact ⟨_, rfl, rfl, rfl⟩
  | gtr => cases hi; exact ⟨_, rfl, rfl, rfl⟩
  | geq => cases hi; exact ⟨_, rfl, rfl, rfl⟩
  | _ => cases hi
theorem bin_runs (hS : Sim w F β look) {op : BinOp} {t : TypeId} {ox oy : Operand} {x y : Value} {vx vy : V} (hx : RVs w F β look x vx) (hy : RVs w F β look y vy) {e : Eff} (h : binA P op t vx vy = some e) :
    Runs w F β look e ((do let v ← (do eqGuard op t ox oy x y; binOp op t x y); pure (.value v) : Sem Next).run P w) := by
  unfold binA at h
  split at h
  · rename_i k a k' b
    split at h
    case isFalse => cases h
    rename_i hk
    subst hk
    obtain ⟨rfl, _⟩ := rv_v hx
    obtain ⟨rfl, _⟩ := rv_v hy
    have hg : eqGuard op t ox oy (.int k a) (.int k b) = pure () := by cases op <;> rfl
    cases hi : intOp op k a b with
    | none => simp [hi] at h
    | some v =>
      simp only [hi] at h
      obtain ⟨x, rfl, hc, hr⟩ := bin_int (P := P) (w := w) (t := t) hi
      exact Runs.eff hS h (x := x) (by rw [hg, pure_bind, Sem.run_bind, hr]; rfl) (RepD.v hc)
  · rename_i a b
    obtain ⟨rfl, _⟩ := rv_v hx
    obtain ⟨rfl, _⟩ := rv_v hy
    have hg : eqGuard op t ox oy (.string a) (.string b) = pure () := by cases op <;> rfl
    cases hi : strOp op a b with
    | none => simp [hi] at h
    | some v =>
      simp only [hi] at h
      obtain ⟨x, rfl, hc, hr⟩ := bin_str (P := P) (w := w) (t := t) hi
      exact Runs.eff hS h (x := x) (by rw [hg, pure_bind, Sem.run_bind, hr]; rfl) (RepD.v hc)
  · rename_i a b
    obtain ⟨rfl, _⟩ := rv_v hx
    obtain ⟨rfl, _⟩ := rv_v hy
    have he : ∀ hu : P.underlying t = some .bool, (Op.equal t (.bool a) (.bool b)).run P w = .ok (a == b) w := by
      intro hu
      unfold Op.equal Op.maxDepth
      rw [Op.equalIn, Sem.run_bind, run_underlying hu]
      rfl
    have hg : eqGuard op t ox oy (.bool a) (.bool b) = pure () := by cases op <;> rfl
    split at h
    · rename_i hu
      refine Runs.eff hS h (x := .bool (a == b)) ?_ (RepD.v rfl)
      rw [hg, pure_bind, Sem.run_bind]
      show (((Op.equal t (.bool a) (.bool b) >>= fun r => pure (.bool r) : Sem Value).run P w).andThen _) = _
      rw [Sem.run_bind, he hu]; rfl
    · rename_i hu
      refine Runs.eff hS h (x := .bool (!(a == b))) ?_ (RepD.v rfl)
      rw [hg, pure_bind, Sem.run_bind]
      show (((Op.equal t (.bool a) (.bool b) >>= fun r => pure (.bool (!r)) : Sem Value).run P w).andThen _) = _
      rw [Sem.run_bind, he hu]; rfl
    · cases h
  · cases h
theorem un_runs (hS : Sim w F β look) {op : UnOp} {x : Value} {v : V} (hx : RVs w F β look x v) {e : Eff} (h : unA op v = some e) :
    Runs w F β look e ((do let v ← Op.unary op x; pure (.value v) : Sem Next).run P w) := by
  unfold unA at h
  split at h
  · obtain ⟨rfl, _⟩ := rv_v hx
    exact Runs.eff hS h (by simp [Op.unary]) (RepD.v rfl)
  · obtain ⟨rfl, _⟩ := rv_v hx
    refine Runs.eff hS h (by simp only [Op.unary, Op.intArith]; rfl) (RepD.v rfl)
  · cases h
theorem convert_runs (hS : Sim w F β look) {s d : TypeId} {x : Value} {v : V} (hx : RVs w F β look x v) {e : Eff} (h : convertA P s d v = some e) :
    Runs w F β look e ((do let v ← convert s d x; pure (.value v) : Sem Next).run P w) := by
  unfold convertA at h
  split at h
  · rename_i k1 k2 k3 n h1 h2
    obtain ⟨rfl, _⟩ := rv_v hx
    exact Runs.eff hS h (x := .int k2 (k2.wrap n)) (by simp [convert, run_underlying h1, run_underlying h2, Conv.intToInt]) (RepD.v rfl)
  · rename_i s' h1 h2
    obtain ⟨rfl, _⟩ := rv_v hx
    exact Runs.eff hS h (x := .string s') (by simp [convert, run_underlying h1, run_underlying h2]) (RepD.v rfl)
  · cases h
theorem plainC_rep {N : Nat → Prop} {sh : Nat → Option Sh} {x y : Value} {c : C} (h : RC w N β sh x c) (hp : plainC c = some y) : x = y ∧ cellB y = true := by
  unfold plainC at hp
  split at hp
  · cases hp
    cases h with
    | v h => exact ⟨rfl, h⟩
  · cases hp
theorem plainV_rep {x y : Value} {v : V} (h : RVs w F β look x v) (hp : plainV v = some y) : x = y := by
  cases v with
  | c c => exact (plainC_rep (N := Nn w F β look) (sh := shL look) h hp).1
  | agg cs =>
    obtain ⟨a, rfl, hall⟩ := h
    simp only [plainV] at hp
    cases hm : mapO plainC cs with
    | none => simp [hm] at hp
    | some l =>
      simp only [hm, Option.some.injEq] at hp
      subst hp
      have key : ∀ (cs : List C) (vs l : List Value), All2 (RK w (Nn w F β look) β (shL look)) vs cs → mapO plainC cs = some l → vs = l := by
        intro cs
        induction cs with
        | nil => intro vs l h hm; cases h; simp only [mapO, Option.some.injEq] at hm; exact hm
        | cons c cs ih =>
          intro vs l h hm
          cases h with
          | cons h1 h2 =>
            simp only [mapO] at hm
            cases e1 : plainC c with
            | none => simp [e1] at hm
            | some y =>
              cases e2 : mapO plainC cs with
              | none => simp [e1, e2] at hm
              | some ys =>
                simp only [e1, e2, Option.some.injEq] at hm
                subst hm
                rw [(plainC_rep h1.2 e1).1, ih _ _ h2 e2]
      rw [← key cs _ l hall hm]
  | tup vs => cases hp
theorem nilEq_eff {op : BinOp} {b : Bool} {e : Eff} (h : nilEq op b = some e) : (op = .eql ∧ e = ⟨.val (.c (.d (.v (.bool b)))), [], []⟩) ∨ (op = .neq ∧ e = ⟨.val (.c (.d (.v (.bool (!b))))), [], []⟩) := by
  cases op <;> simp only [nilEq, eff] at h <;> first | (cases h; exact .inl ⟨rfl, rfl⟩) | (cases h; exact .inr ⟨rfl, rfl⟩) | cases h
/-- A comparison that the model's 'equal' settles. -/
theorem nilEq_runs (hS : Sim w F β look) {op : BinOp} {t : TypeId} {ox oy : Operand} {x y : Value} {b : Bool} {e : Eff} (h : nilEq op b = some e) (hg : (eqGuard op t ox oy x y).run P w = .ok () w) (he : (Op.equal t x y).run P w = .ok b w)
    (h1 : binOp .eql t x y = (do pure (.bool (← Op.equal t x y)))) (h2 : binOp .neq t x y = (do pure (.bool (!(← Op.equal t x y))))) :
    Runs w F β look e ((do let v ← (do eqGuard op t ox oy x y; binOp op t x y); pure (.value v) : Sem Next).run P w) := by
  rcases nilEq_eff h with ⟨rfl, rfl⟩ | ⟨rfl, rfl⟩
  · refine Runs.pure hS (x := .bool b) ?_ (RepD.v rfl)
    simp only [Sem.run_bind, hg, Result.andThen_ok, h1, he, Sem.run_pure]
  · refine Runs.pure hS (x := .bool (!b)) ?_ (RepD.v rfl)
    simp only [Sem.run_bind, hg, Result.andThen_ok, h2, he, Sem.run_pure]
theorem iface_of {t : TypeId} (h : isIfaceT P t = true) : ∃ ms, P.underlying t = some (.interface ms) := by
  unfold isIfaceT at h
  split at h
  · exact ⟨_, by assumption⟩
  · cases h
theorem slice_of {t : TypeId} (h : isSliceT P t = true) : ∃ e, P.underlying t = some (.slice e) := by
  unfold isSliceT at h
  split at h
  · exact ⟨_, by assumption⟩
  · cases h
theorem ptr_of {t : TypeId} (h : isPtrT P t = true) : ∃ e, P.underlying t = some (.pointer e) := by
  unfold isPtrT at h
  split at h
  · exact ⟨_, by assumption⟩
  · cases h
theorem rd_inv {v : Value} {N : Nat → Prop} {t : TypeId} {xs : List D} (h : RepD w N v (.i t xs)) : ∃ a, v = .iface t (.agg a) := by cases h with | i _ _ => exact ⟨_, rfl⟩
theorem rd_cons {v : Value} {N : Nat → Prop} {k : Nat} {l : List D} {els : List (List D)} (h : RepD w N v (.s k (l :: els))) : ∃ a n c, v = .slice (some a) n c := by cases h with | s c _ _ _ _ _ => exact ⟨_, _, _, rfl⟩
theorem eqFs_runs {N : Nat → Prop} {sh : Nat → Option Sh} {d : Nat} {xs ys : Array Value} {cs ds : List C} (hx : All2 (RK w N β sh) xs.toList cs) (hy : All2 (RK w N β sh) ys.toList ds) : ∀ {fs : List Field} {b : Bool}, eqFs P cs ds fs = some b → (Op.eqFields (d + 1) xs ys fs).run P w = .ok b w
  | [], b, h => by simp only [eqFs, Option.some.injEq] at h; subst h; rfl
  | f :: r, b, h => by
    simp only [eqFs] at h
    split at h
    case isFalse => cases h
    rename_i hne
    split at h
    case h_2 => cases h
    rename_i k hu
    split at h
    case h_2 => cases h
    rename_i k1 a hc
    split at h
    case h_2 => cases h
    rename_i k2 b2 hd
    split at h
    case isFalse => cases h
    rename_i hk
    obtain ⟨rfl, rfl⟩ := hk
    have hag : aggT P f.type = some false := by unfold aggT; rw [hu]
    have part_of : ∀ {zs : Array Value} {es : List C} {n : Int} {k : IntKind}, All2 (RK w N β sh) zs.toList es → es[f.offset]? = some (.d (.v (.int k n))) → (part f.type zs f.offset).run P w = .ok (.int k n) w := by
      intro zs es n k hz he
      obtain ⟨v, p, q⟩ := hz.get_right he
      obtain ⟨_, q2⟩ := q
      cases q2 with
      | v _ =>
        have : zs[f.offset]? = some (.int k n) := by simpa using p
        unfold part
        rw [Sem.run_bind, run_isAgg hag]
        simp [this]
    cases hr : eqFs P cs ds r with
    | none => simp [hr] at h
    | some t =>
      simp only [hr, Option.some.injEq] at h
      subst h
      have ih := eqFs_runs (d := d) hx hy hr
      simp only [Op.eqFields]
      rw [if_pos hne, Sem.run_bind, part_of hx hc, Result.andThen_ok, Sem.run_bind, part_of hy hd, Result.andThen_ok, Sem.run_bind, run_equalIn_int w d f.type _ _ _ _ hu, Result.andThen_ok]
      cases hab : (a == b2)
      · simp
      · simpa using ih
theorem binB_runs (hS : Sim w F β look) {op : BinOp} {t : TypeId} {ox oy : Operand} {x y : Value} {vx vy : V} (hx : RVs w F β look x vx) (hy : RVs w F β look y vy) {e : Eff} (h : binB P op t (constB ox || constB oy) vx vy = some e) :
    Runs w F β look e ((do let v ← (do eqGuard op t ox oy x y; binOp op t x y); pure (.value v) : Sem Next).run P w) := by
  unfold binB at h
  split at h
  · rename_i cs
    split at h
    case h_2 => cases h
    rename_i ds
    obtain ⟨xs, rfl, hxs⟩ := hx
    obtain ⟨ys, rfl, hys⟩ := hy
    unfold structA at h
    split at h
    case isFalse => cases h
    rename_i hpl
    simp only [plainEq, Bool.and_eq_true, Bool.not_eq_true'] at hpl
    obtain ⟨hp1, hp2⟩ := hpl
    split at h
    case h_2 => cases h
    rename_i fs hu
    split at h
    case h_2 => cases h
    rename_i b hb
    have hf : P.fieldsOf t = fs := by unfold Program.fieldsOf; rw [hu]
    refine nilEq_runs hS h (run_eqGuard_agg w op t ox oy xs ys hp2) ?_ (by simp only [binOp]) (by simp only [binOp])
    show (Op.equalIn 10000 t (.agg xs) (.agg ys)).run P w = _
    rw [run_equalIn_agg w 9999 t xs ys (by rw [hf]; exact hu) hp1, hf]
    exact eqFs_runs hxs hys hb
  · split at h
    case h_2 => cases h
    split at h
    case isFalse => cases h
    rename_i ht
    obtain ⟨a, rfl⟩ := rd_inv hx
    obtain ⟨rfl, _⟩ := rv_v hy
    obtain ⟨ms, hu⟩ := iface_of ht
    refine nilEq_runs hS h ?_ ?_ (by simp only [binOp]) (by simp only [binOp])
    · cases op <;> rfl
    · unfold Op.equal Op.maxDepth; rw [Op.equalIn, Sem.run_bind, run_underlying hu]; rfl
  · split at h
    case h_2 => cases h
    split at h
    case isFalse => cases h
    rename_i ht
    obtain ⟨rfl, _⟩ := rv_v hx
    obtain ⟨rfl, _⟩ := rv_v hy
    obtain ⟨ms, hu⟩ := iface_of ht
    refine nilEq_runs hS h ?_ ?_ (by simp only [binOp]) (by simp only [binOp])
    · cases op <;> rfl
    · unfold Op.equal Op.maxDepth; rw [Op.equalIn, Sem.run_bind, run_underlying hu]; rfl
  · split at h
    case h_2 => cases h
    split at h
    case isFalse => cases h
    rename_i ht
    obtain ⟨ht, hc⟩ := ht
    obtain ⟨rfl, _⟩ := rv_v hx
    obtain ⟨rfl, _⟩ := rv_v hy
    obtain ⟨ms, hu⟩ := iface_of ht
    refine nilEq_runs hS h ?_ ?_ (by simp only [binOp]) (by simp only [binOp])
    · cases ox <;> cases oy <;> first | (cases hc; done) | (cases op <;> simp [eqGuard])
    · unfold Op.equal Op.maxDepth; rw [Op.equalIn, Sem.run_bind, run_underlying hu]; rfl
  · split at h
    case h_2 => cases h
    split at h
    case isFalse => cases h
    rename_i a _ _ _ ht
    obtain ⟨rfl, _⟩ := rv_v hx
    obtain ⟨rfl, _⟩ := rv_v hy
    obtain ⟨ms, hu⟩ := slice_of ht
    refine nilEq_runs hS h ?_ ?_ (by simp only [binOp]) (by simp only [binOp])
    · cases op <;> rfl
    · unfold Op.equal Op.maxDepth; rw [Op.equalIn, Sem.run_bind, run_underlying hu]; cases a <;> rfl
  · split at h
    case h_2 => cases h
    split at h
    case isFalse => cases h
    rename_i ht
    obtain ⟨a, n, c, rfl⟩ := rd_cons hx
    obtain ⟨rfl, _⟩ := rv_v hy
    obtain ⟨ms, hu⟩ := slice_of ht
    refine nilEq_runs hS h ?_ ?_ (by simp only [binOp]) (by simp only [binOp])
    · cases op <;> rfl
    · unfold Op.equal Op.maxDepth; rw [Op.equalIn, Sem.run_bind, run_underlying hu]; rfl
  · split at h
    case h_2 => cases h
    split at h
    case isFalse => cases h
    rename_i ht
    obtain ⟨_, rfl⟩ := hx
    obtain ⟨rfl, _⟩ := rv_v hy
    obtain ⟨ms, hu⟩ := ptr_of ht
    refine nilEq_runs hS h ?_ ?_ (by simp only [binOp]) (by simp only [binOp])
    · cases op <;> rfl
    · unfold Op.equal Op.maxDepth; rw [Op.equalIn, Sem.run_bind, run_underlying hu]; rfl
  · split at h
    case h_2 => cases h
    split at h
    case isFalse => cases h
    rename_i a _ ht
    obtain ⟨rfl, _⟩ := rv_v hx
    obtain ⟨rfl, _⟩ := rv_v hy
    obtain ⟨ms, hu⟩ := ptr_of ht
    refine nilEq_runs hS h ?_ ?_ (by simp only [binOp]) (by simp only [binOp])
    · cases op <;> rfl
    · unfold Op.equal Op.maxDepth; rw [Op.equalIn, Sem.run_bind, run_underlying hu]; cases a <;> rfl
  · exact bin_runs hS hx hy h
theorem boK_some {op : BinOp} {s : Bool} {id : Nat} {o : Option O} {e : Eff} (h : boK op s id o = some e) : ((∃ k els, o = some (.arr k els)) ∨ ∃ k els c r, o = some (.stk k els c r)) ∧ s = true ∧ ∃ e0, nilEq op false = some e0 ∧ e = { e0 with rd := [id] } := by
  unfold boK at h
  split at h
  · rename_i k els
    split at h
    case isFalse => cases h
    rename_i hs
    obtain ⟨e0, h1, h2⟩ := Option.map_eq_some_iff.1 h
    exact ⟨.inl ⟨k, els, rfl⟩, hs, e0, h1, h2.symm⟩
  · rename_i k els c r
    split at h
    case isFalse => cases h
    rename_i hs
    obtain ⟨e0, h1, h2⟩ := Option.map_eq_some_iff.1 h
    exact ⟨.inr ⟨k, els, c, r, rfl⟩, hs, e0, h1, h2.symm⟩
  · cases h
theorem Runs.rd {look : Look} {e : Eff} {rd : List Nat} {r : Result Next} (h : Runs w F β look e r) : Runs w F β look { e with rd := rd } r := h
theorem binL_runs (hS : Sim w F β look) {op : BinOp} {t : TypeId} {ox oy : Operand} {x y : Value} {vx vy : V} (hx : RVs w F β look x vx) (hy : RVs w F β look y vy) {e : Eff} (h : binL P look op t (constB ox || constB oy) vx vy = some e) :
    Runs w F β look e ((do let v ← (do eqGuard op t ox oy x y; binOp op t x y); pure (.value v) : Sem Next).run P w) := by
  unfold binL at h
  split at h
  · rename_i id
    obtain ⟨ho, ht, e0, h1, rfl⟩ := boK_some h
    obtain ⟨rfl, _⟩ := rv_v hy
    have hv : ∃ a n c, x = .slice (some a) n c := by
      rcases hx with ⟨k, n, cap, _, rfl, _⟩ | ⟨hg, _⟩ | ⟨k, n, cap, _, rfl, _⟩
      · exact ⟨_, _, _, rfl⟩
      · exfalso
        unfold shL at hg
        rcases ho with ⟨k, els, e⟩ | ⟨k, els, c, r, e⟩ <;> (rw [e] at hg; cases hg)
      · exact ⟨_, _, _, rfl⟩
    obtain ⟨a, n, c, rfl⟩ := hv
    obtain ⟨ms, hu⟩ := slice_of ht
    refine Runs.rd (nilEq_runs hS h1 ?_ ?_ (by simp only [binOp]) (by simp only [binOp]))
    · cases op <;> rfl
    · unfold Op.equal Op.maxDepth; rw [Op.equalIn, Sem.run_bind, run_underlying hu]; rfl
  · exact binB_runs hS hx hy h
theorem makeInterface_runs (hS : Sim w F β look) {t : TypeId} {x : Value} {v : V} (hx : RVs w F β look x v) {e : Eff} (h : makeInterfaceA P look t v = some e) :
    Runs w F β look e ((do let v ← Instr.makeInterface t x; pure (.value v) : Sem Next).run P w) := by
  unfold makeInterfaceA at h
  cases hu : P.underlying t with
  | none => simp [hu] at h
  | some d =>
    have : (match d with | .interface _ => True | _ => False) ∨ (Instr.makeInterface t x).run P w = .ok (.iface t x) w := by
      cases d <;> first | exact .inl trivial | (right; simp [Instr.makeInterface, run_underlying hu])
    rcases this with h1 | h1
    · cases d <;> simp_all
    · have hp : (∃ y, plainV v = some y ∧ eff (.c (.d (.v (.iface t y)))) = some e) ∨ ifaceD look t v = some e := by
        cases d <;> first | (simp [hu] at h; done) | (simp only [hu] at h; split at h; (rename_i y hy; exact .inl ⟨y, hy, h⟩); exact .inr h)
      rcases hp with ⟨y, hy, he⟩ | hp
      · obtain rfl := plainV_rep hx hy
        exact Runs.eff hS he (x := .iface t x) (by simp [h1]) (RepD.v rfl)
      · unfold ifaceD at hp
        split at hp
        · rename_i cs
          cases hd : toDs look cs with
          | none => simp [hd] at hp
          | some p =>
            obtain ⟨ds, own⟩ := p
            simp only [hd, Option.some.injEq] at hp
            subst hp
            obtain ⟨a, rfl, hall⟩ := hx
            have hown := toDs_arr hd
            obtain ⟨hS1, st1⟩ := sim_kills (F := F) own hS (kills_ok hown)
            have hrep := toDs_rep hS hall hd (wide_kills hS hown)
            refine ⟨w, β, ⟨hS1, st1⟩, .inl ⟨.iface t (.agg a), by simp [h1], ?_⟩⟩
            exact RepD.i (by simpa using hrep.length) fun j v x p q => hrep.get (by simpa using p) q
        · exact Runs.eff hS hp (x := .iface t x) (by simp [h1]) trivial
theorem ptrs_rep : ∀ {vs : List V} {us : List Value} {l : List Nat}, All2 (RVs w F β look) us vs → ptrs vs = some l → us = l.map (fun id : Nat => addrV (β id)) ∧ ∀ id ∈ l, shL look id = some .box := by
  intro vs
  induction vs with
  | nil => intro us l h hp; cases h; simp only [ptrs, Option.some.injEq] at hp; subst hp; simp
  | cons v vs ih =>
    intro us l h hp
    cases h with
    | cons h1 h2 =>
      unfold ptrs at hp
      split at hp
      · rename_i heq; cases heq
      · rename_i id r heq
        cases heq
        cases e : ptrs vs with
        | none => simp [e] at hp
        | some l' =>
          simp only [e, Option.some.injEq] at hp
          subst hp
          obtain ⟨a, b⟩ := ih h2 e
          obtain ⟨c, d⟩ := h1
          refine ⟨by rw [a, d]; rfl, fun j hj => ?_⟩
          rcases List.mem_cons.1 hj with rfl | hj
          · exact c
          · exact b j hj
      · cases hp
theorem makeFunc_runs (hS : Sim w F β look) {fn : Fn} {first caps : List Value} {vf vc : List V} (h1 : All2 (RVs w F β look) first vf) (h2 : All2 (RVs w F β look) caps vc) {e : Eff} (h : makeFuncA fn vf vc = some e) :
    Runs w F β look e ((do let v ← Instr.makeFunc fn first.toArray caps.toArray; pure (.value v) : Sem Next).run P w) := by
  unfold makeFuncA at h
  split at h
  · rename_i f a b ha hb
    obtain ⟨rfl, p⟩ := ptrs_rep h1 ha
    obtain ⟨rfl, q⟩ := ptrs_rep h2 hb
    exact Runs.eff hS h (x := .func (.func f) _ _) rfl ⟨rfl, fun id hid => hid.elim (p id) (q id)⟩
  · cases h
theorem extract_runs (hS : Sim w F β look) {i : Nat} {x : Value} {v : V} (hx : RVs w F β look x v) {e : Eff} (h : extractA v i = some e) :
    Runs w F β look e ((do let v ← Instr.extract x i; pure (.value v) : Sem Next).run P w) := by
  unfold extractA at h
  split at h
  · rename_i vs
    obtain ⟨a, rfl, hall⟩ := hx
    cases hp : vs[i]? with
    | none => simp [hp] at h
    | some p =>
      simp only [hp] at h
      obtain ⟨y, h1, h2⟩ := hall.get_right hp
      have h1' : a[i]? = some y := by simpa using h1
      refine Runs.eff hS h (x := y) (by simp [Instr.extract, h1']) ?_
      obtain ⟨b, cs⟩ := p
      cases b with
      | true => obtain ⟨a', rfl, h3⟩ := h2; exact ⟨a', rfl, h3⟩
      | false => obtain ⟨z, h4, h3⟩ := h2; dsimp only at h4; subst h4; exact h3
  · cases h
theorem max_runs (hS : Sim w F β look) {ty : Array TypeId} {t : TypeId} {xs : List Value} {vs : List V} (hx : All2 (RVs w F β look) xs vs) {e : Eff} (h : maxA vs = some e) :
    Runs w F β look e ((do let v ← Builtin.max_ ty t xs.toArray; pure (.value v) : Sem Next).run P w) := by
  unfold maxA at h
  split at h
  · rename_i k x k' y
    cases hx with
    | cons h1 h2 => cases h2 with
      | cons h3 h4 =>
        cases h4
        obtain ⟨rfl, _⟩ := rv_v h1
        obtain ⟨rfl, _⟩ := rv_v h3
        exact Runs.eff hS h (by simp [Builtin.max_, Builtin.max2]) (RepD.v rfl)
  · cases h
theorem min_runs (hS : Sim w F β look) {ty : Array TypeId} {t : TypeId} {xs : List Value} {vs : List V} (hx : All2 (RVs w F β look) xs vs) {e : Eff} (h : minA vs = some e) :
    Runs w F β look e ((do let v ← Builtin.min_ ty t xs.toArray; pure (.value v) : Sem Next).run P w) := by
  unfold minA at h
  split at h
  · rename_i k x k' y
    cases hx with
    | cons h1 h2 => cases h2 with
      | cons h3 h4 =>
        cases h4
        obtain ⟨rfl, _⟩ := rv_v h1
        obtain ⟨rfl, _⟩ := rv_v h3
        exact Runs.eff hS h (by simp [Builtin.min_, Builtin.min2]) (RepD.v rfl)
  · cases h
theorem panic_runs (hS : Sim w F β look) {x : Value} {v : V} (hx : RVs w F β look x v) {e : Eff} (h : panicA v = some e) :
    Runs w F β look e ((do let v ← Instr.panic x; pure (.value v) : Sem Next).run P w) := by
  unfold panicA at h
  split at h
  · cases h
    obtain ⟨rfl, _⟩ := rv_v hx
    exact ⟨w, β, Good.refl hS, by simp [Instr.panic, goPanic]⟩
  · cases h
end
end Go.Proofs.YteenjodhmppgjaaGreatDoor.Am
end
section
/- The abstract machine: each operation is sound, third part: slices. -/
namespace Go.Proofs.YteenjodhmppgjaaGreatDoor.Am
open Go
section
variable {P : Program} {w : World} {F : Nat → Prop} {β : Int → Nat} {look : Look}
theorem own_rep {id k : Nat} {els : List (List D)} {x : Value} (hl : look id = some (.arr k els)) (hx : RVs w F β look x (.c (.own id))) :
    ∃ cap, x = .slice (some ⟨β id, bs β id, none⟩) els.length cap ∧ els.length ≤ cap ∧ ∃ e sz, w.shape? (β id) = some (e, sz) ∧ bs β id + cap * k ≤ sz := by
  have hs : shL look id = some (.arr k els.length) := by simp [shL, hl, shO]
  rcases hx with ⟨k', n, cap, h1, h2, h3, h4⟩ | ⟨h1, _⟩ | ⟨k', n, cap, h1, _⟩
  · rw [hs] at h1; cases h1; exact ⟨cap, h2, h3, h4⟩
  · rw [hs] at h1; cases h1
  · rw [hs] at h1; cases h1
theorem rv_nil {x : Value} (hx : RVs w F β look x (.c (.d (.v (.slice none 0 0))))) : x = .slice none 0 0 := (rv_v hx).1
theorem rv_slice {x : Value} {k : Nat} {els : List (List D)} (hx : RVs w F β look x (.c (.d (.s k els)))) : ∃ a cap, x = .slice a els.length cap := by
  rcases RepD.inv (show RepD w _ x (.s k els) from hx) with ⟨rfl, a, cap, rfl⟩ | ⟨b, o, cap, c, rfl, _⟩
  · exact ⟨a, cap, rfl⟩
  · exact ⟨_, cap, rfl⟩
theorem lenS_runs (hS : Sim w F β look) {t ty : TypeId} (hu : P.underlying t = some .string) {x : Value} {v : V} (hx : RVs w F β look x v) {e : Eff} (h : lenS v = some e) :
    Runs w F β look e ((do let v ← Builtin.len_ #[t] ty #[x]; pure (.value v) : Sem Next).run P w) := by
  unfold lenS at h
  split at h
  · rename_i s
    obtain ⟨rfl, _⟩ := rv_v hx
    exact Runs.eff hS h (x := .int .i64 s.size) (by simp [Builtin.len_, run_underlying hu, goInt]) (RepD.v rfl)
  · cases h
theorem len_runs (hS : Sim w F β look) {t ty el : TypeId} (hu : P.underlying t = some (.slice el)) {x : Value} {v : V} (hx : RVs w F β look x v) {e : Eff} (h : lenA look v = some e) :
    Runs w F β look e ((do let v ← Builtin.len_ #[t] ty #[x]; pure (.value v) : Sem Next).run P w) := by
  unfold lenA at h
  split at h
  · obtain ⟨rfl, _⟩ := rv_v hx
    exact Runs.eff hS h (x := .int .i64 0) (by simp [Builtin.len_, run_underlying hu, goInt]) (RepD.v rfl)
  · rename_i k els
    obtain ⟨a, cap, rfl⟩ := rv_slice hx
    exact Runs.eff hS h (x := .int .i64 els.length) (by simp [Builtin.len_, run_underlying hu, goInt]) (RepD.v rfl)
  · rename_i id
    cases hl : look id with
    | none => simp [hl] at h
    | some o =>
      cases o with
      | arr k els =>
        simp only [hl] at h
        obtain ⟨cap, rfl, _⟩ := own_rep hl hx
        exact Runs.eff hS h (x := .int .i64 els.length) (by simp [Builtin.len_, run_underlying hu, goInt]) (RepD.v rfl)
      | _ => simp [hl] at h
  · cases h
theorem nilCheck_runs (hS : Sim w F β look) {ρ : Operand → Value} {y : Operand} {o : Oper} (ho : o.op = .nilCheck y) {v : V} (hx : RVs w F β look (ρ y) v) {e : Eff} (h : nilCheckA look v = some e) :
    Runs w F β look e ((execOp ρ o).run P w) := by
  have key : ∀ x, ρ y = x → (match x with | .pointer (some _) => True | .func (.func _) _ _ => True | _ => False) → (execOp ρ o).run P w = .ok (.value x) w := by
    intro x hx hm
    unfold execOp
    rw [ho]
    simp only [hx]
    split at hm
    · rfl
    · rfl
    · exact hm.elim
  unfold nilCheckA at h
  split at h
  · obtain ⟨h1, h2⟩ := hx
    exact Runs.eff hS h (key _ h2 trivial) ⟨h1, rfl⟩
  · obtain ⟨b, o, cap, h1, h2, h3⟩ := hx
    exact Runs.eff hS h (key _ h3 trivial) ⟨b, o, cap, h1, h2, rfl⟩
  · rename_i id i off
    cases hl : look id with
    | none => simp [hl] at h
    | some q =>
    cases q <;> simp only [hl] at h <;> try (cases h; done)
    rcases hx with ⟨k, n, h1, h2⟩ | ⟨h1, h2⟩
    · exact Runs.eff hS h (key _ h2 trivial) (.inl ⟨k, n, h1, rfl⟩)
    · simp [shL, hl, shO] at h1
  · obtain ⟨h1, h2⟩ := hx
    exact Runs.eff hS h (key _ h1 trivial) ⟨rfl, h2⟩
  · cases h
theorem pick_runs (hS : Sim w F β look) {c a b : Value} {vc va vb : V} (hc : RVs w F β look c vc) (ha : RVs w F β look a va) (hb : RVs w F β look b vb) {e : Eff} (h : pickA vc va vb = some e) :
    Runs w F β look e ((do pure (.value (if ← asBool c then a else b)) : Sem Next).run P w) := by
  unfold pickA at h
  split at h
  · rename_i t
    obtain ⟨rfl, _⟩ := rv_v hc
    cases t
    · exact Runs.eff hS h (x := b) (by simp [asBool]) hb
    · exact Runs.eff hS h (x := a) (by simp [asBool]) ha
  · cases h
/-! ### cutting -/
theorem bound_rep {y : Option Value} {v : Option V} {dflt top n : Nat} (hy : match y, v with | some y, some v => RVs w F β look y v | none, none => True | _, _ => False) (h : bound v dflt top = some n) :
    n ≤ max dflt top ∧ (v = none → n = dflt) ∧ (v ≠ none → n ≤ top) ∧ ((y = none ∧ n = dflt) ∨ ∃ k m, y = some (.int k m) ∧ 0 ≤ m ∧ m ≤ top ∧ n = m.toNat) := by
  unfold bound at h
  cases v with
  | none =>
    simp only [Option.some.injEq] at h
    subst h
    cases y with
    | none => exact ⟨by omega, fun _ => rfl, fun h => absurd rfl h, .inl ⟨rfl, rfl⟩⟩
    | some y => exact hy.elim
  | some v =>
    cases y with
    | none => exact hy.elim
    | some y =>
      dsimp only at h hy
      cases hn : num v with
      | none => simp [hn] at h
      | some m =>
        simp only [hn] at h
        split at h
        case isFalse => cases h
        rename_i hh
        cases h
        obtain ⟨k, rfl, rfl⟩ := num_rep hy hn
        exact ⟨by omega, fun h => (by cases h), fun _ => by omega, .inr ⟨k, m, rfl, hh.1, hh.2, rfl⟩⟩
theorem run_sliceBound {k : IntKind} {m : Int} {top : Nat} {code : BoundsCode} (h0 : 0 ≤ m) (h1 : m ≤ top) : (Instr.sliceBound (.int k m) top code).run P w = .ok m.toNat w := by
  simp [Instr.sliceBound, asIntOf, h0, h1]
theorem slice_runs (hS : Sim w F β look) {slot : Nat} (hs : look slot = none) {t : TypeId} {x : Value} {v : V} (hx : RVs w F β look x v) {lo hi mx : Option Value} {vl vh vm : Option V}
    (hlo : match lo, vl with | some y, some v => RVs w F β look y v | none, none => True | _, _ => False) (hhi : match hi, vh with | some y, some v => RVs w F β look y v | none, none => True | _, _ => False)
    (hmx : match mx, vm with | some y, some v => RVs w F β look y v | none, none => True | _, _ => False) {e : Eff} (h : sliceA P look slot t v vl vh vm = some e) :
    Runs w F β look e ((do let v ← Instr.sliceAt t x lo hi mx; pure (.value v) : Sem Next).run P w) := by
  unfold sliceA at h
  split at h
  · rename_i hu
    split at h
    · rename_i s
      cases mx with
      | some y => exact hmx.elim
      | none =>
      obtain ⟨rfl, _⟩ := rv_v hx
      cases hh : bound vh s.size s.size with
      | none => simp [hh] at h
      | some hN =>
        simp only [hh] at h
        cases hl : bound vl 0 hN with
        | none => simp [hl] at h
        | some lN =>
          simp only [hl] at h
          obtain ⟨_, _, _, a1⟩ := bound_rep hhi hh
          obtain ⟨_, _, _, a2⟩ := bound_rep hlo hl
          refine Runs.eff hS h (x := .string (s.extract lN hN)) ?_ (RepD.v rfl)
          rcases a1 with ⟨rfl, rfl⟩ | ⟨k1, m1, rfl, p1, p2, rfl⟩ <;> rcases a2 with ⟨rfl, rfl⟩ | ⟨k2, m2, rfl, q1, q2, rfl⟩
          · simp [Instr.sliceAt, Instr.slice, run_underlying hu, Instr.sliceBounds]
          · simp [Instr.sliceAt, Instr.slice, run_underlying hu, Instr.sliceBounds, run_sliceBound q1 q2]
          · simp [Instr.sliceAt, Instr.slice, run_underlying hu, Instr.sliceBounds, run_sliceBound p1 p2]
          · simp [Instr.sliceAt, Instr.slice, run_underlying hu, Instr.sliceBounds, run_sliceBound p1 p2, run_sliceBound q1 q2]
    · cases h
  · rename_i el hu
    cases hsz : sizeT P el with
    | none => simp [hsz] at h
    | some k =>
      simp only [hsz] at h
      split at h
      case isFalse => cases h
      rename_i hk
      split at h
      · rename_i k' els
        cases mx with
        | some y => exact hmx.elim
        | none =>
        split at h
        case isFalse => cases h
        rename_i hkk
        subst hkk
        cases hh : bound vh els.length els.length with
        | none => simp [hh] at h
        | some hN =>
          simp only [hh] at h
          cases hl : bound vl 0 hN with
          | none => simp [hl] at h
          | some lN =>
            simp only [hl] at h
            obtain ⟨b1, b2, b3, a1⟩ := bound_rep hhi hh
            obtain ⟨b4, b5, b6, a2⟩ := bound_rep hlo hl
            have hhN : hN ≤ els.length := by clear a1 a2; omega
            have hlN : lN ≤ hN := by clear a1 a2; omega
            have hr : RepD w (Nn w F β look) x (.s k' els) := hx
            obtain ⟨a, cap, rfl⟩ := rv_slice hx
            obtain ⟨_, hfl⟩ := RepD.flat hk hr
            have hcap : els.length ≤ cap ∨ els.length = 0 := by
              rcases hfl with rfl | ⟨_, _, _, _, _, _, _, h⟩
              · exact .inr rfl
              · exact .inl h
            refine Runs.eff hS h (x := .slice (if cap = lN then a else a.map (·.add (lN * k'))) (hN - lN) (cap - lN)) ?_ ?_
            · have hcap' : ∀ m : Int, m ≤ els.length → m ≤ cap := fun m hm => by rcases hcap with h | h <;> omega
              rcases a1 with ⟨rfl, rfl⟩ | ⟨k1, m1, rfl, p1, p2, rfl⟩ <;> rcases a2 with ⟨rfl, rfl⟩ | ⟨k2, m2, rfl, q1, q2, rfl⟩
              · simp [Instr.sliceAt, Instr.slice, run_underlying hu, Instr.sliceBounds, run_sizeOf hsz]
              · simp [Instr.sliceAt, Instr.slice, run_underlying hu, Instr.sliceBounds, run_sizeOf hsz, run_sliceBound q1 q2]
              · simp [Instr.sliceAt, Instr.slice, run_underlying hu, Instr.sliceBounds, run_sizeOf hsz, run_sliceBound p1 (hcap' m1 p2)]
              · simp [Instr.sliceAt, Instr.slice, run_underlying hu, Instr.sliceBounds, run_sizeOf hsz, run_sliceBound p1 (hcap' m1 p2), run_sliceBound q1 q2]
            · have hlen : ((els.take hN).drop lN).length = hN - lN := by clear a1 a2; simp; omega
              show RepD w (Nn w F β look) _ (.s k' ((els.take hN).drop lN))
              by_cases hz : hN - lN = 0
              · have : (els.take hN).drop lN = [] := List.eq_nil_of_length_eq_zero (by clear a1 a2; omega)
                rw [this, hz]
                exact .e _ _ _
              · rcases RepD.inv hr with ⟨rfl, _⟩ | ⟨b, o, cap', c, e, hb, hc, hk2, hcell, hrep⟩
                · clear a1 a2; simp at hhN; omega
                · cases e
                  rw [if_neg (by clear a1 a2; omega)]
                  simp only [Option.map_some, add_at]
                  have key : ∀ i l, ((els.take hN).drop lN)[i]? = some l → els[lN + i]? = some l := by
                    intro i l hi
                    rw [List.getElem?_drop, List.getElem?_take] at hi
                    split at hi
                    · exact hi
                    · cases hi
                  have := RepD.s (w := w) (N := Nn w F β look) (b := b) (o := o + lN * k') (cap := cap - lN) (k := k') (els := (els.take hN).drop lN) (fun i j => c (lN + i) j) hb (by clear a1 a2; omega)
                    (fun l hl => hk2 l (List.mem_of_mem_take (List.mem_of_mem_drop hl)))
                    (fun i l j x h1 h2 => by have := hcell _ _ _ _ (key i l h1) h2; rw [← this]; congr 2; rw [Nat.add_mul]; clear a1 a2; omega)
                    (fun i l j x h1 h2 => hrep _ _ _ _ (key i l h1) h2)
                  rw [hlen] at this
                  exact this
      · rename_i id
        cases mx with
        | some y => exact hmx.elim
        | none =>
        cases hlk : look id with
        | none => simp [hlk] at h
        | some o =>
          cases o with
          | arr k' els =>
            simp only [hlk] at h
            split at h
            case isFalse => cases h
            rename_i hkk
            subst hkk
            cases hh : bound vh els.length els.length with
            | none => simp [hh] at h
            | some hN =>
              simp only [hh] at h
              cases hl : bound vl 0 hN with
              | none => simp [hl] at h
              | some lN =>
                simp only [hl, Option.some.injEq] at h
                subst h
                obtain ⟨b1, b2, b3, a1⟩ := bound_rep hhi hh
                obtain ⟨b4, b5, b6, a2⟩ := bound_rep hlo hl
                have hhN : hN ≤ els.length := by clear a1 a2; omega
                have hlN : lN ≤ hN := by clear a1 a2; omega
                obtain ⟨cap, rfl, hcap, el', sz, hsh, hcs⟩ := own_rep hlk hx
                obtain ⟨vals, ty, hb, hc⟩ := (RO_iff rfl).1 (hS.live id _ hlk rfl).2.2
                have hvs : vals.size = sz := by have := shape_of_cells hb; rw [hsh] at this; cases this; rfl
                have e0 : ((els.take hN).drop lN).length = hN - lN := by clear a1 a2; simp; omega
                generalize hz : (if cap = lN then bs β id else bs β id + lN * k') = z
                have hzc : z + (cap - lN) * k' ≤ sz := by
                  subst hz
                  split
                  · rename_i e; rw [e, Nat.sub_self, Nat.zero_mul]; clear a1 a2; omega
                  · have : lN * k' + (cap - lN) * k' = cap * k' := by rw [← Nat.add_mul]; congr 1; clear a1 a2; omega
                    clear a1 a2; omega
                have hzl : z + (hN - lN) * k' ≤ sz := by
                  have : (hN - lN) * k' ≤ (cap - lN) * k' := Nat.mul_le_mul_right k' (by clear a1 a2; omega)
                  clear a1 a2; omega
                have hc' : ROc w (Nn w F β look) β (shL look) vals z (.arr k' ((els.take hN).drop lN)) := by
                  obtain ⟨h0, h1, h2, h3⟩ := hc
                  refine ⟨h0, fun l hl => h1 l (List.mem_of_mem_take (List.mem_of_mem_drop hl)), ?_, fun i l j x p q => ?_⟩
                  · rw [e0, hvs]; exact hzl
                  · rw [List.getElem?_drop, List.getElem?_take] at p
                    split at p
                    · rename_i hlt
                      obtain ⟨v, p1, p2⟩ := h3 _ l j x p q
                      refine ⟨v, ?_, p2⟩
                      subst hz
                      rw [if_neg (by clear a1 a2; omega), ← p1]
                      congr 1
                      rw [Nat.add_mul]; clear a1 a2; omega
                    · cases p
                obtain ⟨g1, g2, g3, g4, g5⟩ := sim_move (w' := w) hS hlk hs (o := .arr k' ((els.take hN).drop lN)) rfl hb rfl (fun _ _ => rfl) rfl rfl rfl hc'
                refine ⟨w, _, ⟨g1, g2⟩, .inl ⟨.slice (some ⟨β id, z, none⟩) (hN - lN) (cap - lN), ?_, .inl ⟨k', hN - lN, cap - lN, by have := g3; simp only [shO, e0] at this; exact this, by rw [g4, g5], by clear a1 a2; omega, el', sz, by rw [g4]; exact hsh, by rw [g5]; exact hzc⟩⟩⟩
                have hcap' : ∀ m : Int, m ≤ els.length → m ≤ cap := fun m hm => by clear a1 a2; omega
                have hadr : (if cap = lN then (some ⟨β id, bs β id, none⟩ : Option Addr) else some ⟨β id, bs β id + lN * k', none⟩) = some ⟨β id, z, none⟩ := by
                  subst hz; split <;> rfl
                rcases a1 with ⟨rfl, rfl⟩ | ⟨k1, m1, rfl, p1, p2, rfl⟩ <;> rcases a2 with ⟨rfl, rfl⟩ | ⟨k2, m2, rfl, q1, q2, rfl⟩
                · simp [Instr.sliceAt, Instr.slice, run_underlying hu, Instr.sliceBounds, run_sizeOf hsz, add_at] at hadr ⊢; exact hadr
                · simp [Instr.sliceAt, Instr.slice, run_underlying hu, Instr.sliceBounds, run_sizeOf hsz, run_sliceBound q1 q2, add_at] at hadr ⊢; exact hadr
                · simp [Instr.sliceAt, Instr.slice, run_underlying hu, Instr.sliceBounds, run_sizeOf hsz, run_sliceBound p1 (hcap' m1 p2), add_at] at hadr ⊢; exact hadr
                · simp [Instr.sliceAt, Instr.slice, run_underlying hu, Instr.sliceBounds, run_sizeOf hsz, run_sliceBound p1 (hcap' m1 p2), run_sliceBound q1 q2, add_at] at hadr ⊢; exact hadr
          | _ => simp [hlk] at h
      · cases h
  · cases h
end
end Go.Proofs.YteenjodhmppgjaaGreatDoor.Am
end
