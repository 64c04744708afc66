/- A part of the proof of a card. No conditions. -/
import Derived.Test.YteenjodhmppgjaaGreatDoorPa3
set_option linter.all false
set_option maxHeartbeats 16000000
set_option maxRecDepth 10000
namespace Go.Proofs.YteenjodhmppgjaaGreatDoor.Am
open Go.Proofs.Tryz
section
open Go Go.Proofs Go.Proofs.YteenjodhmppgjaaGreatDoor.Am
def iV (n:Int):V:= .c (.d (.v (.int .i64 n)))
def bV (b:Bool):V:= .c (.d (.v (.bool b)))
def sV (s:ByteArray):V:= .c (.d (.v (.string s)))
def dV (x:D):V:= .c (.d x)
def wr (n:Int):Int:=IntKind.i64.wrap n
theorem cH1 (n:Nat):hC0 n none=true:=id rfl
theorem cI1 (n t:Nat):hC0 n (some t)=decide (t<n):=id rfl
theorem beq_ft : (false==true)=false:=by decide
theorem beq_tf : (true==false)=false:=by decide
theorem ib_ne {a b:Int} (h:¬ a=b):(a==b)=false:=beq_false_of_ne h
theorem ib_bne {a b:Int} (h:¬ a=b):(a != b)=true:=by simp[bne,ib_ne h]
theorem xY0 (a:Int):(a != a)=false:=by simp[bne]
theorem aH0 (n:Nat):iH0 (n+1) = .hole::iH0 n:=rfl
theorem aI0 : iH0 0=[]:=rfl
theorem wG1 (n:Int):IntKind.i64.wrap n=wr n:=rfl
theorem hK0 {n:Int} (h1 : -(2^63)≤n)(h2:n<2^63):wr n=n:=by
 unfold wr
 have e:IntKind.i64.wrap n=(n+9223372036854775808) % 18446744073709551616 - 9223372036854775808:=by
  simp[IntKind.wrap,IntKind.bits,IntKind.signed]
  try (split <;> omega)
 rw[e];omega
theorem lenA_s (look:Look)(k:Nat)(els:List (List D))(g:Bool):lenA look (.c (.d (.s k els g)))=eff (.c (.d (.v (.int .i64 els.length)))):=id rfl
theorem mL1 (look:Look):lenA look (.c (.d (.v (.slice none 0 0))))=eff (.c (.d (.v (.int .i64 0)))):=id rfl
def lnK (i:Nat)(o:Option O):Option Eff:=
 match o with
 | some (.arr _ els)=>eff (.c (.d (.v (.int .i64 els.length)))) [i]
 | _=>none
theorem mM1 (look:Look)(i:Nat):lenA look (.c (.own i))=lnK i (look i):=id rfl
theorem uG1 (i k:Nat)(els:List (List D)):lnK i (some (.arr k els))=eff (.c (.d (.v (.int .i64 els.length)))) [i]:=id rfl
section
variable (P:Program) (op:BinOp) (t:TypeId) (c:Bool)
theorem kH1 (k:IntKind)(a:Int)(y:V):binB P op t c (.c (.d (.v (.int k a)))) y=binA P op t (.c (.d (.v (.int k a)))) y:=id rfl
theorem kK1 (s:ByteArray)(y:V):binB P op t c (.c (.d (.v (.string s)))) y=binA P op t (.c (.d (.v (.string s)))) y:=id rfl
theorem eF1 (b:Bool)(y:V):binB P op t c (.c (.d (.v (.bool b)))) y=binA P op t (.c (.d (.v (.bool b)))) y:=id rfl
theorem kG1 (cs ds:List C):binB P op t c (.agg cs) (.agg ds)=oY0 P op t cs ds:=id rfl
theorem binB_i (u:TypeId)(xs:List D):binB P op t c (.c (.d (.i u xs))) (.c (.d (.v .nilIface)))=if gS0 P t=true then nilEq op false else none:=id rfl
theorem bO1 (u:TypeId)(x:Value):binB P op t c (.c (.d (.v (.iface u x)))) (.c (.d (.v .nilIface)))=if gS0 P t=true then nilEq op false else none:=id rfl
theorem kI1 : binB P op t c (.c (.d (.v .nilIface))) (.c (.d (.v .nilIface)))=if gS0 P t=true∧c=true then nilEq op true else none:=id rfl
theorem bP1 (a:Option Addr)(n m:Nat):binB P op t c (.c (.d (.v (.slice a n m)))) (.c (.d (.v (.slice none 0 0))))=if cO0 P t=true then nilEq op a.isNone else none:=id rfl
theorem binB_s (k:Nat)(l:List D)(els:List (List D))(g:Bool):binB P op t c (.c (.d (.s k (l::els) g))) (.c (.d (.v (.slice none 0 0))))=if cO0 P t=true then nilEq op false else none:=id rfl
theorem kJ1 (i o:Nat):binB P op t c (.c (.ptr i o)) (.c (.d (.v (.pointer none))))=if uZ0 P t=true then nilEq op false else none:=id rfl
end
theorem dM1 (P:Program)(look:Look)(t:TypeId)(id off:Nat)(x:V):mQ0 P look t (.c (.ptr id off)) x =
  match cells x with
  | none=>none
  | some ys=>if bN0 P t=some ys.length then match look id with
   | some (.box cs)=>if off+ys.length≤cs.length then some { res:= .val (.c .any),upd:=[(id,.box (over cs off ys))],rd:=[id] } else none
   | _=>none
   else none:=rfl
def stK (P:Program)(look:Look)(t:TypeId)(o:Option O)(id i off:Nat)(x:V):Option Eff:=
 match cells x with
 | none=>none
 | some ys=>if bN0 P t=some ys.length then match o with
  | some (.arr k els)=>match els[i]? with
   | some l=>match toDs look ys with
    | some (ds,own)=>
     if off+ds.length≤l.length∧own.contains id=false then
      some { res:= .val (.c .any),upd:=aU0 own++[(id,.arr k (els.set i (l.take off++ds++l.drop (off+ds.length))))],rd:=own++[id] }
     else none
    | none=>none
   | none=>none
  | _=>none
  else none
theorem jD1 (P:Program)(look:Look)(t:TypeId)(id i off:Nat)(x:V):mQ0 P look t (.c (.ap id i off)) x=stK P look t (look id) id i off x:=rfl
structure Fl where
 z:Bool
 g:Bool:=false
deriving DecidableEq
instance : Coe Bool Fl:=⟨fun b=>⟨b,false⟩⟩
def listD (z:Fl)(k:Nat)(els:List (List D)):D:=if z.z=true∧els=[] then .v (.slice none 0 0) else .s k els z.g
theorem dY0 {z:Fl}{k:Nat}{els:List (List D)} (h:els≠[]):listD z k els = .s k els z.g:=by unfold listD;rw[if_neg];exact fun e=>h e.2
theorem aP0 {z:Fl}{k:Nat}{els:List (List D)}{b:Int} (h0:0≤b)(h:b<els.length):listD z k els = .s k els z.g:=dY0 (by rintro rfl;simp at h;omega)
theorem cR0 (k:Nat)(els:List (List D)):listD false k els = .s k els:=by simp[listD]
theorem eZ0 (look:Look)(z:Fl)(k:Nat)(els:List (List D)):lenA look (.c (.d (listD z k els)))=eff (.c (.d (.v (.int .i64 els.length)))):=by
 unfold listD
 split
 ·rename_i h;rw[h.2];rfl
 ·rfl
structure LV where
 v:Int
 p:Int
deriving DecidableEq
def lvD (x:LV):List D:=[.v (.int .i64 x.v),.v (.int .i64 x.p)]
def lvC (x:LV):List C:=[.d (.v (.int .i64 x.v)),.d (.v (.int .i64 x.p))]
def lvV (x:LV):V:= .agg (lvC x)
structure Lev where
 c:Int
 vs:List LV
 z:Fl
def Lev.d (x:Lev):D:=listD x.z 2 (x.vs.map lvD)
def levD (x:Lev):List D:=[.v (.int .i64 x.c),x.d]
def levC (x:Lev):List C:=[.d (.v (.int .i64 x.c)),.d x.d]
def levV (x:Lev):V:= .agg (levC x)
inductive Tm where
 | mk (op n:Int) (s:ByteArray) (u:List Lev) (zu:Fl) (l:List Tm) (zl:Fl)
namespace Tm
def op : Tm→Int | .mk a _ _ _ _ _ _=>a
def n : Tm→Int | .mk _ a _ _ _ _ _=>a
def s : Tm→ByteArray | .mk _ _ a _ _ _ _=>a
def u : Tm→List Lev | .mk _ _ _ a _ _ _=>a
def zu : Tm→Fl | .mk _ _ _ _ a _ _=>a
def l : Tm→List Tm | .mk _ _ _ _ _ a _=>a
def zl : Tm→Fl | .mk _ _ _ _ _ _ a=>a
end Tm
def tmD : Tm→List D
 | .mk a b s u zu l zl=>[.v (.int .i64 a),.v (.int .i64 b),.v (.string s),listD zu 2 (u.map levD),listD zl 5 (tmDs l)]
where tmDs:List Tm→List (List D)
 | []=>[]
 | x::r=>tmD x::tmDs r
theorem vZ1 (l:List Tm):tmD.tmDs l=l.map tmD:=by induction l <;> simp_all [tmD.tmDs]
def Tm.uD (x:Tm):D:=listD x.zu 2 (x.u.map levD)
def Tm.lD (x:Tm):D:=listD x.zl 5 (x.l.map tmD)
theorem aX0 (x:Tm):tmD x=[.v (.int .i64 x.op),.v (.int .i64 x.n),.v (.string x.s),x.uD,x.lD]:=by
 cases x;simp[tmD,vZ1,Tm.op,Tm.n,Tm.s,Tm.uD,Tm.lD,Tm.u,Tm.zu,Tm.l,Tm.zl]
def tmC (x:Tm):List C:=[.d (.v (.int .i64 x.op)),.d (.v (.int .i64 x.n)),.d (.v (.string x.s)),.d x.uD,.d x.lD]
def tmV (x:Tm):V:= .agg (tmC x)
structure Con where
 name:ByteArray
 arg:Tm
def conD (x:Con):List D:= .v (.string x.name)::tmD x.arg
structure Dc where
 name:ByteArray
 kind:Int
 levels:Int
 type:Tm
 body:Tm
 param:Tm
 over:Lev
 sort:Lev
 cons:List Con
 z:Fl
def Dc.d (x:Dc):D:=listD x.z 6 (x.cons.map conD)
def dcD (x:Dc):List D:=[.v (.string x.name),.v (.int .i64 x.kind),.v (.int .i64 x.levels)]++tmD x.type++tmD x.body++tmD x.param++levD x.over++levD x.sort++[x.d]
def dcC (x:Dc):List C:=[.d (.v (.string x.name)),.d (.v (.int .i64 x.kind)),.d (.v (.int .i64 x.levels)),.d (.v (.int .i64 x.type.op)),.d (.v (.int .i64 x.type.n)),.d (.v (.string x.type.s)),.d x.type.uD,.d x.type.lD,
 .d (.v (.int .i64 x.body.op)),.d (.v (.int .i64 x.body.n)),.d (.v (.string x.body.s)),.d x.body.uD,.d x.body.lD,.d (.v (.int .i64 x.param.op)),.d (.v (.int .i64 x.param.n)),.d (.v (.string x.param.s)),.d x.param.uD,.d x.param.lD,
 .d (.v (.int .i64 x.over.c)),.d x.over.d,.d (.v (.int .i64 x.sort.c)),.d x.sort.d,.d x.d]
theorem iN0 (x:Dc):dcD x=[.v (.string x.name),.v (.int .i64 x.kind),.v (.int .i64 x.levels),.v (.int .i64 x.type.op),.v (.int .i64 x.type.n),.v (.string x.type.s),x.type.uD,x.type.lD,
 .v (.int .i64 x.body.op),.v (.int .i64 x.body.n),.v (.string x.body.s),x.body.uD,x.body.lD,.v (.int .i64 x.param.op),.v (.int .i64 x.param.n),.v (.string x.param.s),x.param.uD,x.param.lD,
 .v (.int .i64 x.over.c),x.over.d,.v (.int .i64 x.sort.c),x.sort.d,x.d]:=by
 simp[dcD,aX0,levD]
def dcV (x:Dc):V:= .agg (dcC x)
structure Tb where
 ds:List Dc
 z:Fl
def Tb.d (x:Tb):D:=listD x.z 23 (x.ds.map dcD)
def tbC (x:Tb):List C:=[.d x.d]
def tbV (x:Tb):V:= .agg (tbC x)
def Lev.sz (x:Lev):Nat:=1+x.vs.length
def Tm.sz : Tm→Nat
 | .mk _ _ _ u _ l _=>1+(u.map Lev.sz).sum+szs l
where szs:List Tm→Nat
 | []=>0
 | x::r=>x.sz+szs r
theorem Tm.szs_eq (l:List Tm):Tm.sz.szs l=(l.map Tm.sz).sum:=by induction l <;> simp_all [Tm.sz.szs]
theorem Tm.sz_eq (x:Tm):x.sz=1+(x.u.map Lev.sz).sum+(x.l.map Tm.sz).sum:=by cases x;simp[Tm.sz,Tm.szs_eq,Tm.u,Tm.l]
theorem Tm.sz_pos (x:Tm):0<x.sz:=by rw[x.sz_eq];omega
theorem pL1 {l:List Nat}{n:Nat} (h:n∈l):n≤l.sum:=by
 induction l with
 | nil=>cases h
 | cons a r ih=>
  simp only[List.sum_cons]
  rcases List.mem_cons.1 h with rfl | h
  ·omega
  ·have:=ih h;omega
theorem mA0 {α:Type} (f:α→Nat)(h:∀ x,0<f x):∀ l:List α,l.length≤(l.map f).sum
 | []=>Nat.le_refl _
 | a::r=>by have:=mA0 f h r;have:=h a;simp;omega
theorem Lev.sz_pos (x:Lev):0<x.sz:=by unfold Lev.sz;omega
theorem Tm.sz_lt {x y:Tm} (h:y∈x.l):y.sz<x.sz:=by
 have:=pL1 (List.mem_map.2 ⟨y,h,rfl⟩:y.sz∈x.l.map Tm.sz)
 rw[x.sz_eq];omega
theorem Tm.len_lt (x:Tm):x.l.length<x.sz:=by
 have:=mA0 _ Tm.sz_pos x.l
 rw[x.sz_eq];omega
theorem Tm.ulen_lt (x:Tm):x.u.length<x.sz:=by
 have:=mA0 _ Lev.sz_pos x.u
 rw[x.sz_eq];omega
theorem Tm.lev_lt {x:Tm}{u:Lev} (h:u∈x.u):u.sz<x.sz:=by
 have:=pL1 (List.mem_map.2 ⟨u,h,rfl⟩:u.sz∈x.u.map Lev.sz)
 rw[x.sz_eq];omega
theorem sH0 {look:Look}{slot:Nat}{e:Eff} (h1:(e.rd.all fun id=> !bI0 (look id))=true)(h2:e.upd.all cU0=true):eR0 look slot (some e)=some e:=by
 have hb:jT0 look slot e.rd e.upd=true:=List.all_eq_true.2 fun p hp=>by
  have hn:(!bI0 (some p.2))=true:=List.all_eq_true.1 h2 p hp
  unfold bN1
  rw[if_neg]
  ·exact hn
  ·intro hc
   rw[Bool.and_eq_true]at hc
   have:=List.all_eq_true.1 h1 p.1 (by simpa using hc.1)
   rw[hc.2]at this
   cases this
 unfold eR0
 simp only[hb,if_true]
 congr 1
 cases e
 simp only[Eff.mk.injEq,true_and,and_true]
 exact List.filter_eq_self.2 fun p hp=>List.all_eq_true.1 h2 p hp
theorem cF0 {rec:Rec}{look:Look}{slot:Nat}{f:FuncId}{args args':List V}{ids bor:List Nat}{objs':List O}{out:Out}{e:Eff} (h1:cB0 f look args=some (ids,bor,args',objs'))(h2:rec (.call f args' objs')=some out)(h3:cK0 ids bor slot out=some e)
  (h0:(objs'.any pK1&&uG0 f)=false:=by kernel_rfl) (h4:eR0 look slot (some e)=some e:=by exact sH0 (by kernel_rfl) (by kernel_rfl)) :
  dD0 rec look slot f args=some e:=by
 have h5:dX0 rec f args' objs'=some out:=by unfold dX0;rw[h0];exact h2
 simp only[dD0,hN0,bB0,h1,h5,h3,h4]
def gP1 {α σ ρ:Type} (f:σ→α→σ ⊕ ρ):σ→List α→σ ⊕ ρ
 | s,[]=> .inl s
 | s,x::l=>match f s x with
  | .inl s'=>gP1 f s' l
  | .inr r=> .inr r
theorem cS1 {α σ ρ:Type} (l:List α)(S:Int→σ→Option Out)(f:σ→α→σ ⊕ ρ)(g:ρ→Option Out)(fin:σ→Option Out)(hl:l.length<2^62)
  (hstep:∀ (k:Nat) (x:α) (s:σ),l[k]? = some x→(k:Int)<l.length→match f s x with | .inl s'=>∀ out,S (wr ((k:Int)+1)) s'=out→S k s=out | .inr r=>S k s=g r)
  (hdone:∀ s,S l.length s=fin s) (s0:σ):S 0 s0=match gP1 f s0 l with | .inl s=>fin s | .inr r=>g r:=by
 have key:∀ (m k:Nat) (s:σ),k+m=l.length→S k s=match gP1 f s (l.drop k) with | .inl s=>fin s | .inr r=>g r:=by
  intro m
  induction m with
  | zero=>
   intro k s hk
   rw[List.drop_eq_nil_of_le (by omega)]
   rw[show k=l.length by omega]
   exact hdone s
  | succ m ih=>
   intro k s hk
   have hlt:k<l.length:=by omega
   rw[List.drop_eq_getElem_cons hlt]
   have h:=hstep k l[k] s (by simp[hlt]) (by omega)
   simp only[gP1]
   cases hf:f s l[k] with
   | inl s'=>
    rw[hf]at h
    dsimp only at h
    refine h _ ?_
    rw[hK0 (by omega) (by omega)]
    have:=ih (k+1) s' (by omega)
    exact_mod_cast this
   | inr r=>rw[hf]at h;exact h
 simpa using key l.length 0 s0 (by omega)
theorem mD0 {α σ:Type} (l:List α)(S:Int→σ→Option Out)(Q:Out→Prop)(hl:l.length<2^62)
  (hstep:∀ (k:Nat) (x:α) (s:σ),l[k]? = some x→(k:Int)<l.length→(∃ s',∀ out,S (wr ((k:Int)+1)) s'=out→S k s=out)∨(∃ o,S k s=some o∧Q o))
  (hdone:∀ s,∃ o,S l.length s=some o∧Q o) (s0:σ):∃ o,S 0 s0=some o∧Q o:=by
 have key:∀ (m k:Nat) (s:σ),k+m=l.length→∃ o,S k s=some o∧Q o:=by
  intro m
  induction m with
  | zero=>intro k s hk;rw[show k=l.length by omega];exact hdone s
  | succ m ih=>
   intro k s hk
   have hlt:k<l.length:=by omega
   rcases hstep k l[k] s (by simp[hlt]) (by omega) with⟨s',h⟩ | h
   ·obtain⟨o,h1,h2⟩:=ih (k+1) s' (by omega)
    refine⟨o,h _ ?_,h2⟩
    rw[hK0 (by omega) (by omega)]
    exact_mod_cast h1
   ·exact h
 exact key l.length 0 s0 (by omega)
def isB (o:Out):Prop:=∃ b,o = .ret [bV b] []
def isI (o:Out):Prop:=∃ n,o = .ret [iV n] []
theorem cT0 {α:Type}{l:List α}{k:Nat}{x:α} (h:l[k]? = some x):k<l.length:=by
 rcases Nat.lt_or_ge k l.length with h' | h'
 ·exact h'
 ·rw[List.getElem?_eq_none h']at h;cases h
theorem oL0 {α:Type} (l:List α)(S:Int→Option Out)(p:α→Bool)(g:Nat→Option Out)(fin:Option Out)(hl:l.length<2^62)
  (hstep:∀ (k:Nat) (x:α),l[k]? = some x→(k:Int)<l.length→(p x=true→S k=g k)∧(p x=false→∀ out,S (wr ((k:Int)+1))=out→S k=out))
  (hdone:S l.length=fin):S 0=match l.findIdx? p with | some k=>g k | none=>fin:=by
 have key:∀ (m k:Nat),k+m=l.length→S k=match (l.drop k).findIdx? p with | some i=>g (k+i) | none=>fin:=by
  intro m
  induction m with
  | zero=>
   intro k hk
   rw[List.drop_eq_nil_of_le (by omega),show k=l.length by omega]
   exact hdone
  | succ m ih=>
   intro k hk
   have hlt:k<l.length:=by omega
   rw[List.drop_eq_getElem_cons hlt,List.findIdx?_cons]
   obtain⟨h1,h2⟩:=hstep k l[k] (by simp[hlt]) (by omega)
   cases hp:p l[k] with
   | true=>simpa using h1 hp
   | false=>
    refine h2 hp _ ?_
    rw[hK0 (by omega) (by omega)]
    have:=ih (k+1) (by omega)
    rw[show((k:Int)+1)=((k+1:Nat):Int) by omega,this]
    cases (l.drop (k+1)).findIdx? p with
    | none=>rfl
    | some i=>simp only[Option.map_some];congr 1;omega
 simpa using key l.length 0 (by omega)
def eG0 {α:Type} (p:Nat→α→Bool):Nat→List α→Option Nat
 | _,[]=>none
 | k,x::l=>if p k x then some k else eG0 p (k+1) l
theorem jK0 {α:Type} (l:List α)(S:Int→Option Out)(p:Nat→α→Bool)(g:Nat→Option Out)(fin:Option Out)(hl:l.length<2^62)
  (hstep:∀ (k:Nat) (x:α),l[k]? = some x→(k:Int)<l.length→(p k x=true→S k=g k)∧(p k x=false→∀ out,S (wr ((k:Int)+1))=out→S k=out))
  (hdone:S l.length=fin):S 0=match eG0 p 0 l with | some k=>g k | none=>fin:=by
 have key:∀ (m k:Nat),k+m=l.length→S k=match eG0 p k (l.drop k) with | some i=>g i | none=>fin:=by
  intro m
  induction m with
  | zero=>
   intro k hk
   rw[List.drop_eq_nil_of_le (by omega),show k=l.length by omega]
   exact hdone
  | succ m ih=>
   intro k hk
   have hlt:k<l.length:=by omega
   rw[List.drop_eq_getElem_cons hlt,eG0]
   obtain⟨h1,h2⟩:=hstep k l[k] (by simp[hlt]) (by omega)
   cases hp:p k l[k] with
   | true=>simpa using h1 hp
   | false=>
    refine h2 hp _ ?_
    rw[hK0 (by omega) (by omega)]
    rw[show((k:Int)+1)=((k+1:Nat):Int) by omega,ih (k+1) (by omega)]
    simp
 simpa using key l.length 0 (by omega)
theorem uV0 {α:Type}{l:List α}{p:α→Bool}:(l.findIdx? p).isSome=l.any p:=by
 induction l with
 | nil=>rfl
 | cons a l ih=>
  rw[List.findIdx?_cons,List.any_cons,← ih]
  cases p a <;> simp
def idxI {α:Type} (p:α→Bool)(l:List α):Int:=match l.findIdx? p with | some k=>k | none=> -1
theorem uB1 {α:Type} (p:α→Bool)(l:List α):(decide (idxI p l≥0))=l.any p:=by
 rw[← uV0]
 unfold idxI
 cases l.findIdx? p <;> simp <;> omega
def zS := And.intro @eZ0 <| And.intro @mM1 <| And.intro @uG1 <| And.intro @wG1 <| And.intro @kH1 <| And.intro @kK1 <| And.intro @eF1 <| And.intro @kG1 <| And.intro @binB_i <| And.intro @bO1 <| And.intro @kI1 <| And.intro @bP1 <| And.intro @binB_s <| And.intro @kJ1 <| And.intro @binL_d <| And.intro @kL1 <| And.intro @kN1 <| And.intro @kM1 <| And.intro @rB1 <| And.intro @rC1 <| And.intro @bU1 <| And.intro @wO0 <| And.intro @oA1 <| And.intro @qL0 <| And.intro @vS1 <| And.intro @nY1 <| And.intro @vR1 <| And.intro @jB1 <| And.intro @nZ1 <| And.intro @rP1 <| And.intro @gG1 <| And.intro @lS1 <| And.intro @gF1 <| And.intro @rO1 <| And.intro @gE1 <| And.intro @lR1 <| And.intro @r_seq <| And.intro @mY1 <| And.intro @r_draw <| And.intro @cG1 <| And.intro @aE0 <| And.intro @iC1 <| And.intro @uS1 <| And.intro @r_loop <| And.intro @iB1 <| And.intro @r_skip <| And.intro @r_ret <| And.intro @r_end <| And.intro @r_op <| And.intro @r_opg <| And.intro @mS1 <| And.intro @hV1 <| And.intro @wE0 <| And.intro @wD0 <| And.intro @r_cond <| And.intro @cA1 <| And.intro @wU0 <| And.intro @r_exit <| And.intro @cL1 <| And.intro @cJ1 <| And.intro @cK1 <| And.intro @gN1 <| And.intro @wX0 <| And.intro @cH1 <| And.intro @cI1 <| And.intro @lenA_s <| And.intro @mL1 <| And.intro @dM1 <| And.intro @jD1 <| And.intro (@List.all_cons.{0}) <| And.intro (@List.all_nil.{0}) <| And.intro (@List.length_nil.{0}) <| And.intro (@List.length_cons.{0}) <| And.intro (@List.length_append.{0}) <| And.intro @Bool.and_self <| And.intro @Bool.and_true <| And.intro @Bool.true_and <| And.intro @Bool.not_true <| And.intro @Bool.not_false <| And.intro @decide_true <| And.intro @decide_false <| And.intro @Nat.lt_irrefl <| And.intro (@List.nil_append.{0}) <| And.intro (@List.cons_append.{0}) <| And.intro (@List.append_nil.{0}) <| And.intro (@List.map_cons.{0,0}) <| And.intro (@List.map_nil.{0,0}) <| And.intro (@List.getElem?_toArray.{0}) <| And.intro (@List.getElem?_cons_zero.{0}) <| And.intro (@List.getElem?_cons_succ.{0}) <| And.intro (@List.take_succ_cons.{0}) <| And.intro (@List.take_zero.{0}) <| And.intro (@List.drop_succ_cons.{0}) <| And.intro (@List.drop_zero.{0}) <| And.intro @Nat.sub_self <| And.intro (@List.replicate_zero.{0}) <| And.intro (@Option.map_some.{0,0}) <| And.intro (@Option.map_none.{0,0}) <| And.intro (@List.length_map.{0,0}) <| And.intro (@List.getElem?_map.{0,0}) <| And.intro @Nat.zero_add <| And.intro @Nat.add_zero <| And.intro @or_false <| And.intro @or_true <| And.intro @true_or <| And.intro @and_self <| And.intro @and_true <| And.intro @true_and <| And.intro @Bool.false_eq_true <| And.intro (@List.set_cons_zero.{0}) <| And.intro (@List.set_cons_succ.{0}) <| And.intro (@beq_self_eq_true.{0}) <| And.intro @beq_ft <| And.intro @beq_tf <| And.intro @ib_ne <| And.intro @ib_bne <| And.intro @xY0 <| And.intro @not_false_eq_true <| @not_true_eq_false
def zD := And.intro @nilEq.eq_1 <| And.intro @nilEq.eq_2 <| And.intro @nilEq.eq_3 <| And.intro @wantedA.eq_1 <| And.intro @wantedA.eq_2 <| And.intro @opA.eq_1 <| And.intro @opA.eq_2 <| And.intro @opA.eq_3 <| And.intro @opA.eq_4 <| And.intro @opA.eq_5 <| And.intro @opA.eq_6 <| And.intro @opA.eq_7 <| And.intro @opA.eq_8 <| And.intro @opA.eq_9 <| And.intro @opA.eq_10 <| And.intro @opA.eq_11 <| And.intro @opA.eq_12 <| And.intro @opA.eq_13 <| And.intro @opA.eq_14 <| And.intro @opA.eq_15 <| And.intro @opA.eq_16 <| And.intro @opA.eq_17 <| And.intro @opA.eq_18 <| And.intro @opA.eq_19 <| And.intro @opA.eq_20 <| And.intro @opA.eq_21 <| And.intro @opA.eq_22 <| And.intro @opA.eq_23 <| And.intro @opA.eq_24 <| And.intro @opA.eq_25 <| And.intro @opA.eq_26 <| And.intro @opA.eq_27 <| And.intro @opA.eq_28 <| And.intro @opA.eq_29 <| And.intro @opA.eq_30 <| And.intro @opA.eq_31 <| And.intro @eff.eq_1 <| And.intro @boxA.eq_1 <| And.intro @cells.eq_1 <| And.intro @cells.eq_2 <| And.intro @cells.eq_3 <| And.intro @ev.eq_1 <| And.intro @ev.eq_2 <| And.intro @ev.eq_3 <| And.intro @ev.eq_4 <| And.intro @gt.eq_1 <| And.intro @gt.eq_2 <| And.intro @pt.eq_1 <| And.intro @pt.eq_2 <| And.intro @putO.eq_1 <| And.intro @putO.eq_2 <| And.intro @updO.eq_1 <| And.intro @updO.eq_2 <| And.intro @setO.eq_1 <| And.intro @okC.eq_1 <| And.intro @okC.eq_2 <| And.intro @loadA.eq_1 <| And.intro @loadA.eq_2 <| And.intro @loadA.eq_3 <| And.intro @loadA.eq_4 <| And.intro @cutC.eq_1 <| And.intro @fieldAddrA.eq_1 <| And.intro @fieldA.eq_1 <| And.intro @indexAddrA.eq_1 <| And.intro @indexA.eq_1 <| And.intro @builtinA.eq_1 <| And.intro @builtinA.eq_2 <| And.intro @builtinA.eq_3 <| And.intro @builtinA.eq_4 <| And.intro @builtinA.eq_5 <| And.intro @builtinA.eq_6 <| And.intro @builtinA.eq_7 <| And.intro @builtinA.eq_8 <| And.intro @builtinA.eq_9 <| And.intro @callOpA.eq_1 <| And.intro @callV.eq_1 <| And.intro @target.eq_1 <| And.intro @target.eq_2 <| And.intro @ptrV.eq_1 <| And.intro @lenS.eq_1 <| And.intro @lenS.eq_2 <| And.intro @binA.eq_1 <| And.intro @binA.eq_2 <| And.intro @binA.eq_3 <| And.intro @binA.eq_4 <| And.intro @binA.eq_5 <| And.intro @binA.eq_6 <| And.intro @intOp.eq_1 <| And.intro @intOp.eq_2 <| And.intro @intOp.eq_3 <| And.intro @intOp.eq_4 <| And.intro @intOp.eq_5 <| And.intro @intOp.eq_6 <| And.intro @intOp.eq_7 <| And.intro @intOp.eq_8 <| And.intro @intOp.eq_9 <| And.intro @intOp.eq_10 <| And.intro @intOp.eq_11 <| And.intro @intOp.eq_12 <| And.intro @intOp.eq_13 <| And.intro @intOp.eq_14 <| And.intro @strOp.eq_1 <| And.intro @strOp.eq_2 <| And.intro @strOp.eq_3 <| And.intro @strOp.eq_4 <| And.intro @strOp.eq_5 <| And.intro @strOp.eq_6 <| And.intro @strOp.eq_7 <| And.intro @strOp.eq_8 <| And.intro @unA.eq_1 <| And.intro @unA.eq_2 <| And.intro @unA.eq_3 <| And.intro @num.eq_1 <| And.intro @num.eq_2 <| And.intro @lk.eq_1 <| And.intro @over.eq_1 <| And.intro @allocA.eq_1 <| And.intro @pickA.eq_1 <| And.intro @pickA.eq_2 <| And.intro @buildA.eq_1 <| And.intro @fillA.eq_1 <| And.intro @fillA.eq_2 <| And.intro @extractA.eq_1 <| And.intro @extractA.eq_2 <| And.intro @ofComp.eq_1 <| And.intro @ofComp.eq_2 <| And.intro @ofComp.eq_3 <| And.intro @nilCheckA.eq_1 <| And.intro @nilCheckA.eq_2 <| And.intro @nilCheckA.eq_3 <| And.intro @nilCheckA.eq_4 <| And.intro @nilCheckA.eq_5 <| And.intro @ptrs.eq_1 <| And.intro @ptrs.eq_2 <| And.intro @ptrs.eq_3 <| And.intro @ofValue.eq_1 <| And.intro @ofValue.eq_2 <| And.intro @ofValue.eq_3 <| And.intro @cellB.eq_1 <| And.intro @cellB.eq_2 <| @cellB.eq_3
end
section
open Go
variable (ext:Ext)
noncomputable def B62 : Code:=(f62.body.getD .skip)
noncomputable def L62a : Code:=sub B62 [1,1,0,1,0,0]
theorem hL62a : It.code L62a=It.code (sub B62 [1,1,0,1,0,0]):=rfl
noncomputable def K62a : List It:=[.inBlock 0,.code (sub B62 [1,1,1])]
noncomputable def H62a (ext:Ext)(m:Nat)(env:Env)(loc:List O):Option Out:=run prog ext (.k ⟨59,m,[.tmp 4],false⟩ (.code L62a :: .inLoop L62a::K62a) env loc)
noncomputable def L62b : Code:=sub B62 [1,1,1,0,1,0,0]
theorem hL62b : It.code L62b=It.code (sub B62 [1,1,1,0,1,0,0]):=rfl
noncomputable def K62b : List It:=[.inBlock 2,.code (sub B62 [1,1,1,1])]
noncomputable def H62b (ext:Ext)(m:Nat)(env:Env)(loc:List O):Option Out:=run prog ext (.k ⟨59,m,[.tmp 4],false⟩ (.code L62b :: .inLoop L62b::K62b) env loc)
noncomputable def B63 : Code:=(f63.body.getD .skip)
noncomputable def L63a : Code:=sub B63 [1,1,0,1,0,0]
theorem sR1 : It.code L63a=It.code (sub B63 [1,1,0,1,0,0]):=rfl
noncomputable def K63a : List It:=[.inBlock 0,.code (sub B63 [1,1,1])]
noncomputable def H63a (ext:Ext)(m:Nat)(env:Env)(loc:List O):Option Out:=run prog ext (.k ⟨21,m,[.tmp 2],false⟩ (.code L63a :: .inLoop L63a::K63a) env loc)
noncomputable def B99 : Code:=(f99.body.getD .skip)
noncomputable def L99a : Code:=sub B99 [1,1,1,0,1,0,0]
theorem mI1 : It.code L99a=It.code (sub B99 [1,1,1,0,1,0,0]):=rfl
noncomputable def K99a : List It:=[.inBlock 0,.code (sub B99 [1,1,1,1])]
noncomputable def H99a (ext:Ext)(m:Nat)(env:Env)(loc:List O):Option Out:=run prog ext (.k ⟨71,m,[.tmp 4],false⟩ (.code L99a :: .inLoop L99a::K99a) env loc)
noncomputable def B57 : Code:=(f57.body.getD .skip)
noncomputable def L57a : Code:=sub B57 [1,1,0,1,0,0]
theorem sQ1 : It.code L57a=It.code (sub B57 [1,1,0,1,0,0]):=rfl
noncomputable def K57a : List It:=[.inBlock 0,.code (sub B57 [1,1,1])]
noncomputable def H57a (ext:Ext)(m:Nat)(env:Env)(loc:List O):Option Out:=run prog ext (.k ⟨27,m,[.tmp 6],false⟩ (.code L57a :: .inLoop L57a::K57a) env loc)
noncomputable def B31 : Code:=(f31.body.getD .skip)
noncomputable def L31a : Code:=sub B31 [1,1,0,1,0,0]
theorem sM1 : It.code L31a=It.code (sub B31 [1,1,0,1,0,0]):=rfl
noncomputable def K31a : List It:=[.inBlock 0,.code (sub B31 [1,1,1])]
noncomputable def H31a (ext:Ext)(m:Nat)(env:Env)(loc:List O):Option Out:=run prog ext (.k ⟨20,m,[.tmp 2],false⟩ (.code L31a :: .inLoop L31a::K31a) env loc)
theorem mV0 {x:Tm}{k:Nat} (h:(k:Int)<x.l.length):x.lD = .s 5 (x.l.map tmD) x.zl.g:=by unfold Tm.lD;exact aP0 (b:=k) (by omega) (by simpa using h)
theorem jL1 {x:Tm}{k:Nat} (h:(k:Int)<x.u.length):x.uD = .s 2 (x.u.map levD) x.zu.g:=by unfold Tm.uD;exact aP0 (b:=k) (by omega) (by simpa using h)
theorem bJ0 (look:Look)(x:Tm):lenA look (.c (.d x.lD))=eff (.c (.d (.v (.int .i64 x.l.length)))):=by unfold Tm.lD;rw[eZ0,List.length_map]
theorem yG0 (look:Look)(x:Tm):lenA look (.c (.d x.uD))=eff (.c (.d (.v (.int .i64 x.u.length)))):=by unfold Tm.uD;rw[eZ0,List.length_map]
theorem cY0 (look:Look)(x:Lev):lenA look (.c (.d x.d))=eff (.c (.d (.v (.int .i64 x.vs.length)))):=by unfold Lev.d;rw[eZ0,List.length_map]
theorem gV0 (look:Look)(x:Dc):lenA look (.c (.d x.d))=eff (.c (.d (.v (.int .i64 x.cons.length)))):=by unfold Dc.d;rw[eZ0,List.length_map]
theorem rC0 (look:Look)(x:Tb):lenA look (.c (.d x.d))=eff (.c (.d (.v (.int .i64 x.ds.length)))):=by unfold Tb.d;rw[eZ0,List.length_map]
def E62 (m n k:Int):Env:=[(1,iV m),(2,.c (.ptr 0 0)),(5,iV n),(6,iV k)]
def E62b (m n k:Int):Env:=[(1,iV m),(2,.c (.ptr 0 0)),(5,iV n),(7,iV k)]
def O62 (x:Tm):List O:=[.box (tmC x)]
theorem rZ1 (hx:ext 62=none)(x:Tm)(m:Int)(out:Option Out)(h:H62a ext 0 (E62 m 1 0) (O62 x)=out):run prog ext (.call 62 [tmV x,iV m] [])=out:=by
 unfold H62a at h
 (rw[enT hx func62 rfl];simp only[f62,zR,Nat.zero_le,simprocAttr,zE])
 simp only[tmV,tmC,dV,iV,E62,O62]at h ⊢
 simp only[zS,zD,aB0,aA0,zT33,zT31,zT30,zT3,simprocAttr]
 (refine(aC0 ?_).trans h;kernel_rfl)
theorem vL1 (x:Tm)(u:Lev)(m n:Int)(k:Nat)(hk:x.u[k]? = some u)(hl:(k:Int)<x.u.length)(h1:n≤m):∃ n',∀ out,H62a ext 0 (E62 m n' (wr ((k:Int)+1))) (O62 x)=out→H62a ext 0 (E62 m n k) (O62 x)=out:=by
 have h0:(0:Int)≤k:=by omega
 refine⟨wr (wr (n+1)+(if m<(u.vs.length:Int) then m else(u.vs.length:Int))),fun out h=> ?_⟩
 unfold H62a at h ⊢
 simp only[tmV,tmC,dV,iV,E62,O62,jL1 hl]at h ⊢
 (rw[hL62a];simp only[B62,K62a,sub,f62,↓reduceIte,zG])
 simp only[zS,zD,aB0,aA0,zT33,zT36,zT31,zT34,zT30,zT3,minA,h0,hl,h1,Int.toNat_natCast,hk,levD,cY0,simprocAttr]
 (refine(aC0 ?_).trans h;kernel_rfl)
theorem pR1 (x:Tm)(m n k:Int)(hl:¬ (k<x.u.length∧n≤m))(out:Option Out)(h:H62b ext 0 (E62b m n 0) (O62 x)=out):H62a ext 0 (E62 m n k) (O62 x)=out:=by
 unfold H62b at h
 unfold H62a
 simp only[tmV,tmC,dV,iV,E62,E62b,O62]at h ⊢
 (rw[hL62a];simp only[B62,K62a,sub,f62,↓reduceIte,zG])
 by_cases h1:k<x.u.length
 ·have h2:¬ n≤m:=fun e=>hl ⟨h1,e⟩
  simp only[zS,zD,aB0,aA0,zT33,zT36,zT31,zT30,zT3,yG0,h1,h2,simprocAttr]
  (refine(aC0 ?_).trans h;kernel_rfl)
 ·simp only[zS,zD,aB0,aA0,zT33,zT36,zT31,zT30,zT3,yG0,h1,simprocAttr]
  (refine(aC0 ?_).trans h;kernel_rfl)
theorem vM1 (x y:Tm)(m n r:Int)(k:Nat)(hk:x.l[k]? = some y)(hl:(k:Int)<x.l.length)(h1:n≤m)(hr:run prog ext (.call 62 [tmV y,iV (wr (m - n))] [])=some (.ret [iV r] []))(out:Option Out)(h:H62b ext 0 (E62b m (wr (n+r)) (wr ((k:Int)+1))) (O62 x)=out):H62b ext 0 (E62b m n k) (O62 x)=out:=by
 have h0:(0:Int)≤k:=by omega
 unfold H62b at h ⊢
 simp only[tmV,tmC,dV,iV,E62b,O62,mV0 hl]at h hr ⊢
 (rw[hL62b];simp only[B62,K62b,sub,f62,↓reduceIte,zG])
 simp only[zS,zD,aB0,aA0,zT33,zT36,zT31,zT30,zT3,h0,hl,h1,Int.toNat_natCast,hk,aX0 y,hr,simprocAttr]
 (refine(aC0 ?_).trans h;kernel_rfl)
theorem pS1 (x:Tm)(m n k:Int)(hl:¬ (k<x.l.length∧n≤m)):∃ o,H62b ext 0 (E62b m n k) (O62 x)=some o∧isI o:=by
 refine⟨.ret [iV (if wr (m+1)<n then wr (m+1) else n)] [],?_,_,rfl⟩
 unfold H62b
 simp only[tmV,tmC,dV,iV,E62b,O62]
 (rw[hL62b];simp only[B62,K62b,sub,f62,↓reduceIte,zG])
 by_cases h1:k<x.l.length
 ·have h2:¬ n≤m:=fun e=>hl ⟨h1,e⟩
  simp only[zS,zD,aB0,aA0,zT33,zT36,zT31,zT30,zT3,minA,bJ0,h1,h2,simprocAttr]
  (refine .trans ?_ rfl;kernel_rfl)
 ·simp only[zS,zD,aB0,aA0,zT33,zT36,zT31,zT30,zT3,minA,bJ0,h1,simprocAttr]
  (refine .trans ?_ rfl;kernel_rfl)
theorem hR1 (hx:ext 62=none):∀ (N:Nat)(x:Tm)(m:Int),x.sz≤N→N<2^60→∃ r,run prog ext (.call 62 [tmV x,iV m] [])=some (.ret [iV r] [])
 | 0,x,m,h,_=>by have:=x.sz_pos;omega
 | N+1,x,m,h,hN=>by
  have hul:=x.ulen_lt
  have hll:=x.len_lt
  have hb:∀ n,∃ o,H62b ext 0 (E62b m n 0) (O62 x)=some o∧isI o:=fun n=>
   mD0 x.l (fun k n=>H62b ext 0 (E62b m n k) (O62 x)) isI (by omega) (fun k y n hk hl=>by
    by_cases h1:n≤m
    ·obtain⟨r,hr⟩:=hR1 hx N y (wr (m - n)) (by have:=Tm.sz_lt (List.mem_of_getElem? hk);omega) (by omega)
     exact .inl ⟨_,fun out ho=>vM1 ext x y m n r k hk hl h1 hr out ho⟩
    ·exact .inr (pS1 ext x m n k (fun e=>h1 e.2))) (fun n=>pS1 ext x m n _ (fun e=>by omega)) n
  have ha:=mD0 x.u (fun k n=>H62a ext 0 (E62 m n k) (O62 x)) isI (by omega) (fun k u n hk hl=>by
    by_cases h1:n≤m
    ·exact .inl (vL1 ext x u m n k hk hl h1)
    ·obtain⟨o,h1',h2⟩:=hb n
     exact .inr ⟨o,pR1 ext x m n k (fun e=>h1 e.2) _ h1',h2⟩) (fun n=>by
    obtain⟨o,h1',h2⟩:=hb n
    exact⟨o,pR1 ext x m n _ (fun e=>by omega) _ h1',h2⟩) 1
  obtain⟨o,h1,r,rfl⟩:=ha
  exact⟨r,rZ1 ext hx x m _ h1⟩
def E63 (k:Int):Env:=[(1,.c (.ptr 0 0)),(3,iV k)]
theorem pM1 (hx:ext 63=none):∀ (N:Nat)(x:Tm),x.sz≤N→N<2^60→∃ b,run prog ext (.call 63 [tmV x] [])=some (.ret [bV b] [])
 | 0,x,h,_=>by have:=x.sz_pos;omega
 | N+1,x,h,hN=>by
  have hll:=x.len_lt
  by_cases h1:(x.s.size:Int)>200
  ·refine⟨true,?_⟩
   (rw[enT hx func63 rfl];simp only[f63,zR,Nat.zero_le,simprocAttr,zE])
   simp only[tmV,tmC,bV]
   simp only[zS,zD,aB0,aA0,zT33,zT9,zT31,zT3,h1,simprocAttr]
   (refine .trans ?_ rfl;kernel_rfl)
  have he:∀ out,H63a ext 0 (E63 0) (O62 x)=out→run prog ext (.call 63 [tmV x] [])=out:=by
   intro out h
   unfold H63a at h
   (rw[enT hx func63 rfl];simp only[f63,zR,Nat.zero_le,simprocAttr,zE])
   simp only[tmV,tmC,iV,E63,O62]at h ⊢
   simp only[zS,zD,aB0,aA0,zT33,zT9,zT31,zT3,h1,simprocAttr]
   (refine(aC0 ?_).trans h;kernel_rfl)
  have ha:=mD0 (σ:=Unit) x.l (fun k _=>H63a ext 0 (E63 k) (O62 x)) isB (by omega) (fun k y _ hk hl=>by
    have h0:(0:Int)≤k:=by omega
    obtain⟨b,hr⟩:=pM1 hx N y (by have:=Tm.sz_lt (List.mem_of_getElem? hk);omega) (by omega)
    cases b with
    | true=>
     refine .inr ⟨.ret [bV true] [],?_,_,rfl⟩
     unfold H63a
     simp only[tmV,tmC,dV,iV,bV,E63,O62,mV0 hl]at hr ⊢
     (rw[sR1];simp only[B63,K63a,sub,f63,↓reduceIte,zG])
     simp only[zS,zD,aB0,aA0,zT33,zT31,zT3,h0,hl,Int.toNat_natCast,hk,aX0 y,hr,simprocAttr]
     (refine .trans ?_ rfl;kernel_rfl)
    | false=>
     refine .inl ⟨(),fun out h=> ?_⟩
     unfold H63a at h ⊢
     simp only[tmV,tmC,dV,iV,bV,E63,O62,mV0 hl]at hr h ⊢
     (rw[sR1];simp only[B63,K63a,sub,f63,↓reduceIte,zG])
     simp only[zS,zD,aB0,aA0,zT33,zT31,zT3,h0,hl,Int.toNat_natCast,hk,aX0 y,hr,simprocAttr]
     (refine(aC0 ?_).trans h;kernel_rfl)) (fun _=>by
    refine⟨.ret [bV false] [],?_,_,rfl⟩
    unfold H63a
    simp only[tmV,tmC,dV,iV,bV,E63,O62]
    (rw[sR1];simp only[B63,K63a,sub,f63,↓reduceIte,zG])
    simp only[zS,zD,aB0,aA0,zT33,zT31,zT3,bJ0,Int.lt_irrefl,simprocAttr]
    (refine .trans ?_ rfl;kernel_rfl)) ()
  obtain⟨o,h1,b,rfl⟩:=ha
  exact⟨b,he _ h1⟩
theorem lY0 (hx:ext 17=none)(h62:ext 62=none)(h63:ext 63=none)(x:Tm)(m:Int)(hs:x.sz<2^50):∃ b,run prog ext (.call 17 [tmV x,iV m] [])=some (.ret [bV b] []):=by
 obtain⟨r,h1⟩:=hR1 ext h62 x.sz x m (Nat.le_refl _) (by omega)
 obtain⟨b,h2⟩:=pM1 ext h63 x.sz x (Nat.le_refl _) (by omega)
 by_cases c:r>m
 ·refine⟨true,?_⟩
  (rw[enT hx func17 rfl];simp only[f17,zR,Nat.zero_le,simprocAttr,zE])
  simp only[tmV,tmC,iV,bV]at h1 h2 ⊢
  simp only[zS,zD,aB0,aA0,zT33,zT3,h1,c,simprocAttr]
  (refine .trans ?_ rfl;kernel_rfl)
 ·refine⟨b,?_⟩
  (rw[enT hx func17 rfl];simp only[f17,zR,Nat.zero_le,simprocAttr,zE])
  simp only[tmV,tmC,iV,bV]at h1 h2 ⊢
  simp only[zS,zD,aB0,aA0,zT33,zT3,h1,h2,c,simprocAttr]
  (refine .trans ?_ rfl;kernel_rfl)
end
section
open Go
variable (ext:Ext)
noncomputable def B69 : Code:=(f69.body.getD .skip)
noncomputable def L69a : Code:=sub B69 [1,0,1,0,0]
theorem sS1 : It.code L69a=It.code (sub B69 [1,0,1,0,0]):=rfl
noncomputable def K69a : List It:=[.inBlock 0,.code (sub B69 [1,1])]
noncomputable def H69a (ext:Ext)(m:Nat)(env:Env)(loc:List O):Option Out:=run prog ext (.k ⟨19,m,[.tmp 4],false⟩ (.code L69a :: .inLoop L69a::K69a) env loc)
def Lev.ok (x:Lev):Prop:=x.vs.length<2^50
def Dc.ok (x:Dc):Prop:=x.type.sz<2^50∧x.body.sz<2^50∧x.param.sz<2^50∧x.cons.length<2^50∧∀ c∈x.cons,c.arg.sz<2^50
def Tb.ok (x:Tb):Prop:=x.ds.length<2^50∧∀ d∈x.ds,d.ok
theorem lT0 (x:Con):conD x=[.v (.string x.name),.v (.int .i64 x.arg.op),.v (.int .i64 x.arg.n),.v (.string x.arg.s),x.arg.uD,x.arg.lD]:=by simp[conD,aX0]
theorem nB0 {x:Dc}{k:Nat} (h:(k:Int)<x.cons.length):x.d = .s 6 (x.cons.map conD) x.z.g:=by unfold Dc.d;exact aP0 (b:=k) (by omega) (by simpa using h)
theorem jV0 {x:Tb}{k:Int} (h0:0≤k)(h:k<x.ds.length):x.d = .s 23 (x.ds.map dcD) x.z.g:=by unfold Tb.d;exact aP0 (b:=k) h0 (by simpa using h)
def E99 (m k:Int):Env:=[(1,iV m),(2,.c (.ptr 0 0)),(5,iV k)]
def O99 (x:Dc):List O:=[.box (dcC x)]
theorem decl99 (hx:ext 99=none)(h17:ext 17=none)(h62:ext 62=none)(h63:ext 63=none)(x:Dc)(m:Int)(hs:x.ok):∃ b,run prog ext (.call 99 [dcV x,iV m] [])=some (.ret [bV b] []):=by
 obtain⟨s1,s2,s3,s4,s5⟩:=hs
 obtain⟨b1,r1⟩:=lY0 ext h17 h62 h63 x.type m s1
 obtain⟨b2,r2⟩:=lY0 ext h17 h62 h63 x.body m s2
 obtain⟨b3,r3⟩:=lY0 ext h17 h62 h63 x.param m s3
 by_cases a1:(x.name.size:Int)>200
 ·refine⟨true,?_⟩
  (rw[enT hx func99 rfl];simp only[f99,zR,Nat.zero_le,simprocAttr,zE])
  simp only[dcV,dcC,bV,iV]
  simp only[zS,zD,aB0,aA0,zT39,zT9,zT36,zT37,zT34,zT3,cY0,gV0,a1,simprocAttr]
  (refine .trans ?_ rfl;kernel_rfl)
 by_cases a2:(x.cons.length:Int)>20
 ·refine⟨true,?_⟩
  (rw[enT hx func99 rfl];simp only[f99,zR,Nat.zero_le,simprocAttr,zE])
  simp only[dcV,dcC,bV,iV]
  simp only[zS,zD,aB0,aA0,zT39,zT9,zT36,zT37,zT34,zT3,cY0,gV0,a1,a2,simprocAttr]
  (refine .trans ?_ rfl;kernel_rfl)
 by_cases a3:(x.over.vs.length:Int)>20
 ·refine⟨true,?_⟩
  (rw[enT hx func99 rfl];simp only[f99,zR,Nat.zero_le,simprocAttr,zE])
  simp only[dcV,dcC,bV,iV]
  simp only[zS,zD,aB0,aA0,zT39,zT9,zT36,zT37,zT34,zT3,cY0,gV0,a1,a2,a3,simprocAttr]
  (refine .trans ?_ rfl;kernel_rfl)
 by_cases a4:(x.sort.vs.length:Int)>20
 ·refine⟨true,?_⟩
  (rw[enT hx func99 rfl];simp only[f99,zR,Nat.zero_le,simprocAttr,zE])
  simp only[dcV,dcC,bV,iV]
  simp only[zS,zD,aB0,aA0,zT39,zT9,zT36,zT37,zT34,zT3,cY0,gV0,a1,a2,a3,a4,simprocAttr]
  (refine .trans ?_ rfl;kernel_rfl)
 cases b1 with
 | true=>
  refine⟨true,?_⟩
  (rw[enT hx func99 rfl];simp only[f99,zR,Nat.zero_le,simprocAttr,zE])
  simp only[dcV,dcC,bV,iV,tmV,tmC]at r1 ⊢
  simp only[zS,zD,aB0,aA0,zT39,zT9,zT33,zT36,zT37,zT34,zT3,cY0,gV0,a1,a2,a3,a4,r1,simprocAttr]
  (refine .trans ?_ rfl;kernel_rfl)
 | false=>
 cases b2 with
 | true=>
  refine⟨true,?_⟩
  (rw[enT hx func99 rfl];simp only[f99,zR,Nat.zero_le,simprocAttr,zE])
  simp only[dcV,dcC,bV,iV,tmV,tmC]at r1 r2 ⊢
  simp only[zS,zD,aB0,aA0,zT39,zT9,zT33,zT36,zT37,zT34,zT3,cY0,gV0,a1,a2,a3,a4,r1,r2,simprocAttr]
  (refine .trans ?_ rfl;kernel_rfl)
 | false=>
 cases b3 with
 | true=>
  refine⟨true,?_⟩
  (rw[enT hx func99 rfl];simp only[f99,zR,Nat.zero_le,simprocAttr,zE])
  simp only[dcV,dcC,bV,iV,tmV,tmC]at r1 r2 r3 ⊢
  simp only[zS,zD,aB0,aA0,zT39,zT9,zT33,zT36,zT37,zT34,zT3,cY0,gV0,a1,a2,a3,a4,r1,r2,r3,simprocAttr]
  (refine .trans ?_ rfl;kernel_rfl)
 | false=>
  have he:∀ out,H99a ext 0 (E99 m 0) (O99 x)=out→run prog ext (.call 99 [dcV x,iV m] [])=out:=by
   intro out h
   unfold H99a at h
   (rw[enT hx func99 rfl];simp only[f99,zR,Nat.zero_le,simprocAttr,zE])
   simp only[dcV,dcC,bV,iV,tmV,tmC,E99,O99]at h r1 r2 r3 ⊢
   simp only[zS,zD,aB0,aA0,zT39,zT9,zT33,zT36,zT37,zT34,zT3,cY0,gV0,a1,a2,a3,a4,r1,r2,r3,simprocAttr]
   (refine(aC0 ?_).trans h;kernel_rfl)
  have ha:=mD0 (σ:=Unit) x.cons (fun k _=>H99a ext 0 (E99 m k) (O99 x)) isB (by omega) (fun k y _ hk hl=>by
    have h0:(0:Int)≤k:=by omega
    obtain⟨b,hr⟩:=lY0 ext h17 h62 h63 y.arg m (s5 y (List.mem_of_getElem? hk))
    by_cases c1:(y.name.size:Int)>200
    ·refine .inr ⟨.ret [bV true] [],?_,_,rfl⟩
     unfold H99a
     simp only[dcV,dcC,dV,iV,bV,tmV,tmC,E99,O99,nB0 hl]at hr ⊢
     (rw[mI1];simp only[B99,K99a,sub,f99,↓reduceIte,zG])
     simp only[zS,zD,aB0,aA0,zT39,zT98,zT9,zT33,zT37,zT3,h0,hl,Int.toNat_natCast,hk,lT0 y,c1,simprocAttr]
     (refine .trans ?_ rfl;kernel_rfl)
    cases b with
    | true=>
     refine .inr ⟨.ret [bV true] [],?_,_,rfl⟩
     unfold H99a
     simp only[dcV,dcC,dV,iV,bV,tmV,tmC,E99,O99,nB0 hl]at hr ⊢
     (rw[mI1];simp only[B99,K99a,sub,f99,↓reduceIte,zG])
     simp only[zS,zD,aB0,aA0,zT39,zT98,zT9,zT33,zT37,zT3,h0,hl,Int.toNat_natCast,hk,lT0 y,c1,hr,simprocAttr]
     (refine .trans ?_ rfl;kernel_rfl)
    | false=>
     refine .inl ⟨(),fun out h=> ?_⟩
     unfold H99a at h ⊢
     simp only[dcV,dcC,dV,iV,bV,tmV,tmC,E99,O99,nB0 hl]at hr h ⊢
     (rw[mI1];simp only[B99,K99a,sub,f99,↓reduceIte,zG])
     simp only[zS,zD,aB0,aA0,zT39,zT98,zT9,zT33,zT37,zT3,h0,hl,Int.toNat_natCast,hk,lT0 y,c1,hr,simprocAttr]
     (refine(aC0 ?_).trans h;kernel_rfl)) (fun _=>by
    refine⟨.ret [bV false] [],?_,_,rfl⟩
    unfold H99a
    simp only[dcV,dcC,dV,iV,bV,E99,O99]
    (rw[mI1];simp only[B99,K99a,sub,f99,↓reduceIte,zG])
    simp only[zS,zD,aB0,aA0,zT39,zT37,zT3,gV0,Int.lt_irrefl,simprocAttr]
    (refine .trans ?_ rfl;kernel_rfl)) ()
  obtain⟨o,h1,b,rfl⟩:=ha
  exact⟨b,he _ h1⟩
def E57 (m k:Int):Env:=[(2,iV m),(3,.c (.ptr 0 0)),(7,iV k)]
def O57 (x:Tb):List O:=[.box (tbC x)]
theorem vX1 (hx:ext 57=none)(h99:ext 99=none)(h17:ext 17=none)(h62:ext 62=none)(h63:ext 63=none)(x:Tb)(n m:Int)(hs:x.ok):∃ b,run prog ext (.call 57 [tbV x,iV n,iV m] [])=some (.ret [bV b] []):=by
 obtain⟨s1,s2⟩:=hs
 by_cases a1:(x.ds.length:Int)>n
 ·refine⟨true,?_⟩
  (rw[enT hx func57 rfl];simp only[f57,zR,Nat.zero_le,simprocAttr,zE])
  simp only[tbV,tbC,bV,iV]
  simp only[zS,zD,aB0,aA0,zT24,zT22,zT3,rC0,a1,simprocAttr]
  (refine .trans ?_ rfl;kernel_rfl)
 have he:∀ out,H57a ext 0 (E57 m 0) (O57 x)=out→run prog ext (.call 57 [tbV x,iV n,iV m] [])=out:=by
  intro out h
  unfold H57a at h
  (rw[enT hx func57 rfl];simp only[f57,zR,Nat.zero_le,simprocAttr,zE])
  simp only[tbV,tbC,bV,iV,E57,O57]at h ⊢
  simp only[zS,zD,aB0,aA0,zT24,zT22,zT3,rC0,a1,simprocAttr]
  (refine(aC0 ?_).trans h;kernel_rfl)
 have ha:=mD0 (σ:=Unit) x.ds (fun k _=>H57a ext 0 (E57 m k) (O57 x)) isB (by omega) (fun k y _ hk hl=>by
   have h0:(0:Int)≤k:=by omega
   obtain⟨b,hr⟩:=decl99 ext h99 h17 h62 h63 y m (s2 y (List.mem_of_getElem? hk))
   cases b with
   | true=>
    refine .inr ⟨.ret [bV true] [],?_,_,rfl⟩
    unfold H57a
    simp only[dcV,dcC,tbC,dV,iV,bV,E57,O57,jV0 h0 hl]at hr ⊢
    (rw[sQ1];simp only[B57,K57a,sub,f57,↓reduceIte,zG])
    simp only[zS,zD,aB0,aA0,zT39,zT24,zT22,zT3,h0,hl,Int.toNat_natCast,hk,iN0 y,hr,simprocAttr]
    (refine .trans ?_ rfl;kernel_rfl)
   | false=>
    refine .inl ⟨(),fun out h=> ?_⟩
    unfold H57a at h ⊢
    simp only[dcV,dcC,tbC,dV,iV,bV,E57,O57,jV0 h0 hl]at hr h ⊢
    (rw[sQ1];simp only[B57,K57a,sub,f57,↓reduceIte,zG])
    simp only[zS,zD,aB0,aA0,zT39,zT24,zT22,zT3,h0,hl,Int.toNat_natCast,hk,iN0 y,hr,simprocAttr]
    (refine(aC0 ?_).trans h;kernel_rfl)) (fun _=>by
   refine⟨.ret [bV false] [],?_,_,rfl⟩
   unfold H57a
   simp only[tbC,dV,iV,bV,E57,O57]
   (rw[sQ1];simp only[B57,K57a,sub,f57,↓reduceIte,zG])
   simp only[zS,zD,aB0,aA0,zT24,zT22,zT3,rC0,Int.lt_irrefl,simprocAttr]
   (refine .trans ?_ rfl;kernel_rfl)) ()
 obtain⟨o,h1,b,rfl⟩:=ha
 exact⟨b,he _ h1⟩
theorem sZ1 (hx:ext 13=none)(h57:ext 57=none)(h99:ext 99=none)(h17:ext 17=none)(h62:ext 62=none)(h63:ext 63=none)(x:Tb)(hs:x.ok):∃ b,run prog ext (.call 13 [tbV x] [])=some (.ret [bV b] []):=by
 obtain⟨b,hr⟩:=vX1 ext h57 h99 h17 h62 h63 x 40 400 hs
 refine⟨b,?_⟩
 (rw[enT hx func13 rfl];simp only[f13,zR,Nat.zero_le,simprocAttr,zE])
 simp only[tbV,tbC,bV,iV]at hr ⊢
 simp only[zS,zD,aB0,aA0,zT24,hr,simprocAttr]
 (refine .trans ?_ rfl;kernel_rfl)
def E31 (D:D)(k:Int):Env:=[(0,dV D),(3,iV k)]
theorem mO1 (hx:ext 31=none)(z:Fl)(l:List Lev)(hs:l.length<2^50):∃ b,run prog ext (.call 31 [dV (listD z 2 (l.map levD))] [])=some (.ret [bV b] []):=by
 by_cases a1:(l.length:Int)>20
 ·refine⟨true,?_⟩
  (rw[enT hx func31 rfl];simp only[f31,zR,Nat.zero_le,simprocAttr,zE])
  simp only[dV,bV]
  simp only[zS,zD,aB0,aA0,zT30,zT3,a1,simprocAttr]
  (refine .trans ?_ rfl;kernel_rfl)
 have he:∀ out,H31a ext 0 (E31 (listD z 2 (l.map levD)) 0) []=out→run prog ext (.call 31 [dV (listD z 2 (l.map levD))] [])=out:=by
  intro out h
  unfold H31a at h
  (rw[enT hx func31 rfl];simp only[f31,zR,Nat.zero_le,simprocAttr,zE])
  simp only[dV,iV,E31]at h ⊢
  simp only[zS,zD,aB0,aA0,zT30,zT3,a1,simprocAttr]
  (refine(aC0 ?_).trans h;kernel_rfl)
 have ha:=mD0 (σ:=Unit) l (fun k _=>H31a ext 0 (E31 (listD z 2 (l.map levD)) k) []) isB (by omega) (fun k y _ hk hl=>by
   have h0:(0:Int)≤k:=by omega
   have hd:listD z 2 (l.map levD) = .s 2 (l.map levD) z.g:=aP0 h0 (by simpa using hl)
   by_cases c1:(y.vs.length:Int)>20
   ·refine .inr ⟨.ret [bV true] [],?_,_,rfl⟩
    unfold H31a
    simp only[dV,iV,bV,E31,hd]
    (rw[sM1];simp only[B31,K31a,sub,f31,↓reduceIte,zG])
    simp only[zS,zD,aB0,aA0,zT36,zT30,zT34,zT3,h0,hl,Int.toNat_natCast,hk,levD,cY0,c1,simprocAttr]
    (refine .trans ?_ rfl;kernel_rfl)
   ·refine .inl ⟨(),fun out h=> ?_⟩
    unfold H31a at h ⊢
    simp only[dV,iV,bV,E31,hd]at h ⊢
    (rw[sM1];simp only[B31,K31a,sub,f31,↓reduceIte,zG])
    simp only[zS,zD,aB0,aA0,zT36,zT30,zT34,zT3,h0,hl,Int.toNat_natCast,hk,levD,cY0,c1,simprocAttr]
    (refine(aC0 ?_).trans h;kernel_rfl)) (fun _=>by
   refine⟨.ret [bV false] [],?_,_,rfl⟩
   unfold H31a
   simp only[dV,iV,bV,E31]
   (rw[sM1];simp only[B31,K31a,sub,f31,↓reduceIte,zG])
   simp only[zS,zD,aB0,aA0,zT30,zT3,Int.lt_irrefl,simprocAttr]
   (refine .trans ?_ rfl;kernel_rfl)) ()
 obtain⟨o,h1,b,rfl⟩:=ha
 exact⟨b,he _ h1⟩
def isNm (s:ByteArray)(d:Dc):Bool:=d.name.toList==s.toList
def find (t:Tb)(s:ByteArray):Int:=idxI (isNm s) t.ds
def E69 (x:Tb)(k:Int):Env:=[(0,dV x.d),(1,.c (.fn 70 [] [0])),(7,iV x.ds.length),(8,iV k)]
def O69 (s:ByteArray):List O:=[.box [.d (.v (.string s))]]
theorem clo70 (hx:ext 70=none)(y:Dc)(s:ByteArray):run prog ext (.call 70 [dcV y,.c (.ptr 0 0)] (O69 s))=some (.ret [bV (isNm s y)] (O69 s)):=by
 (rw[enT hx func70 rfl];simp only[f70,zR,Nat.zero_le,simprocAttr,zE])
 simp only[dcV,dcC,bV,O69,isNm]
 simp only[zS,zD,aB0,aA0,zT39,zT9,simprocAttr]
 (refine .trans ?_ rfl;kernel_rfl)
theorem idx69 (hx:ext 69=none)(h70:ext 70=none)(x:Tb)(s:ByteArray)(hs:x.ds.length<2^50):run prog ext (.call 69 [dV x.d,.c (.fn 70 [] [0])] (O69 s))=some (.ret [iV (find x s)] (O69 s)):=by
 have he:∀ out,H69a ext 1 (E69 x 0) (O69 s)=out→run prog ext (.call 69 [dV x.d,.c (.fn 70 [] [0])] (O69 s))=out:=by
  intro out h
  unfold H69a at h
  (rw[enT hx func69 rfl];simp only[f69,zR,Nat.zero_le,simprocAttr,zE])
  simp only[dV,iV,E69,O69]at h ⊢
  simp only[zS,zD,aB0,aA0,zT22,zT3,rC0,simprocAttr]
  (refine(aC0 ?_).trans h;kernel_rfl)
 refine he _ ?_
 have:=oL0 x.ds (fun k=>H69a ext 1 (E69 x k) (O69 s)) (isNm s) (fun k=>some (.ret [iV k] (O69 s))) (some (.ret [iV (-1)] (O69 s))) (by omega) (fun k y hk hl=>by
   have h0:(0:Int)≤k:=by omega
   have hr:=clo70 ext h70 y s
   have e:=cF0 (rec:=run prog ext) (look:=lk (O69 s)) (slot:=1) (f:=70) (args:=[dcV y,.c (.ptr 0 0)]) (ids:=[0]) (bor:=[]) (e:=⟨.val (bV (isNm s y)),[(0,.box [.d (.v (.string s))])],[0]⟩) (by kernel_rfl) hr (by kernel_rfl)
   unfold H69a
   refine⟨fun hp=> ?_,fun hp out h=> ?_⟩
   ·rw[hp]at e
    simp only[dV,iV,bV,dcV,dcC,E69,O69,jV0 h0 hl]at e ⊢
    (rw[sS1];simp only[B69,K69a,sub,f69,↓reduceIte,zG])
    simp only[zS,zD,aB0,aA0,zT39,zT22,zT3,h0,hl,Int.toNat_natCast,hk,iN0 y,e,simprocAttr]
    (refine .trans ?_ rfl;kernel_rfl)
   ·rw[hp]at e
    simp only[dV,iV,bV,dcV,dcC,E69,O69,jV0 h0 hl]at e h ⊢
    (rw[sS1];simp only[B69,K69a,sub,f69,↓reduceIte,zG])
    simp only[zS,zD,aB0,aA0,zT39,zT22,zT3,h0,hl,Int.toNat_natCast,hk,iN0 y,e,simprocAttr]
    (refine(aC0 ?_).trans h;kernel_rfl)) (by
   unfold H69a
   simp only[dV,iV,E69,O69]
   (rw[sS1];simp only[B69,K69a,sub,f69,↓reduceIte,zG])
   simp only[zS,zD,aB0,aA0,zT22,zT3,Int.lt_irrefl,simprocAttr]
   (refine .trans ?_ rfl;kernel_rfl))
 rw[this]
 unfold find idxI
 cases x.ds.findIdx? (isNm s) <;> rfl
theorem pD1 (hx:ext 22=none)(h69:ext 69=none)(h70:ext 70=none)(x:Tb)(s:ByteArray)(hs:x.ds.length<2^50):run prog ext (.call 22 [tbV x,sV s] [])=some (.ret [iV (find x s)] []):=by
 have hr:=idx69 ext h69 h70 x s hs
 have e:=cF0 (rec:=run prog ext) (look:=lk [.box (tbC x),.box [.d (.v (.string s))]]) (slot:=2) (f:=69) (args:=[dV x.d,.c (.fn 70 [] [1])]) (ids:=[1]) (bor:=[]) (e:=⟨.val (iV (find x s)),[(1,.box [.d (.v (.string s))])],[1]⟩) (by kernel_rfl) hr (by kernel_rfl)
 (rw[enT hx func22 rfl];simp only[f22,zR,Nat.zero_le,simprocAttr,zE])
 simp only[tbV,tbC,dV,iV,sV]at e ⊢
 simp only[zS,zD,aB0,aA0,zT24,zT22,zT9,zT3,e,simprocAttr]
 (refine .trans ?_ rfl;kernel_rfl)
end
end Go.Proofs.YteenjodhmppgjaaGreatDoor.Am
