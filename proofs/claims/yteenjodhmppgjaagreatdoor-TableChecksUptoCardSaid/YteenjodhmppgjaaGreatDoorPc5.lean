/- A part of the proof of a card. No conditions. -/
import Derived.Test.YteenjodhmppgjaaGreatDoorPc4
set_option linter.all false
set_option maxHeartbeats 16000000
set_option maxRecDepth 10000
namespace Go.Proofs.YteenjodhmppgjaaGreatDoor.Am
open Go.Proofs.Tryz
section
open Go
variable (ext:Ext)
def arB (t:Tm)(d:Dc):Bool:=((t.u.length:Int) != d.levels)||(((t.op==27)&&decide ((d.cons.length:Int)≤t.n))||((t.op==28)&&(wr ((t.l.length:Int) - 3) != (d.cons.length:Int))))
def ndE (t:Tm)(th fa:Dc × Bool):Int:=
 if(t.op==2)=true then(if th.2=true then(if((t.u.length:Int) != th.1.levels)=true then 42 else 0) else 41)
 else if((t.op==26)||((t.op==27)||(t.op==28)))=true then(if fa.2=true then(if arB t fa.1=true then 42 else 0) else 41)
 else 0
def errV (e:Int)(p:List Int):V:=if e=0 then dV (.v .nilIface) else erV e p
theorem uE1 (p:List Int):errV 41 p=erV 41 p:=rfl
theorem uF1 (p:List Int):errV 42 p=erV 42 p:=rfl
theorem qV0 (P:Program)(op:BinOp)(t:TypeId)(c:Bool):binB P op t c (.c (.d (.v (.pointer none)))) (.c (.d (.v (.pointer none))))=if vL0 P t=true then nilEq op true else none:=id rfl

theorem gK2 (hx:ext 109=none)(x:Tb)(t:Tm)(w:Int→D)(th:Dc × Bool)(e2:(t.op==2)=true)(r102:∀ c,run prog ext (.call 102 [iV c,dV nilD] [])=some (.ret [dV (w c)] []))(h78:run prog ext (.call 78 [tbV x,sV t.s] [])=some (.ret [dcV th.1,bV th.2] [])) :
  run prog ext (.call 109 [tbV x,dV (.v (.pointer none)),tmV t,dV nilD] [])=some (.ret [if th.2=true then(if((t.u.length:Int) != th.1.levels)=true then dV (w 42) else V.c (.d (.v .nilIface))) else dV (w 41)] []):=by
 obtain⟨d,b⟩:=th
 cases b with
 | false=>
  (rw[enT hx func109 rfl];simp only[f109,zR,simprocAttr,zE])
  simp only[tbV,tbC,dV,sV,iV,bV,tmV,tmC,dcV,dcC,nilD,Tm.uD]at r102 h78 ⊢
  simp only[zS,zD,zT24,zT39,zT33,zT9,zT3,h78,aF0,e2,r102,simprocAttr]
  (refine .trans ?_ rfl;kernel_rfl)
 | true=>
  cases c:((t.u.length:Int) != d.levels) with
  | true=>
   (rw[enT hx func109 rfl];simp only[f109,zR,simprocAttr,zE])
   simp only[tbV,tbC,dV,sV,iV,bV,tmV,tmC,dcV,dcC,nilD,Tm.uD]at r102 h78 ⊢
   simp only[zS,zD,zT24,zT39,zT33,zT30,zT9,zT3,h78,aF0,e2,c,r102,simprocAttr]
   (refine .trans ?_ rfl;kernel_rfl)
  | false=>
   (rw[enT hx func109 rfl];simp only[f109,zR,simprocAttr,zE])
   simp only[tbV,tbC,dV,sV,iV,bV,tmV,tmC,dcV,dcC,nilD,Tm.uD]at r102 h78 ⊢
   simp only[zS,zD,zT24,zT39,zT33,zT30,zT9,zT3,h78,aF0,e2,c,simprocAttr]
   (refine .trans ?_ rfl;kernel_rfl)

theorem gG2 (hx:ext 109=none)(x:Tb)(t:Tm)(e2:(t.op==2)=false)(e26:(t.op==26)=false)(e27:(t.op==27)=false)(e28:(t.op==28)=false)  :
  run prog ext (.call 109 [tbV x,dV (.v (.pointer none)),tmV t,dV nilD] [])=some (.ret [V.c (.d (.v .nilIface))] []):=by
 (rw[enT hx func109 rfl];simp only[f109,zR,simprocAttr,zE])
 simp only[tbV,tbC,dV,tmV,tmC,nilD,Tm.uD]
 simp only[zS,zD,bJ0,zT3,e2,e26,e27,e28,simprocAttr]
 (refine .trans ?_ rfl;kernel_rfl)

theorem xM1 (hx:ext 109=none)(x:Tb)(t:Tm)(w:Int→D)(fa:Dc × Bool)(e2:(t.op==2)=false)(e26:(t.op==26)=true)(e27:(t.op==27)=false)(e28:(t.op==28)=false)(r102:∀ c,run prog ext (.call 102 [iV c,dV nilD] [])=some (.ret [dV (w c)] []))(h71:run prog ext (.call 71 [tbV x,sV t.s] [])=some (.ret [dcV fa.1,bV fa.2] [])) :
  run prog ext (.call 109 [tbV x,dV (.v (.pointer none)),tmV t,dV nilD] [])=some (.ret [if fa.2=true then(if arB t fa.1=true then dV (w 42) else V.c (.d (.v .nilIface))) else dV (w 41)] []):=by
 obtain⟨d,b⟩:=fa
 cases b with
 | false=>
  (rw[enT hx func109 rfl];simp only[f109,zR,simprocAttr,zE])
  simp only[tbV,tbC,dV,sV,iV,bV,tmV,tmC,dcV,dcC,nilD,Tm.uD]at r102 h71 ⊢
  simp only[zS,zD,zT24,zT39,zT33,zT9,zT3,h71,aF0,e2,e26,simprocAttr]
  refine bB0 ?_
  simp only[zS,zD,cC0,qV0,bN0,bA0,aQ0,aO0,aP0,aC0,aD0,Array.size,List.length,simprocAttr]
  rw[aB0 _ _ _ _ (by kernel_rfl)]
  simp only[zS,zD,r102,simprocAttr]
  (refine .trans ?_ rfl;kernel_rfl)
 | true=>
  unfold arB
  cases c:((t.u.length:Int) != d.levels) with
  | true=>
   (rw[enT hx func109 rfl];simp only[f109,zR,simprocAttr,zE])
   simp only[tbV,tbC,dV,sV,iV,bV,tmV,tmC,dcV,dcC,nilD,Tm.uD]at r102 h71 ⊢
   simp only[zS,zD,zT24,zT39,zT33,zT9,zT3,h71,aF0,e2,e26,e27,e28,simprocAttr]
   refine bB0 ?_
   simp only[zS,zD,bN0,bA0,aQ0,aO0,aP0,aC0,aD0,Array.size,List.length,simprocAttr]
   rw[aB0 _ _ _ _ (by kernel_rfl)]
   simp only[zS,zD,bG0,aT0,zT30,zT3,c,r102,simprocAttr]
   (refine .trans ?_ rfl;kernel_rfl)
  | false=>
   simp only[e27,e28,Bool.false_and,Bool.or_false]
   (rw[enT hx func109 rfl];simp only[f109,zR,simprocAttr,zE])
   simp only[tbV,tbC,dV,sV,iV,bV,tmV,tmC,dcV,dcC,nilD,Tm.uD]at r102 h71 ⊢
   simp only[zS,zD,zT24,zT39,zT33,zT9,zT3,h71,aF0,e2,e26,simprocAttr]
   refine bB0 ?_
   simp only[zS,zD,bN0,bA0,aQ0,aO0,aP0,aC0,aD0,Array.size,List.length,simprocAttr]
   rw[aB0 _ _ _ _ (by kernel_rfl)]
   simp only[zS,zD,bG0,zT33,zT30,zT3,e27,e28,c,simprocAttr]
   (refine .trans ?_ rfl;kernel_rfl)

theorem xO1 (hx:ext 109=none)(x:Tb)(t:Tm)(w:Int→D)(fa:Dc × Bool)(e2:(t.op==2)=false)(e26:(t.op==26)=false)(e27:(t.op==27)=true)(e28:(t.op==28)=false)(r102:∀ c,run prog ext (.call 102 [iV c,dV nilD] [])=some (.ret [dV (w c)] []))(h71:run prog ext (.call 71 [tbV x,sV t.s] [])=some (.ret [dcV fa.1,bV fa.2] [])) :
  run prog ext (.call 109 [tbV x,dV (.v (.pointer none)),tmV t,dV nilD] [])=some (.ret [if fa.2=true then(if arB t fa.1=true then dV (w 42) else V.c (.d (.v .nilIface))) else dV (w 41)] []):=by
 obtain⟨d,b⟩:=fa
 cases b with
 | false=>
  (rw[enT hx func109 rfl];simp only[f109,zR,simprocAttr,zE])
  simp only[tbV,tbC,dV,sV,iV,bV,tmV,tmC,dcV,dcC,nilD,Tm.uD]at r102 h71 ⊢
  simp only[zS,zD,zT24,zT39,zT33,zT9,zT3,h71,aF0,e2,e26,e27,simprocAttr]
  refine bB0 ?_
  simp only[zS,zD,cC0,qV0,bN0,bA0,aQ0,aO0,aP0,aC0,aD0,Array.size,List.length,simprocAttr]
  rw[aB0 _ _ _ _ (by kernel_rfl)]
  simp only[zS,zD,r102,simprocAttr]
  (refine .trans ?_ rfl;kernel_rfl)
 | true=>
  unfold arB
  cases c:((t.u.length:Int) != d.levels) with
  | true=>
   (rw[enT hx func109 rfl];simp only[f109,zR,simprocAttr,zE])
   simp only[tbV,tbC,dV,sV,iV,bV,tmV,tmC,dcV,dcC,nilD,Tm.uD]at r102 h71 ⊢
   simp only[zS,zD,zT24,zT39,zT33,zT9,zT3,h71,aF0,e2,e26,e27,e28,simprocAttr]
   refine bB0 ?_
   simp only[zS,zD,bN0,bA0,aQ0,aO0,aP0,aC0,aD0,Array.size,List.length,simprocAttr]
   rw[aB0 _ _ _ _ (by kernel_rfl)]
   simp only[zS,zD,bG0,aT0,zT30,zT3,c,r102,simprocAttr]
   (refine .trans ?_ rfl;kernel_rfl)
  | false=>
   cases c2:decide ((d.cons.length:Int)≤t.n) with
   | true=>
    simp only[e27,e28,Bool.true_and,Bool.false_and,Bool.false_or,Bool.or_false]
    (rw[enT hx func109 rfl];simp only[f109,zR,simprocAttr,zE])
    simp only[tbV,tbC,dV,sV,iV,bV,tmV,tmC,dcV,dcC,nilD,Tm.uD]at r102 h71 ⊢
    simp only[zS,zD,zT24,zT39,zT33,zT9,zT3,h71,aF0,e2,e26,e27,simprocAttr]
    refine bB0 ?_
    simp only[zS,zD,bN0,bA0,aQ0,aO0,aP0,aC0,aD0,Array.size,List.length,simprocAttr]
    rw[aB0 _ _ _ _ (by kernel_rfl)]
    simp only[zS,zD,zT39,zT33,zT30,zT37,zT3,aS0,ge_iff_le,e27,c,c2,r102,simprocAttr]
    (refine .trans ?_ rfl;kernel_rfl)
   | false=>
    simp only[e27,e28,Bool.true_and,Bool.false_and,Bool.or_false]
    (rw[enT hx func109 rfl];simp only[f109,zR,simprocAttr,zE])
    simp only[tbV,tbC,dV,sV,iV,bV,tmV,tmC,dcV,dcC,nilD,Tm.uD]at r102 h71 ⊢
    simp only[zS,zD,zT24,zT39,zT33,zT9,zT3,h71,aF0,e2,e26,e27,simprocAttr]
    refine bB0 ?_
    simp only[zS,zD,bN0,bA0,aQ0,aO0,aP0,aC0,aD0,Array.size,List.length,simprocAttr]
    rw[aB0 _ _ _ _ (by kernel_rfl)]
    simp only[zS,zD,zT39,zT33,zT30,zT37,zT3,aS0,ge_iff_le,e27,e28,c,c2,simprocAttr]
    (refine .trans ?_ rfl;kernel_rfl)

theorem xS1 (hx:ext 109=none)(x:Tb)(t:Tm)(w:Int→D)(fa:Dc × Bool)(e2:(t.op==2)=false)(e26:(t.op==26)=false)(e27:(t.op==27)=false)(e28:(t.op==28)=true)(r102:∀ c,run prog ext (.call 102 [iV c,dV nilD] [])=some (.ret [dV (w c)] []))(h71:run prog ext (.call 71 [tbV x,sV t.s] [])=some (.ret [dcV fa.1,bV fa.2] [])) :
  run prog ext (.call 109 [tbV x,dV (.v (.pointer none)),tmV t,dV nilD] [])=some (.ret [if fa.2=true then(if arB t fa.1=true then dV (w 42) else V.c (.d (.v .nilIface))) else dV (w 41)] []):=by
 obtain⟨d,b⟩:=fa
 cases b with
 | false=>
  (rw[enT hx func109 rfl];simp only[f109,zR,simprocAttr,zE])
  simp only[tbV,tbC,dV,sV,iV,bV,tmV,tmC,dcV,dcC,nilD,Tm.uD]at r102 h71 ⊢
  simp only[zS,zD,zT24,zT39,zT33,zT9,zT3,h71,aF0,e2,e26,e27,e28,simprocAttr]
  refine bB0 ?_
  simp only[zS,zD,cC0,qV0,bN0,bA0,aQ0,aO0,aP0,aC0,aD0,Array.size,List.length,simprocAttr]
  rw[aB0 _ _ _ _ (by kernel_rfl)]
  simp only[zS,zD,r102,simprocAttr]
  (refine .trans ?_ rfl;kernel_rfl)
 | true=>
  unfold arB
  cases c:((t.u.length:Int) != d.levels) with
  | true=>
   (rw[enT hx func109 rfl];simp only[f109,zR,simprocAttr,zE])
   simp only[tbV,tbC,dV,sV,iV,bV,tmV,tmC,dcV,dcC,nilD,Tm.uD]at r102 h71 ⊢
   simp only[zS,zD,zT24,zT39,zT33,zT9,zT3,h71,aF0,e2,e26,e27,e28,simprocAttr]
   refine bB0 ?_
   simp only[zS,zD,bN0,bA0,aQ0,aO0,aP0,aC0,aD0,Array.size,List.length,simprocAttr]
   rw[aB0 _ _ _ _ (by kernel_rfl)]
   simp only[zS,zD,bG0,aT0,zT30,zT3,c,r102,simprocAttr]
   (refine .trans ?_ rfl;kernel_rfl)
  | false=>
   cases c2:(wr ((t.l.length:Int) - 3) != (d.cons.length:Int)) with
   | true=>
    simp only[e27,e28,Bool.true_and,Bool.false_and,Bool.false_or]
    (rw[enT hx func109 rfl];simp only[f109,zR,simprocAttr,zE])
    simp only[tbV,tbC,dV,sV,iV,bV,tmV,tmC,dcV,dcC,nilD,Tm.uD]at r102 h71 ⊢
    simp only[zS,zD,zT24,zT39,zT33,zT9,zT3,h71,aF0,e2,e26,e27,e28,simprocAttr]
    refine bB0 ?_
    simp only[zS,zD,bN0,bA0,aQ0,aO0,aP0,aC0,aD0,Array.size,List.length,simprocAttr]
    rw[aB0 _ _ _ _ (by kernel_rfl)]
    simp only[zS,zD,zT39,zT33,zT31,zT30,zT37,zT3,aS0,e27,e28,aI0,c,c2,r102,simprocAttr]
    (refine .trans ?_ rfl;kernel_rfl)
   | false=>
    simp only[e27,e28,Bool.true_and,Bool.false_and,Bool.or_false]
    (rw[enT hx func109 rfl];simp only[f109,zR,simprocAttr,zE])
    simp only[tbV,tbC,dV,sV,iV,bV,tmV,tmC,dcV,dcC,nilD,Tm.uD]at r102 h71 ⊢
    simp only[zS,zD,zT24,zT39,zT33,zT9,zT3,h71,aF0,e2,e26,e27,e28,simprocAttr]
    refine bB0 ?_
    simp only[zS,zD,bN0,bA0,aQ0,aO0,aP0,aC0,aD0,Array.size,List.length,simprocAttr]
    rw[aB0 _ _ _ _ (by kernel_rfl)]
    simp only[zS,zD,zT39,zT33,zT31,zT30,zT37,zT3,aS0,e27,e28,aI0,c,c2,simprocAttr]
    (refine .trans ?_ rfl;kernel_rfl)

theorem gN2 (hx:ext 109=none)(x:Tb)(t:Tm)(w:Int→D)(th:Dc × Bool)(e2:(t.op==2)=true)(els:List (List D))(hs:cP0 els els=true)(r102:∀ c,run prog ext (.call 102 [iV c,.c (.own 0)] [.stk 1 els none true])=some (.ret [dV (w c)] [.stk 1 els none true]))(h78:run prog ext (.call 78 [tbV x,sV t.s] [])=some (.ret [dcV th.1,bV th.2] [])) :
  run prog ext (.call 109 [tbV x,dV (.v (.pointer none)),tmV t,.c (.own 0)] [.stk 1 els none true])=some (.ret [if th.2=true then(if((t.u.length:Int) != th.1.levels)=true then dV (w 42) else V.c (.d (.v .nilIface))) else dV (w 41)] [.stk 1 els none true]):=by
 obtain⟨d,b⟩:=th
 cases b with
 | false=>
  (rw[enT hx func109 rfl];simp only[f109,zR,simprocAttr,zE])
  simp only[tbV,tbC,dV,sV,iV,bV,tmV,tmC,dcV,dcC,Tm.uD]at r102 h78 ⊢
  simp only[zS,zD,zT24,zT39,zT33,zT9,zT3,h78,aF0,e2,aU0,(id rfl:ownF 102=true),aN0,r102,aW0,bT0,hs,simprocAttr]
  (refine .trans ?_ rfl;kernel_rfl)
 | true=>
  cases c:((t.u.length:Int) != d.levels) with
  | true=>
   (rw[enT hx func109 rfl];simp only[f109,zR,simprocAttr,zE])
   simp only[tbV,tbC,dV,sV,iV,bV,tmV,tmC,dcV,dcC,Tm.uD]at r102 h78 ⊢
   simp only[zS,zD,zT24,zT39,zT33,zT30,zT9,zT3,h78,aF0,e2,c,aU0,(id rfl:ownF 102=true),aN0,r102,aW0,bT0,hs,simprocAttr]
   (refine .trans ?_ rfl;kernel_rfl)
  | false=>
   (rw[enT hx func109 rfl];simp only[f109,zR,simprocAttr,zE])
   simp only[tbV,tbC,dV,sV,iV,bV,tmV,tmC,dcV,dcC,Tm.uD]at r102 h78 ⊢
   simp only[zS,zD,zT24,zT39,zT33,zT30,zT9,zT3,h78,aF0,e2,c,simprocAttr]
   (refine .trans ?_ rfl;kernel_rfl)

theorem gJ2 (hx:ext 109=none)(x:Tb)(t:Tm)(e2:(t.op==2)=false)(e26:(t.op==26)=false)(e27:(t.op==27)=false)(e28:(t.op==28)=false)(els:List (List D)) :
  run prog ext (.call 109 [tbV x,dV (.v (.pointer none)),tmV t,.c (.own 0)] [.stk 1 els none true])=some (.ret [V.c (.d (.v .nilIface))] [.stk 1 els none true]):=by
 (rw[enT hx func109 rfl];simp only[f109,zR,simprocAttr,zE])
 simp only[tbV,tbC,dV,tmV,tmC,Tm.uD]
 simp only[zS,zD,bJ0,zT3,e2,e26,e27,e28,simprocAttr]
 (refine .trans ?_ rfl;kernel_rfl)

theorem xN1 (hx:ext 109=none)(x:Tb)(t:Tm)(w:Int→D)(fa:Dc × Bool)(e2:(t.op==2)=false)(e26:(t.op==26)=true)(e27:(t.op==27)=false)(e28:(t.op==28)=false)(els:List (List D))(hs:cP0 els els=true)(r102:∀ c,run prog ext (.call 102 [iV c,.c (.own 0)] [.stk 1 els none true])=some (.ret [dV (w c)] [.stk 1 els none true]))(h71:run prog ext (.call 71 [tbV x,sV t.s] [])=some (.ret [dcV fa.1,bV fa.2] [])) :
  run prog ext (.call 109 [tbV x,dV (.v (.pointer none)),tmV t,.c (.own 0)] [.stk 1 els none true])=some (.ret [if fa.2=true then(if arB t fa.1=true then dV (w 42) else V.c (.d (.v .nilIface))) else dV (w 41)] [.stk 1 els none true]):=by
 obtain⟨d,b⟩:=fa
 cases b with
 | false=>
  (rw[enT hx func109 rfl];simp only[f109,zR,simprocAttr,zE])
  simp only[tbV,tbC,dV,sV,iV,bV,tmV,tmC,dcV,dcC,Tm.uD]at r102 h71 ⊢
  simp only[zS,zD,zT24,zT39,zT33,zT9,zT3,h71,aF0,e2,e26,simprocAttr]
  refine bB0 ?_
  simp only[zS,zD,cC0,qV0,bN0,bA0,aQ0,aO0,aP0,aC0,aD0,Array.size,List.length,simprocAttr]
  rw[aB0 _ _ _ _ (by kernel_rfl)]
  simp only[zS,zD,aU0,(id rfl:ownF 102=true),aN0,r102,aW0,bT0,hs,simprocAttr]
  (refine .trans ?_ rfl;kernel_rfl)
 | true=>
  unfold arB
  cases c:((t.u.length:Int) != d.levels) with
  | true=>
   (rw[enT hx func109 rfl];simp only[f109,zR,simprocAttr,zE])
   simp only[tbV,tbC,dV,sV,iV,bV,tmV,tmC,dcV,dcC,Tm.uD]at r102 h71 ⊢
   simp only[zS,zD,zT24,zT39,zT33,zT9,zT3,h71,aF0,e2,e26,e27,e28,simprocAttr]
   refine bB0 ?_
   simp only[zS,zD,bN0,bA0,aQ0,aO0,aP0,aC0,aD0,Array.size,List.length,simprocAttr]
   rw[aB0 _ _ _ _ (by kernel_rfl)]
   simp only[zS,zD,bG0,aT0,zT30,zT3,c,aU0,(id rfl:ownF 102=true),aN0,r102,aW0,bT0,hs,simprocAttr]
   (refine .trans ?_ rfl;kernel_rfl)
  | false=>
   simp only[e27,e28,Bool.false_and,Bool.or_false]
   (rw[enT hx func109 rfl];simp only[f109,zR,simprocAttr,zE])
   simp only[tbV,tbC,dV,sV,iV,bV,tmV,tmC,dcV,dcC,Tm.uD]at r102 h71 ⊢
   simp only[zS,zD,zT24,zT39,zT33,zT9,zT3,h71,aF0,e2,e26,simprocAttr]
   refine bB0 ?_
   simp only[zS,zD,bN0,bA0,aQ0,aO0,aP0,aC0,aD0,Array.size,List.length,simprocAttr]
   rw[aB0 _ _ _ _ (by kernel_rfl)]
   simp only[zS,zD,bG0,zT33,zT30,zT3,e27,e28,c,simprocAttr]
   (refine .trans ?_ rfl;kernel_rfl)

theorem xR1 (hx:ext 109=none)(x:Tb)(t:Tm)(w:Int→D)(fa:Dc × Bool)(e2:(t.op==2)=false)(e26:(t.op==26)=false)(e27:(t.op==27)=true)(e28:(t.op==28)=false)(els:List (List D))(hs:cP0 els els=true)(r102:∀ c,run prog ext (.call 102 [iV c,.c (.own 0)] [.stk 1 els none true])=some (.ret [dV (w c)] [.stk 1 els none true]))(h71:run prog ext (.call 71 [tbV x,sV t.s] [])=some (.ret [dcV fa.1,bV fa.2] [])) :
  run prog ext (.call 109 [tbV x,dV (.v (.pointer none)),tmV t,.c (.own 0)] [.stk 1 els none true])=some (.ret [if fa.2=true then(if arB t fa.1=true then dV (w 42) else V.c (.d (.v .nilIface))) else dV (w 41)] [.stk 1 els none true]):=by
 obtain⟨d,b⟩:=fa
 cases b with
 | false=>
  (rw[enT hx func109 rfl];simp only[f109,zR,simprocAttr,zE])
  simp only[tbV,tbC,dV,sV,iV,bV,tmV,tmC,dcV,dcC,Tm.uD]at r102 h71 ⊢
  simp only[zS,zD,zT24,zT39,zT33,zT9,zT3,h71,aF0,e2,e26,e27,simprocAttr]
  refine bB0 ?_
  simp only[zS,zD,cC0,qV0,bN0,bA0,aQ0,aO0,aP0,aC0,aD0,Array.size,List.length,simprocAttr]
  rw[aB0 _ _ _ _ (by kernel_rfl)]
  simp only[zS,zD,aU0,(id rfl:ownF 102=true),aN0,r102,aW0,bT0,hs,simprocAttr]
  (refine .trans ?_ rfl;kernel_rfl)
 | true=>
  unfold arB
  cases c:((t.u.length:Int) != d.levels) with
  | true=>
   (rw[enT hx func109 rfl];simp only[f109,zR,simprocAttr,zE])
   simp only[tbV,tbC,dV,sV,iV,bV,tmV,tmC,dcV,dcC,Tm.uD]at r102 h71 ⊢
   simp only[zS,zD,zT24,zT39,zT33,zT9,zT3,h71,aF0,e2,e26,e27,e28,simprocAttr]
   refine bB0 ?_
   simp only[zS,zD,bN0,bA0,aQ0,aO0,aP0,aC0,aD0,Array.size,List.length,simprocAttr]
   rw[aB0 _ _ _ _ (by kernel_rfl)]
   simp only[zS,zD,bG0,aT0,zT30,zT3,c,aU0,(id rfl:ownF 102=true),aN0,r102,aW0,bT0,hs,simprocAttr]
   (refine .trans ?_ rfl;kernel_rfl)
  | false=>
   cases c2:decide ((d.cons.length:Int)≤t.n) with
   | true=>
    simp only[e27,e28,Bool.true_and,Bool.false_and,Bool.false_or,Bool.or_false]
    (rw[enT hx func109 rfl];simp only[f109,zR,simprocAttr,zE])
    simp only[tbV,tbC,dV,sV,iV,bV,tmV,tmC,dcV,dcC,Tm.uD]at r102 h71 ⊢
    simp only[zS,zD,zT24,zT39,zT33,zT9,zT3,h71,aF0,e2,e26,e27,simprocAttr]
    refine bB0 ?_
    simp only[zS,zD,bN0,bA0,aQ0,aO0,aP0,aC0,aD0,Array.size,List.length,simprocAttr]
    rw[aB0 _ _ _ _ (by kernel_rfl)]
    simp only[zS,zD,zT39,zT33,zT30,zT37,zT3,aS0,ge_iff_le,e27,c,c2,aU0,(id rfl:ownF 102=true),aN0,r102,aW0,bT0,hs,simprocAttr]
    (refine .trans ?_ rfl;kernel_rfl)
   | false=>
    simp only[e27,e28,Bool.true_and,Bool.false_and,Bool.or_false]
    (rw[enT hx func109 rfl];simp only[f109,zR,simprocAttr,zE])
    simp only[tbV,tbC,dV,sV,iV,bV,tmV,tmC,dcV,dcC,Tm.uD]at r102 h71 ⊢
    simp only[zS,zD,zT24,zT39,zT33,zT9,zT3,h71,aF0,e2,e26,e27,simprocAttr]
    refine bB0 ?_
    simp only[zS,zD,bN0,bA0,aQ0,aO0,aP0,aC0,aD0,Array.size,List.length,simprocAttr]
    rw[aB0 _ _ _ _ (by kernel_rfl)]
    simp only[zS,zD,zT39,zT33,zT30,zT37,zT3,aS0,ge_iff_le,e27,e28,c,c2,simprocAttr]
    (refine .trans ?_ rfl;kernel_rfl)

theorem xV1 (hx:ext 109=none)(x:Tb)(t:Tm)(w:Int→D)(fa:Dc × Bool)(e2:(t.op==2)=false)(e26:(t.op==26)=false)(e27:(t.op==27)=false)(e28:(t.op==28)=true)(els:List (List D))(hs:cP0 els els=true)(r102:∀ c,run prog ext (.call 102 [iV c,.c (.own 0)] [.stk 1 els none true])=some (.ret [dV (w c)] [.stk 1 els none true]))(h71:run prog ext (.call 71 [tbV x,sV t.s] [])=some (.ret [dcV fa.1,bV fa.2] [])) :
  run prog ext (.call 109 [tbV x,dV (.v (.pointer none)),tmV t,.c (.own 0)] [.stk 1 els none true])=some (.ret [if fa.2=true then(if arB t fa.1=true then dV (w 42) else V.c (.d (.v .nilIface))) else dV (w 41)] [.stk 1 els none true]):=by
 obtain⟨d,b⟩:=fa
 cases b with
 | false=>
  (rw[enT hx func109 rfl];simp only[f109,zR,simprocAttr,zE])
  simp only[tbV,tbC,dV,sV,iV,bV,tmV,tmC,dcV,dcC,Tm.uD]at r102 h71 ⊢
  simp only[zS,zD,zT24,zT39,zT33,zT9,zT3,h71,aF0,e2,e26,e27,e28,simprocAttr]
  refine bB0 ?_
  simp only[zS,zD,cC0,qV0,bN0,bA0,aQ0,aO0,aP0,aC0,aD0,Array.size,List.length,simprocAttr]
  rw[aB0 _ _ _ _ (by kernel_rfl)]
  simp only[zS,zD,aU0,(id rfl:ownF 102=true),aN0,r102,aW0,bT0,hs,simprocAttr]
  (refine .trans ?_ rfl;kernel_rfl)
 | true=>
  unfold arB
  cases c:((t.u.length:Int) != d.levels) with
  | true=>
   (rw[enT hx func109 rfl];simp only[f109,zR,simprocAttr,zE])
   simp only[tbV,tbC,dV,sV,iV,bV,tmV,tmC,dcV,dcC,Tm.uD]at r102 h71 ⊢
   simp only[zS,zD,zT24,zT39,zT33,zT9,zT3,h71,aF0,e2,e26,e27,e28,simprocAttr]
   refine bB0 ?_
   simp only[zS,zD,bN0,bA0,aQ0,aO0,aP0,aC0,aD0,Array.size,List.length,simprocAttr]
   rw[aB0 _ _ _ _ (by kernel_rfl)]
   simp only[zS,zD,bG0,aT0,zT30,zT3,c,aU0,(id rfl:ownF 102=true),aN0,r102,aW0,bT0,hs,simprocAttr]
   (refine .trans ?_ rfl;kernel_rfl)
  | false=>
   cases c2:(wr ((t.l.length:Int) - 3) != (d.cons.length:Int)) with
   | true=>
    simp only[e27,e28,Bool.true_and,Bool.false_and,Bool.false_or]
    (rw[enT hx func109 rfl];simp only[f109,zR,simprocAttr,zE])
    simp only[tbV,tbC,dV,sV,iV,bV,tmV,tmC,dcV,dcC,Tm.uD]at r102 h71 ⊢
    simp only[zS,zD,zT24,zT39,zT33,zT9,zT3,h71,aF0,e2,e26,e27,e28,simprocAttr]
    refine bB0 ?_
    simp only[zS,zD,bN0,bA0,aQ0,aO0,aP0,aC0,aD0,Array.size,List.length,simprocAttr]
    rw[aB0 _ _ _ _ (by kernel_rfl)]
    simp only[zS,zD,zT39,zT33,zT31,zT30,zT37,zT3,aS0,e27,e28,aI0,c,c2,aU0,(id rfl:ownF 102=true),aN0,r102,aW0,bT0,hs,simprocAttr]
    (refine .trans ?_ rfl;kernel_rfl)
   | false=>
    simp only[e27,e28,Bool.true_and,Bool.false_and,Bool.or_false]
    (rw[enT hx func109 rfl];simp only[f109,zR,simprocAttr,zE])
    simp only[tbV,tbC,dV,sV,iV,bV,tmV,tmC,dcV,dcC,Tm.uD]at r102 h71 ⊢
    simp only[zS,zD,zT24,zT39,zT33,zT9,zT3,h71,aF0,e2,e26,e27,e28,simprocAttr]
    refine bB0 ?_
    simp only[zS,zD,bN0,bA0,aQ0,aO0,aP0,aC0,aD0,Array.size,List.length,simprocAttr]
    rw[aB0 _ _ _ _ (by kernel_rfl)]
    simp only[zS,zD,zT39,zT33,zT31,zT30,zT37,zT3,aS0,e27,e28,aI0,c,c2,simprocAttr]
    (refine .trans ?_ rfl;kernel_rfl)
end
end Go.Proofs.YteenjodhmppgjaaGreatDoor.Am
