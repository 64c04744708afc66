/- A part of the proof of a card. No conditions. -/
import Derived.Test.YteenjodhmppgjaaGreatDoorPc1
set_option linter.all false
set_option maxHeartbeats 16000000
set_option maxRecDepth 10000
namespace Go.Proofs.YteenjodhmppgjaaGreatDoor.Am
open Go.Proofs.Tryz
section
open Go
variable (ext:Ext)
theorem qT0 : andI .i64 8 8=8:=by decide
theorem qS0 : andI .i64 8 2=0:=by decide
theorem yX0 : andI .i64 8 4=0:=by decide
theorem hF1 : andI .i64 8 1=0:=by decide
theorem qR0 : andI .i64 5 8=0:=by decide
theorem mW0 : andI .i64 5 16=0:=by decide
theorem mX0 : andI .i64 5 32=0:=by decide
theorem mY0 : andI .i64 5 64=0:=by decide
theorem qQ0 : andI .i64 5 2=0:=by decide
theorem yV0 : andI .i64 5 4=4:=by decide
theorem hD1 : andI .i64 5 1=1:=by decide
theorem qP0 : andI .i64 2 8=0:=by decide
theorem mP0 : andI .i64 2 16=0:=by decide
theorem mQ0 : andI .i64 2 32=0:=by decide
theorem mR0 : andI .i64 2 64=0:=by decide
theorem qO0 : andI .i64 2 2=2:=by decide
theorem yS0 : andI .i64 2 4=0:=by decide
theorem hC1 : andI .i64 2 1=0:=by decide
theorem qN0 : andI .i64 0 8=0:=by decide
theorem mK0 : andI .i64 0 16=0:=by decide
theorem mL0 : andI .i64 0 32=0:=by decide
theorem mM0 : andI .i64 0 64=0:=by decide
theorem qM0 : andI .i64 0 2=0:=by decide
theorem yQ0 : andI .i64 0 4=0:=by decide
theorem hB1 : andI .i64 0 1=0:=by decide
theorem nA0 : andI .i64 64 8=0:=by decide
theorem jU0 : andI .i64 64 16=0:=by decide
theorem jV0 : andI .i64 64 32=0:=by decide
theorem jW0 : andI .i64 64 64=64:=by decide
theorem mZ0 : andI .i64 64 2=0:=by decide
theorem sP0 : andI .i64 64 4=0:=by decide
theorem yW0 : andI .i64 64 1=0:=by decide
theorem mT0 : andI .i64 32 8=0:=by decide
theorem jQ0 : andI .i64 32 16=0:=by decide
theorem jR0 : andI .i64 32 32=32:=by decide
theorem mS0 : andI .i64 32 2=0:=by decide
theorem sM0 : andI .i64 32 4=0:=by decide
theorem yT0 : andI .i64 32 1=0:=by decide
theorem mV0 : andI .i64 34 8=0:=by decide
theorem jS0 : andI .i64 34 16=0:=by decide
theorem jT0 : andI .i64 34 32=32:=by decide
theorem mU0 : andI .i64 34 2=2:=by decide
theorem sN0 : andI .i64 34 4=0:=by decide
theorem yU0 : andI .i64 34 1=0:=by decide
theorem mO0 : andI .i64 21 8=0:=by decide
theorem jP0 : andI .i64 21 16=16:=by decide
theorem mN0 : andI .i64 21 2=0:=by decide
theorem sL0 : andI .i64 21 4=4:=by decide
theorem yR0 : andI .i64 21 1=1:=by decide
theorem kS0 : andI .i64 37 8=0:=by decide
theorem iN0 : andI .i64 37 16=0:=by decide
theorem iO0 : andI .i64 37 32=32:=by decide
theorem kR0 : andI .i64 37 2=0:=by decide
theorem pB0 : andI .i64 37 4=4:=by decide
theorem sO0 : andI .i64 37 1=1:=by decide
def emptyS : ByteArray:=⟨#[]⟩
def iS0 (most:Int)(many:Bool)(lev:Int)(elim:Bool)(pq:Int)(x:Tm)(c:Bool):Bool:=
 decide (0≤x.n)&&(decide (x.n≤most)&&((if many=true then decide ((x.u.length:Int)≤8) else decide ((x.u.length:Int)=lev)) &&
  ((if many=true then cJ0 x.s else(x.s.toList==emptyS.toList))&&((if elim=true then decide (3≤(x.l.length:Int))&&decide ((x.l.length:Int)≤11) else decide ((x.l.length:Int)=pq))&&c))))
theorem dlt (a b:Int):decide (a<b) = !decide (b≤a):=by rw[Bool.eq_iff_iff,decide_eq_true_eq,Bool.not_eq_true',decide_eq_false_iff_not];omega
theorem dgt (a b:Int):decide (a>b) = !decide (a≤b):=by rw[Bool.eq_iff_iff,decide_eq_true_eq,Bool.not_eq_true',decide_eq_false_iff_not];omega
theorem dne (a b:Int):(a != b) = !decide (a=b):=by rw[Bool.eq_iff_iff,bne_iff_ne,Bool.not_eq_true',decide_eq_false_iff_not]
theorem kN2 (hx:ext 106=none)(x:Tm)(st:ByteArray)(pq:Int)(a:Bool)(hof:run prog ext (.call 169 [iV x.op] [])=some (.ret [.agg [.d (.v (.string st)),.d (.v (.int .i64 8)),.d (.v (.int .i64 pq))],bV true] []))(e28:(x.op==28)=false)
  (hn:run prog ext (.call 170 [sV x.s] [])=some (.ret [bV (cJ0 x.s)] []))(ha:run prog ext (.call 171 [dV x.uD,.c (.fn 172 [] [])] [])=some (.ret [bV a] [])) :
  run prog ext (.call 106 [tmV x] [])=some (.ret [bV (iS0 2000 false 0 false pq x (!a))] []):=by
 have n28:(x.op != 28)=true:=by rw[bne,e28];rfl
 unfold iS0
 have d1:=dlt x.n 0
 have d2:=dgt x.n 2000
 have d3:=dne (x.u.length:Int) 0
 have d5:=dne (x.l.length:Int) pq
 simp only[if_false,Bool.false_eq_true]
 cases h0:decide (0≤x.n) with
 | false=>
  rw[h0]at d1
  simp only[Bool.false_and]
  (rw[enT hx func106 rfl];simp only[f106,zR,simprocAttr,zE])
  simp only[tmV,tmC,sV,bV,iV,Tm.uD]at hof hn ⊢
  simp only[zS,zD,cN0,zT33,zT3,hof,aG0,d1,qT0,qS0,simprocAttr]
  (refine .trans ?_ rfl;kernel_rfl)
 | true=>
  rw[h0]at d1
  simp only[Bool.true_and]
  cases h1:decide (x.n≤2000) with
  | false=>
   rw[h1]at d2
   simp only[Bool.false_and]
   (rw[enT hx func106 rfl];simp only[f106,zR,simprocAttr,zE])
   simp only[tmV,tmC,sV,bV,iV,Tm.uD]at hof hn ⊢
   simp only[zS,zD,cN0,zT33,zT3,hof,aG0,d1,d2,qT0,qS0,simprocAttr]
   (refine .trans ?_ rfl;kernel_rfl)
  | true=>
   rw[h1]at d2
   simp only[Bool.true_and]
   cases h2:decide ((x.u.length:Int)=0) with
   | false=>
    rw[h2]at d3
    simp only[Bool.false_and]
    (rw[enT hx func106 rfl];simp only[f106,zR,simprocAttr,zE])
    simp only[tmV,tmC,sV,bV,iV,Tm.uD]at hof hn ⊢
    simp only[zS,zD,cN0,zT33,zT30,zT3,hof,aG0,d1,d2,d3,qT0,qS0,yX0,simprocAttr]
    (refine .trans ?_ rfl;kernel_rfl)
   | true=>
    rw[h2]at d3
    simp only[Bool.true_and]
    cases h3:(x.s.toList==emptyS.toList) with
    | false=>
     unfold emptyS at h3
     simp only[Bool.false_and]
     (rw[enT hx func106 rfl];simp only[f106,zR,simprocAttr,zE])
     simp only[tmV,tmC,sV,bV,iV,Tm.uD]at hof hn ⊢
     simp only[zS,zD,cN0,zT33,zT30,zT9,zT3,hof,aG0,d1,d2,d3,h3,qT0,qS0,yX0,hF1,simprocAttr]
     (refine .trans ?_ rfl;kernel_rfl)
    | true=>
     unfold emptyS at h3
     simp only[Bool.true_and]
     cases h4:decide ((x.l.length:Int)=pq) with
     | false=>
      rw[h4]at d5
      simp only[Bool.false_and]
      (rw[enT hx func106 rfl];simp only[f106,zR,simprocAttr,zE])
      simp only[tmV,tmC,sV,bV,iV,Tm.uD]at hof hn ⊢
      simp only[zS,zD,cN0,zT33,zT31,zT30,zT9,zT3,aI0,hof,aG0,n28,e28,d1,d2,d3,d5,h3,qT0,qS0,yX0,hF1,simprocAttr]
      (refine .trans ?_ rfl;kernel_rfl)
     | true=>
      rw[h4]at d5
      simp only[Bool.true_and]
      cases a
      all_goals
       (rw[enT hx func106 rfl];simp only[f106,zR,simprocAttr,zE])
       simp only[tmV,tmC,dV,sV,bV,iV,Tm.uD]at hof hn ha ⊢
       simp only[zS,zD,cN0,zT33,zT31,zT30,zT9,zT3,aI0,hof,aG0,n28,e28,d1,d2,d3,d5,h3,ha,qT0,qS0,yX0,hF1,simprocAttr]
       (refine .trans ?_ rfl;kernel_rfl)
theorem kM2 (hx:ext 106=none)(x:Tm)(st:ByteArray)(pq:Int)(a:Bool)(hof:run prog ext (.call 169 [iV x.op] [])=some (.ret [.agg [.d (.v (.string st)),.d (.v (.int .i64 5)),.d (.v (.int .i64 pq))],bV true] []))(e28:(x.op==28)=false)
  (hn:run prog ext (.call 170 [sV x.s] [])=some (.ret [bV (cJ0 x.s)] []))(ha:run prog ext (.call 171 [dV x.uD,.c (.fn 172 [] [])] [])=some (.ret [bV a] [])) :
  run prog ext (.call 106 [tmV x] [])=some (.ret [bV (iS0 0 true 0 false pq x (!a))] []):=by
 have n28:(x.op != 28)=true:=by rw[bne,e28];rfl
 unfold iS0
 have d1:=dlt x.n 0
 have d2:=dgt x.n 0
 have d3:=dgt (x.u.length:Int) 8
 have d5:=dne (x.l.length:Int) pq
 simp only[if_true,if_false,Bool.false_eq_true]
 cases h0:decide (0≤x.n) with
 | false=>
  rw[h0]at d1
  simp only[Bool.false_and]
  (rw[enT hx func106 rfl];simp only[f106,zR,simprocAttr,zE])
  simp only[tmV,tmC,sV,bV,iV,Tm.uD]at hof hn ⊢
  simp only[zS,zD,cN0,zT33,zT3,hof,aG0,d1,qR0,mW0,mX0,mY0,qQ0,simprocAttr]
  (refine .trans ?_ rfl;kernel_rfl)
 | true=>
  rw[h0]at d1
  simp only[Bool.true_and]
  cases h1:decide (x.n≤0) with
  | false=>
   rw[h1]at d2
   simp only[Bool.false_and]
   (rw[enT hx func106 rfl];simp only[f106,zR,simprocAttr,zE])
   simp only[tmV,tmC,sV,bV,iV,Tm.uD]at hof hn ⊢
   simp only[zS,zD,cN0,zT33,zT3,hof,aG0,d1,d2,qR0,mW0,mX0,mY0,qQ0,simprocAttr]
   (refine .trans ?_ rfl;kernel_rfl)
  | true=>
   rw[h1]at d2
   simp only[Bool.true_and]
   cases h2:decide ((x.u.length:Int)≤8) with
   | false=>
    rw[h2]at d3
    simp only[Bool.false_and]
    (rw[enT hx func106 rfl];simp only[f106,zR,simprocAttr,zE])
    simp only[tmV,tmC,sV,bV,iV,Tm.uD]at hof hn ⊢
    simp only[zS,zD,cN0,zT33,zT30,zT3,hof,aG0,d1,d2,d3,qR0,mW0,mX0,mY0,qQ0,yV0,simprocAttr]
    (refine .trans ?_ rfl;kernel_rfl)
   | true=>
    rw[h2]at d3
    simp only[Bool.true_and]
    cases h3:cJ0 x.s with
    | false=>
     rw[h3]at hn
     simp only[Bool.false_and]
     (rw[enT hx func106 rfl];simp only[f106,zR,simprocAttr,zE])
     simp only[tmV,tmC,sV,bV,iV,Tm.uD]at hof hn ⊢
     simp only[zS,zD,cN0,zT33,zT30,zT9,zT3,hof,aG0,d1,d2,d3,hn,qR0,mW0,mX0,mY0,qQ0,yV0,hD1,simprocAttr]
     (refine .trans ?_ rfl;kernel_rfl)
    | true=>
     rw[h3]at hn
     simp only[Bool.true_and]
     cases h4:decide ((x.l.length:Int)=pq) with
     | false=>
      rw[h4]at d5
      simp only[Bool.false_and]
      (rw[enT hx func106 rfl];simp only[f106,zR,simprocAttr,zE])
      simp only[tmV,tmC,sV,bV,iV,Tm.uD]at hof hn ⊢
      simp only[zS,zD,cN0,zT33,zT31,zT30,zT9,zT3,aI0,hof,aG0,n28,e28,d1,d2,d3,d5,hn,qR0,mW0,mX0,mY0,qQ0,yV0,hD1,simprocAttr]
      (refine .trans ?_ rfl;kernel_rfl)
     | true=>
      rw[h4]at d5
      simp only[Bool.true_and]
      cases a
      all_goals
       (rw[enT hx func106 rfl];simp only[f106,zR,simprocAttr,zE])
       simp only[tmV,tmC,dV,sV,bV,iV,Tm.uD]at hof hn ha ⊢
       simp only[zS,zD,cN0,zT33,zT31,zT30,zT9,zT3,aI0,hof,aG0,n28,e28,d1,d2,d3,d5,hn,ha,qR0,mW0,mX0,mY0,qQ0,yV0,hD1,simprocAttr]
       (refine .trans ?_ rfl;kernel_rfl)
theorem wA0 (hx:ext 106=none)(x:Tm)(st:ByteArray)(pq:Int)(a:Bool)(hof:run prog ext (.call 169 [iV x.op] [])=some (.ret [.agg [.d (.v (.string st)),.d (.v (.int .i64 2)),.d (.v (.int .i64 pq))],bV true] []))(e28:(x.op==28)=false)
  (hn:run prog ext (.call 170 [sV x.s] [])=some (.ret [bV (cJ0 x.s)] []))(ha:run prog ext (.call 171 [dV x.uD,.c (.fn 172 [] [])] [])=some (.ret [bV a] [])) :
  run prog ext (.call 106 [tmV x] [])=some (.ret [bV (iS0 0 false 1 false pq x (!a))] []):=by
 have n28:(x.op != 28)=true:=by rw[bne,e28];rfl
 unfold iS0
 have d1:=dlt x.n 0
 have d2:=dgt x.n 0
 have d3:=dne (x.u.length:Int) 1
 have d5:=dne (x.l.length:Int) pq
 simp only[if_false,Bool.false_eq_true]
 cases h0:decide (0≤x.n) with
 | false=>
  rw[h0]at d1
  simp only[Bool.false_and]
  (rw[enT hx func106 rfl];simp only[f106,zR,simprocAttr,zE])
  simp only[tmV,tmC,sV,bV,iV,Tm.uD]at hof hn ⊢
  simp only[zS,zD,cN0,zT33,zT3,hof,aG0,d1,qP0,mP0,mQ0,mR0,qO0,simprocAttr]
  (refine .trans ?_ rfl;kernel_rfl)
 | true=>
  rw[h0]at d1
  simp only[Bool.true_and]
  cases h1:decide (x.n≤0) with
  | false=>
   rw[h1]at d2
   simp only[Bool.false_and]
   (rw[enT hx func106 rfl];simp only[f106,zR,simprocAttr,zE])
   simp only[tmV,tmC,sV,bV,iV,Tm.uD]at hof hn ⊢
   simp only[zS,zD,cN0,zT33,zT3,hof,aG0,d1,d2,qP0,mP0,mQ0,mR0,qO0,simprocAttr]
   (refine .trans ?_ rfl;kernel_rfl)
  | true=>
   rw[h1]at d2
   simp only[Bool.true_and]
   cases h2:decide ((x.u.length:Int)=1) with
   | false=>
    rw[h2]at d3
    simp only[Bool.false_and]
    (rw[enT hx func106 rfl];simp only[f106,zR,simprocAttr,zE])
    simp only[tmV,tmC,sV,bV,iV,Tm.uD]at hof hn ⊢
    simp only[zS,zD,cN0,zT33,zT30,zT3,hof,aG0,d1,d2,d3,qP0,mP0,mQ0,mR0,qO0,yS0,simprocAttr]
    (refine .trans ?_ rfl;kernel_rfl)
   | true=>
    rw[h2]at d3
    simp only[Bool.true_and]
    cases h3:(x.s.toList==emptyS.toList) with
    | false=>
     unfold emptyS at h3
     simp only[Bool.false_and]
     (rw[enT hx func106 rfl];simp only[f106,zR,simprocAttr,zE])
     simp only[tmV,tmC,sV,bV,iV,Tm.uD]at hof hn ⊢
     simp only[zS,zD,cN0,zT33,zT30,zT9,zT3,hof,aG0,d1,d2,d3,h3,qP0,mP0,mQ0,mR0,qO0,yS0,hC1,simprocAttr]
     (refine .trans ?_ rfl;kernel_rfl)
    | true=>
     unfold emptyS at h3
     simp only[Bool.true_and]
     cases h4:decide ((x.l.length:Int)=pq) with
     | false=>
      rw[h4]at d5
      simp only[Bool.false_and]
      (rw[enT hx func106 rfl];simp only[f106,zR,simprocAttr,zE])
      simp only[tmV,tmC,sV,bV,iV,Tm.uD]at hof hn ⊢
      simp only[zS,zD,cN0,zT33,zT31,zT30,zT9,zT3,aI0,hof,aG0,n28,e28,d1,d2,d3,d5,h3,qP0,mP0,mQ0,mR0,qO0,yS0,hC1,simprocAttr]
      (refine .trans ?_ rfl;kernel_rfl)
     | true=>
      rw[h4]at d5
      simp only[Bool.true_and]
      cases a
      all_goals
       (rw[enT hx func106 rfl];simp only[f106,zR,simprocAttr,zE])
       simp only[tmV,tmC,dV,sV,bV,iV,Tm.uD]at hof hn ha ⊢
       simp only[zS,zD,cN0,zT33,zT31,zT30,zT9,zT3,aI0,hof,aG0,n28,e28,d1,d2,d3,d5,h3,ha,qP0,mP0,mQ0,mR0,qO0,yS0,hC1,simprocAttr]
       (refine .trans ?_ rfl;kernel_rfl)
theorem oC0 (hx:ext 106=none)(x:Tm)(st:ByteArray)(pq:Int)(a:Bool)(hof:run prog ext (.call 169 [iV x.op] [])=some (.ret [.agg [.d (.v (.string st)),.d (.v (.int .i64 0)),.d (.v (.int .i64 pq))],bV true] []))(e28:(x.op==28)=false)
  (hn:run prog ext (.call 170 [sV x.s] [])=some (.ret [bV (cJ0 x.s)] []))(ha:run prog ext (.call 171 [dV x.uD,.c (.fn 172 [] [])] [])=some (.ret [bV a] [])) :
  run prog ext (.call 106 [tmV x] [])=some (.ret [bV (iS0 0 false 0 false pq x (!a))] []):=by
 have n28:(x.op != 28)=true:=by rw[bne,e28];rfl
 unfold iS0
 have d1:=dlt x.n 0
 have d2:=dgt x.n 0
 have d3:=dne (x.u.length:Int) 0
 have d5:=dne (x.l.length:Int) pq
 simp only[if_false,Bool.false_eq_true]
 cases h0:decide (0≤x.n) with
 | false=>
  rw[h0]at d1
  simp only[Bool.false_and]
  (rw[enT hx func106 rfl];simp only[f106,zR,simprocAttr,zE])
  simp only[tmV,tmC,sV,bV,iV,Tm.uD]at hof hn ⊢
  simp only[zS,zD,cN0,zT33,zT3,hof,aG0,d1,qN0,mK0,mL0,mM0,qM0,simprocAttr]
  (refine .trans ?_ rfl;kernel_rfl)
 | true=>
  rw[h0]at d1
  simp only[Bool.true_and]
  cases h1:decide (x.n≤0) with
  | false=>
   rw[h1]at d2
   simp only[Bool.false_and]
   (rw[enT hx func106 rfl];simp only[f106,zR,simprocAttr,zE])
   simp only[tmV,tmC,sV,bV,iV,Tm.uD]at hof hn ⊢
   simp only[zS,zD,cN0,zT33,zT3,hof,aG0,d1,d2,qN0,mK0,mL0,mM0,qM0,simprocAttr]
   (refine .trans ?_ rfl;kernel_rfl)
  | true=>
   rw[h1]at d2
   simp only[Bool.true_and]
   cases h2:decide ((x.u.length:Int)=0) with
   | false=>
    rw[h2]at d3
    simp only[Bool.false_and]
    (rw[enT hx func106 rfl];simp only[f106,zR,simprocAttr,zE])
    simp only[tmV,tmC,sV,bV,iV,Tm.uD]at hof hn ⊢
    simp only[zS,zD,cN0,zT33,zT30,zT3,hof,aG0,d1,d2,d3,qN0,mK0,mL0,mM0,qM0,yQ0,simprocAttr]
    (refine .trans ?_ rfl;kernel_rfl)
   | true=>
    rw[h2]at d3
    simp only[Bool.true_and]
    cases h3:(x.s.toList==emptyS.toList) with
    | false=>
     unfold emptyS at h3
     simp only[Bool.false_and]
     (rw[enT hx func106 rfl];simp only[f106,zR,simprocAttr,zE])
     simp only[tmV,tmC,sV,bV,iV,Tm.uD]at hof hn ⊢
     simp only[zS,zD,cN0,zT33,zT30,zT9,zT3,hof,aG0,d1,d2,d3,h3,qN0,mK0,mL0,mM0,qM0,yQ0,hB1,simprocAttr]
     (refine .trans ?_ rfl;kernel_rfl)
    | true=>
     unfold emptyS at h3
     simp only[Bool.true_and]
     cases h4:decide ((x.l.length:Int)=pq) with
     | false=>
      rw[h4]at d5
      simp only[Bool.false_and]
      (rw[enT hx func106 rfl];simp only[f106,zR,simprocAttr,zE])
      simp only[tmV,tmC,sV,bV,iV,Tm.uD]at hof hn ⊢
      simp only[zS,zD,cN0,zT33,zT31,zT30,zT9,zT3,aI0,hof,aG0,n28,e28,d1,d2,d3,d5,h3,qN0,mK0,mL0,mM0,qM0,yQ0,hB1,simprocAttr]
      (refine .trans ?_ rfl;kernel_rfl)
     | true=>
      rw[h4]at d5
      simp only[Bool.true_and]
      cases a
      all_goals
       (rw[enT hx func106 rfl];simp only[f106,zR,simprocAttr,zE])
       simp only[tmV,tmC,dV,sV,bV,iV,Tm.uD]at hof hn ha ⊢
       simp only[zS,zD,cN0,zT33,zT31,zT30,zT9,zT3,aI0,hof,aG0,n28,e28,d1,d2,d3,d5,h3,ha,qN0,mK0,mL0,mM0,qM0,yQ0,hB1,simprocAttr]
       (refine .trans ?_ rfl;kernel_rfl)
theorem jI1 (hx:ext 106=none)(x:Tm)(st:ByteArray)(pq:Int)(a:Bool)(hof:run prog ext (.call 169 [iV x.op] [])=some (.ret [.agg [.d (.v (.string st)),.d (.v (.int .i64 64)),.d (.v (.int .i64 pq))],bV true] []))(e28:(x.op==28)=false)
  (hn:run prog ext (.call 170 [sV x.s] [])=some (.ret [bV (cJ0 x.s)] []))(ha:run prog ext (.call 171 [dV x.uD,.c (.fn 172 [] [])] [])=some (.ret [bV a] [])) :
  run prog ext (.call 106 [tmV x] [])=some (.ret [bV (iS0 3 false 0 false pq x (!a))] []):=by
 have n28:(x.op != 28)=true:=by rw[bne,e28];rfl
 unfold iS0
 have d1:=dlt x.n 0
 have d2:=dgt x.n 3
 have d3:=dne (x.u.length:Int) 0
 have d5:=dne (x.l.length:Int) pq
 simp only[if_false,Bool.false_eq_true]
 cases h0:decide (0≤x.n) with
 | false=>
  rw[h0]at d1
  simp only[Bool.false_and]
  (rw[enT hx func106 rfl];simp only[f106,zR,simprocAttr,zE])
  simp only[tmV,tmC,sV,bV,iV,Tm.uD]at hof hn ⊢
  simp only[zS,zD,cN0,zT33,zT3,hof,aG0,d1,nA0,jU0,jV0,jW0,mZ0,simprocAttr]
  (refine .trans ?_ rfl;kernel_rfl)
 | true=>
  rw[h0]at d1
  simp only[Bool.true_and]
  cases h1:decide (x.n≤3) with
  | false=>
   rw[h1]at d2
   simp only[Bool.false_and]
   (rw[enT hx func106 rfl];simp only[f106,zR,simprocAttr,zE])
   simp only[tmV,tmC,sV,bV,iV,Tm.uD]at hof hn ⊢
   simp only[zS,zD,cN0,zT33,zT3,hof,aG0,d1,d2,nA0,jU0,jV0,jW0,mZ0,simprocAttr]
   (refine .trans ?_ rfl;kernel_rfl)
  | true=>
   rw[h1]at d2
   simp only[Bool.true_and]
   cases h2:decide ((x.u.length:Int)=0) with
   | false=>
    rw[h2]at d3
    simp only[Bool.false_and]
    (rw[enT hx func106 rfl];simp only[f106,zR,simprocAttr,zE])
    simp only[tmV,tmC,sV,bV,iV,Tm.uD]at hof hn ⊢
    simp only[zS,zD,cN0,zT33,zT30,zT3,hof,aG0,d1,d2,d3,nA0,jU0,jV0,jW0,mZ0,sP0,simprocAttr]
    (refine .trans ?_ rfl;kernel_rfl)
   | true=>
    rw[h2]at d3
    simp only[Bool.true_and]
    cases h3:(x.s.toList==emptyS.toList) with
    | false=>
     unfold emptyS at h3
     simp only[Bool.false_and]
     (rw[enT hx func106 rfl];simp only[f106,zR,simprocAttr,zE])
     simp only[tmV,tmC,sV,bV,iV,Tm.uD]at hof hn ⊢
     simp only[zS,zD,cN0,zT33,zT30,zT9,zT3,hof,aG0,d1,d2,d3,h3,nA0,jU0,jV0,jW0,mZ0,sP0,yW0,simprocAttr]
     (refine .trans ?_ rfl;kernel_rfl)
    | true=>
     unfold emptyS at h3
     simp only[Bool.true_and]
     cases h4:decide ((x.l.length:Int)=pq) with
     | false=>
      rw[h4]at d5
      simp only[Bool.false_and]
      (rw[enT hx func106 rfl];simp only[f106,zR,simprocAttr,zE])
      simp only[tmV,tmC,sV,bV,iV,Tm.uD]at hof hn ⊢
      simp only[zS,zD,cN0,zT33,zT31,zT30,zT9,zT3,aI0,hof,aG0,n28,e28,d1,d2,d3,d5,h3,nA0,jU0,jV0,jW0,mZ0,sP0,yW0,simprocAttr]
      (refine .trans ?_ rfl;kernel_rfl)
     | true=>
      rw[h4]at d5
      simp only[Bool.true_and]
      cases a
      all_goals
       (rw[enT hx func106 rfl];simp only[f106,zR,simprocAttr,zE])
       simp only[tmV,tmC,dV,sV,bV,iV,Tm.uD]at hof hn ha ⊢
       simp only[zS,zD,cN0,zT33,zT31,zT30,zT9,zT3,aI0,hof,aG0,n28,e28,d1,d2,d3,d5,h3,ha,nA0,jU0,jV0,jW0,mZ0,sP0,yW0,simprocAttr]
       (refine .trans ?_ rfl;kernel_rfl)
theorem jH1 (hx:ext 106=none)(x:Tm)(st:ByteArray)(pq:Int)(a:Bool)(hof:run prog ext (.call 169 [iV x.op] [])=some (.ret [.agg [.d (.v (.string st)),.d (.v (.int .i64 32)),.d (.v (.int .i64 pq))],bV true] []))(e28:(x.op==28)=false)
  (hn:run prog ext (.call 170 [sV x.s] [])=some (.ret [bV (cJ0 x.s)] []))(ha:run prog ext (.call 171 [dV x.uD,.c (.fn 172 [] [])] [])=some (.ret [bV a] [])) :
  run prog ext (.call 106 [tmV x] [])=some (.ret [bV (iS0 1 false 0 false pq x (!a))] []):=by
 have n28:(x.op != 28)=true:=by rw[bne,e28];rfl
 unfold iS0
 have d1:=dlt x.n 0
 have d2:=dgt x.n 1
 have d3:=dne (x.u.length:Int) 0
 have d5:=dne (x.l.length:Int) pq
 simp only[if_false,Bool.false_eq_true]
 cases h0:decide (0≤x.n) with
 | false=>
  rw[h0]at d1
  simp only[Bool.false_and]
  (rw[enT hx func106 rfl];simp only[f106,zR,simprocAttr,zE])
  simp only[tmV,tmC,sV,bV,iV,Tm.uD]at hof hn ⊢
  simp only[zS,zD,cN0,zT33,zT3,hof,aG0,d1,mT0,jQ0,jR0,mS0,simprocAttr]
  (refine .trans ?_ rfl;kernel_rfl)
 | true=>
  rw[h0]at d1
  simp only[Bool.true_and]
  cases h1:decide (x.n≤1) with
  | false=>
   rw[h1]at d2
   simp only[Bool.false_and]
   (rw[enT hx func106 rfl];simp only[f106,zR,simprocAttr,zE])
   simp only[tmV,tmC,sV,bV,iV,Tm.uD]at hof hn ⊢
   simp only[zS,zD,cN0,zT33,zT3,hof,aG0,d1,d2,mT0,jQ0,jR0,mS0,simprocAttr]
   (refine .trans ?_ rfl;kernel_rfl)
  | true=>
   rw[h1]at d2
   simp only[Bool.true_and]
   cases h2:decide ((x.u.length:Int)=0) with
   | false=>
    rw[h2]at d3
    simp only[Bool.false_and]
    (rw[enT hx func106 rfl];simp only[f106,zR,simprocAttr,zE])
    simp only[tmV,tmC,sV,bV,iV,Tm.uD]at hof hn ⊢
    simp only[zS,zD,cN0,zT33,zT30,zT3,hof,aG0,d1,d2,d3,mT0,jQ0,jR0,mS0,sM0,simprocAttr]
    (refine .trans ?_ rfl;kernel_rfl)
   | true=>
    rw[h2]at d3
    simp only[Bool.true_and]
    cases h3:(x.s.toList==emptyS.toList) with
    | false=>
     unfold emptyS at h3
     simp only[Bool.false_and]
     (rw[enT hx func106 rfl];simp only[f106,zR,simprocAttr,zE])
     simp only[tmV,tmC,sV,bV,iV,Tm.uD]at hof hn ⊢
     simp only[zS,zD,cN0,zT33,zT30,zT9,zT3,hof,aG0,d1,d2,d3,h3,mT0,jQ0,jR0,mS0,sM0,yT0,simprocAttr]
     (refine .trans ?_ rfl;kernel_rfl)
    | true=>
     unfold emptyS at h3
     simp only[Bool.true_and]
     cases h4:decide ((x.l.length:Int)=pq) with
     | false=>
      rw[h4]at d5
      simp only[Bool.false_and]
      (rw[enT hx func106 rfl];simp only[f106,zR,simprocAttr,zE])
      simp only[tmV,tmC,sV,bV,iV,Tm.uD]at hof hn ⊢
      simp only[zS,zD,cN0,zT33,zT31,zT30,zT9,zT3,aI0,hof,aG0,n28,e28,d1,d2,d3,d5,h3,mT0,jQ0,jR0,mS0,sM0,yT0,simprocAttr]
      (refine .trans ?_ rfl;kernel_rfl)
     | true=>
      rw[h4]at d5
      simp only[Bool.true_and]
      cases a
      all_goals
       (rw[enT hx func106 rfl];simp only[f106,zR,simprocAttr,zE])
       simp only[tmV,tmC,dV,sV,bV,iV,Tm.uD]at hof hn ha ⊢
       simp only[zS,zD,cN0,zT33,zT31,zT30,zT9,zT3,aI0,hof,aG0,n28,e28,d1,d2,d3,d5,h3,ha,mT0,jQ0,jR0,mS0,sM0,yT0,simprocAttr]
       (refine .trans ?_ rfl;kernel_rfl)
theorem uB2 (hx:ext 106=none)(x:Tm)(st:ByteArray)(pq:Int)(a:Bool)(hof:run prog ext (.call 169 [iV x.op] [])=some (.ret [.agg [.d (.v (.string st)),.d (.v (.int .i64 34)),.d (.v (.int .i64 pq))],bV true] []))(e28:(x.op==28)=false)
  (hn:run prog ext (.call 170 [sV x.s] [])=some (.ret [bV (cJ0 x.s)] []))(ha:run prog ext (.call 171 [dV x.uD,.c (.fn 172 [] [])] [])=some (.ret [bV a] [])) :
  run prog ext (.call 106 [tmV x] [])=some (.ret [bV (iS0 1 false 1 false pq x (!a))] []):=by
 have n28:(x.op != 28)=true:=by rw[bne,e28];rfl
 unfold iS0
 have d1:=dlt x.n 0
 have d2:=dgt x.n 1
 have d3:=dne (x.u.length:Int) 1
 have d5:=dne (x.l.length:Int) pq
 simp only[if_false,Bool.false_eq_true]
 cases h0:decide (0≤x.n) with
 | false=>
  rw[h0]at d1
  simp only[Bool.false_and]
  (rw[enT hx func106 rfl];simp only[f106,zR,simprocAttr,zE])
  simp only[tmV,tmC,sV,bV,iV,Tm.uD]at hof hn ⊢
  simp only[zS,zD,cN0,zT33,zT3,hof,aG0,d1,mV0,jS0,jT0,mU0,simprocAttr]
  (refine .trans ?_ rfl;kernel_rfl)
 | true=>
  rw[h0]at d1
  simp only[Bool.true_and]
  cases h1:decide (x.n≤1) with
  | false=>
   rw[h1]at d2
   simp only[Bool.false_and]
   (rw[enT hx func106 rfl];simp only[f106,zR,simprocAttr,zE])
   simp only[tmV,tmC,sV,bV,iV,Tm.uD]at hof hn ⊢
   simp only[zS,zD,cN0,zT33,zT3,hof,aG0,d1,d2,mV0,jS0,jT0,mU0,simprocAttr]
   (refine .trans ?_ rfl;kernel_rfl)
  | true=>
   rw[h1]at d2
   simp only[Bool.true_and]
   cases h2:decide ((x.u.length:Int)=1) with
   | false=>
    rw[h2]at d3
    simp only[Bool.false_and]
    (rw[enT hx func106 rfl];simp only[f106,zR,simprocAttr,zE])
    simp only[tmV,tmC,sV,bV,iV,Tm.uD]at hof hn ⊢
    simp only[zS,zD,cN0,zT33,zT30,zT3,hof,aG0,d1,d2,d3,mV0,jS0,jT0,mU0,sN0,simprocAttr]
    (refine .trans ?_ rfl;kernel_rfl)
   | true=>
    rw[h2]at d3
    simp only[Bool.true_and]
    cases h3:(x.s.toList==emptyS.toList) with
    | false=>
     unfold emptyS at h3
     simp only[Bool.false_and]
     (rw[enT hx func106 rfl];simp only[f106,zR,simprocAttr,zE])
     simp only[tmV,tmC,sV,bV,iV,Tm.uD]at hof hn ⊢
     simp only[zS,zD,cN0,zT33,zT30,zT9,zT3,hof,aG0,d1,d2,d3,h3,mV0,jS0,jT0,mU0,sN0,yU0,simprocAttr]
     (refine .trans ?_ rfl;kernel_rfl)
    | true=>
     unfold emptyS at h3
     simp only[Bool.true_and]
     cases h4:decide ((x.l.length:Int)=pq) with
     | false=>
      rw[h4]at d5
      simp only[Bool.false_and]
      (rw[enT hx func106 rfl];simp only[f106,zR,simprocAttr,zE])
      simp only[tmV,tmC,sV,bV,iV,Tm.uD]at hof hn ⊢
      simp only[zS,zD,cN0,zT33,zT31,zT30,zT9,zT3,aI0,hof,aG0,n28,e28,d1,d2,d3,d5,h3,mV0,jS0,jT0,mU0,sN0,yU0,simprocAttr]
      (refine .trans ?_ rfl;kernel_rfl)
     | true=>
      rw[h4]at d5
      simp only[Bool.true_and]
      cases a
      all_goals
       (rw[enT hx func106 rfl];simp only[f106,zR,simprocAttr,zE])
       simp only[tmV,tmC,dV,sV,bV,iV,Tm.uD]at hof hn ha ⊢
       simp only[zS,zD,cN0,zT33,zT31,zT30,zT9,zT3,aI0,hof,aG0,n28,e28,d1,d2,d3,d5,h3,ha,mV0,jS0,jT0,mU0,sN0,yU0,simprocAttr]
       (refine .trans ?_ rfl;kernel_rfl)
theorem uA2 (hx:ext 106=none)(x:Tm)(st:ByteArray)(pq:Int)(a:Bool)(hof:run prog ext (.call 169 [iV x.op] [])=some (.ret [.agg [.d (.v (.string st)),.d (.v (.int .i64 21)),.d (.v (.int .i64 pq))],bV true] []))(e28:(x.op==28)=false)
  (hn:run prog ext (.call 170 [sV x.s] [])=some (.ret [bV (cJ0 x.s)] []))(ha:run prog ext (.call 171 [dV x.uD,.c (.fn 172 [] [])] [])=some (.ret [bV a] [])) :
  run prog ext (.call 106 [tmV x] [])=some (.ret [bV (iS0 7 true 0 false pq x (!a))] []):=by
 have n28:(x.op != 28)=true:=by rw[bne,e28];rfl
 unfold iS0
 have d1:=dlt x.n 0
 have d2:=dgt x.n 7
 have d3:=dgt (x.u.length:Int) 8
 have d5:=dne (x.l.length:Int) pq
 simp only[if_true,if_false,Bool.false_eq_true]
 cases h0:decide (0≤x.n) with
 | false=>
  rw[h0]at d1
  simp only[Bool.false_and]
  (rw[enT hx func106 rfl];simp only[f106,zR,simprocAttr,zE])
  simp only[tmV,tmC,sV,bV,iV,Tm.uD]at hof hn ⊢
  simp only[zS,zD,cN0,zT33,zT3,hof,aG0,d1,mO0,jP0,mN0,simprocAttr]
  (refine .trans ?_ rfl;kernel_rfl)
 | true=>
  rw[h0]at d1
  simp only[Bool.true_and]
  cases h1:decide (x.n≤7) with
  | false=>
   rw[h1]at d2
   simp only[Bool.false_and]
   (rw[enT hx func106 rfl];simp only[f106,zR,simprocAttr,zE])
   simp only[tmV,tmC,sV,bV,iV,Tm.uD]at hof hn ⊢
   simp only[zS,zD,cN0,zT33,zT3,hof,aG0,d1,d2,mO0,jP0,mN0,simprocAttr]
   (refine .trans ?_ rfl;kernel_rfl)
  | true=>
   rw[h1]at d2
   simp only[Bool.true_and]
   cases h2:decide ((x.u.length:Int)≤8) with
   | false=>
    rw[h2]at d3
    simp only[Bool.false_and]
    (rw[enT hx func106 rfl];simp only[f106,zR,simprocAttr,zE])
    simp only[tmV,tmC,sV,bV,iV,Tm.uD]at hof hn ⊢
    simp only[zS,zD,cN0,zT33,zT30,zT3,hof,aG0,d1,d2,d3,mO0,jP0,mN0,sL0,simprocAttr]
    (refine .trans ?_ rfl;kernel_rfl)
   | true=>
    rw[h2]at d3
    simp only[Bool.true_and]
    cases h3:cJ0 x.s with
    | false=>
     rw[h3]at hn
     simp only[Bool.false_and]
     (rw[enT hx func106 rfl];simp only[f106,zR,simprocAttr,zE])
     simp only[tmV,tmC,sV,bV,iV,Tm.uD]at hof hn ⊢
     simp only[zS,zD,cN0,zT33,zT30,zT9,zT3,hof,aG0,d1,d2,d3,hn,mO0,jP0,mN0,sL0,yR0,simprocAttr]
     (refine .trans ?_ rfl;kernel_rfl)
    | true=>
     rw[h3]at hn
     simp only[Bool.true_and]
     cases h4:decide ((x.l.length:Int)=pq) with
     | false=>
      rw[h4]at d5
      simp only[Bool.false_and]
      (rw[enT hx func106 rfl];simp only[f106,zR,simprocAttr,zE])
      simp only[tmV,tmC,sV,bV,iV,Tm.uD]at hof hn ⊢
      simp only[zS,zD,cN0,zT33,zT31,zT30,zT9,zT3,aI0,hof,aG0,n28,e28,d1,d2,d3,d5,hn,mO0,jP0,mN0,sL0,yR0,simprocAttr]
      (refine .trans ?_ rfl;kernel_rfl)
     | true=>
      rw[h4]at d5
      simp only[Bool.true_and]
      cases a
      all_goals
       (rw[enT hx func106 rfl];simp only[f106,zR,simprocAttr,zE])
       simp only[tmV,tmC,dV,sV,bV,iV,Tm.uD]at hof hn ha ⊢
       simp only[zS,zD,cN0,zT33,zT31,zT30,zT9,zT3,aI0,hof,aG0,n28,e28,d1,d2,d3,d5,hn,ha,mO0,jP0,mN0,sL0,yR0,simprocAttr]
       (refine .trans ?_ rfl;kernel_rfl)
theorem uC2 (hx:ext 106=none)(x:Tm)(st:ByteArray)(pq:Int)(a:Bool)(hof:run prog ext (.call 169 [iV x.op] [])=some (.ret [.agg [.d (.v (.string st)),.d (.v (.int .i64 37)),.d (.v (.int .i64 pq))],bV true] []))(e28:(x.op==28)=true)
  (hn:run prog ext (.call 170 [sV x.s] [])=some (.ret [bV (cJ0 x.s)] []))(ha:run prog ext (.call 171 [dV x.uD,.c (.fn 172 [] [])] [])=some (.ret [bV a] [])) :
  run prog ext (.call 106 [tmV x] [])=some (.ret [bV (iS0 1 true 0 true pq x (!a))] []):=by
 have n28:(x.op != 28)=false:=by rw[bne,e28];rfl
 unfold iS0
 have d1:=dlt x.n 0
 have d2:=dgt x.n 1
 have d3:=dgt (x.u.length:Int) 8
 have d5:=dlt (x.l.length:Int) 3
 have d6:=dgt (x.l.length:Int) 11
 simp only[if_true]
 cases h0:decide (0≤x.n) with
 | false=>
  rw[h0]at d1
  simp only[Bool.false_and]
  (rw[enT hx func106 rfl];simp only[f106,zR,simprocAttr,zE])
  simp only[tmV,tmC,sV,bV,iV,Tm.uD]at hof hn ⊢
  simp only[zS,zD,cN0,zT33,zT3,hof,aG0,d1,kS0,iN0,iO0,kR0,simprocAttr]
  (refine .trans ?_ rfl;kernel_rfl)
 | true=>
  rw[h0]at d1
  simp only[Bool.true_and]
  cases h1:decide (x.n≤1) with
  | false=>
   rw[h1]at d2
   simp only[Bool.false_and]
   (rw[enT hx func106 rfl];simp only[f106,zR,simprocAttr,zE])
   simp only[tmV,tmC,sV,bV,iV,Tm.uD]at hof hn ⊢
   simp only[zS,zD,cN0,zT33,zT3,hof,aG0,d1,d2,kS0,iN0,iO0,kR0,simprocAttr]
   (refine .trans ?_ rfl;kernel_rfl)
  | true=>
   rw[h1]at d2
   simp only[Bool.true_and]
   cases h2:decide ((x.u.length:Int)≤8) with
   | false=>
    rw[h2]at d3
    simp only[Bool.false_and]
    (rw[enT hx func106 rfl];simp only[f106,zR,simprocAttr,zE])
    simp only[tmV,tmC,sV,bV,iV,Tm.uD]at hof hn ⊢
    simp only[zS,zD,cN0,zT33,zT30,zT3,hof,aG0,d1,d2,d3,kS0,iN0,iO0,kR0,pB0,simprocAttr]
    (refine .trans ?_ rfl;kernel_rfl)
   | true=>
    rw[h2]at d3
    simp only[Bool.true_and]
    cases h3:cJ0 x.s with
    | false=>
     rw[h3]at hn
     simp only[Bool.false_and]
     (rw[enT hx func106 rfl];simp only[f106,zR,simprocAttr,zE])
     simp only[tmV,tmC,sV,bV,iV,Tm.uD]at hof hn ⊢
     simp only[zS,zD,cN0,zT33,zT30,zT9,zT3,hof,aG0,d1,d2,d3,hn,kS0,iN0,iO0,kR0,pB0,sO0,simprocAttr]
     (refine .trans ?_ rfl;kernel_rfl)
    | true=>
     rw[h3]at hn
     simp only[Bool.true_and]
     cases h4:decide (3≤(x.l.length:Int)) with
     | false=>
      rw[h4]at d5
      simp only[Bool.false_and]
      (rw[enT hx func106 rfl];simp only[f106,zR,simprocAttr,zE])
      simp only[tmV,tmC,sV,bV,iV,Tm.uD]at hof hn ⊢
      simp only[zS,zD,cN0,zT33,zT31,zT30,zT9,zT3,aI0,hof,aG0,e28,d1,d2,d3,d5,hn,kS0,iN0,iO0,kR0,pB0,sO0,simprocAttr]
      (refine .trans ?_ rfl;kernel_rfl)
     | true=>
      rw[h4]at d5
      simp only[Bool.true_and]
      cases h5:decide ((x.l.length:Int)≤11) with
      | false=>
       rw[h5]at d6
       simp only[Bool.false_and]
       (rw[enT hx func106 rfl];simp only[f106,zR,simprocAttr,zE])
       simp only[tmV,tmC,sV,bV,iV,Tm.uD]at hof hn ⊢
       simp only[zS,zD,cN0,zT33,zT31,zT30,zT9,zT3,aI0,hof,aG0,e28,d1,d2,d3,d5,d6,hn,kS0,iN0,iO0,kR0,pB0,sO0,simprocAttr]
       (refine .trans ?_ rfl;kernel_rfl)
      | true=>
       rw[h5]at d6
       simp only[Bool.true_and]
       cases a
       all_goals
        (rw[enT hx func106 rfl];simp only[f106,zR,simprocAttr,zE])
        simp only[tmV,tmC,dV,sV,bV,iV,Tm.uD]at hof hn ha ⊢
        simp only[zS,zD,cN0,zT33,zT31,zT30,zT9,zT3,aI0,hof,aG0,n28,e28,d1,d2,d3,d5,d6,hn,ha,kS0,iN0,iO0,kR0,pB0,sO0,simprocAttr]
        (refine .trans ?_ rfl;kernel_rfl)
end
end Go.Proofs.YteenjodhmppgjaaGreatDoor.Am
