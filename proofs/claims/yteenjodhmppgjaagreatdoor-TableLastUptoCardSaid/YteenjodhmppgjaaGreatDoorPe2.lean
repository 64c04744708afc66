/- A part of the proof of a card. No conditions. -/
import Derived.Test.YteenjodhmppgjaaGreatDoorPe1
set_option linter.all false
set_option maxHeartbeats 16000000
set_option maxRecDepth 10000
namespace Go.Proofs.YteenjodhmppgjaaGreatDoor.Am
open Go.Proofs.Tryz
section
open Go
variable (ext:Ext)
noncomputable def B104 : Code:=(f104.body.getD .skip)
noncomputable def lP2 : Code:=sub B104 [1,1,1,1,1,0,1,0,0]
theorem mA1 : It.code lP2=It.code (sub B104 [1,1,1,1,1,0,1,0,0]):=rfl
noncomputable def rC1 : List It:=[.inBlock 1,.code (sub B104 [1,1,1,1,1,1])]
noncomputable def oA1 (ext:Ext)(m:Nat)(env:Env)(loc:List O):Option Out:=run prog ext (.k ⟨144,m,[.tmp 2],false⟩ (.code lP2 :: .inLoop lP2::rC1) env loc)
theorem br1 {P:Prop} (a:Bool)(h0:a=false→P)(h1:a=true→P):P:=by cases a;exact h0 rfl;exact h1 rfl
theorem br4 {P:Prop} (a b c d:Bool)(h0:a=false→P)(h1:a=true→b=false→P)(h2:a=true→b=true→c=false→P)(h3:a=true→b=true→c=true→d=false→P)(h4:a=true→b=true→c=true→d=true→P):P:=
 br1 a h0 fun e=>br1 b (h1 e) fun e1=>br1 c (h2 e e1) fun e2=>br1 d (h3 e e1 e2) (h4 e e1 e2)
def E104 (k:Int):Env:=[(1,.c (.ptr 0 0)),(4,iV k)]
theorem sB2 (d:Dc)(hs:d.cons.length<2^50)(rn:∀ c∈d.cons,run prog ext (.call 164 [sV c.name] [])=some (.ret [bV (cJ0 c.name)] []))(rf:∀ c∈d.cons,run prog ext (.call 166 [tmV c.arg,iV d.levels,iV 1] [])=some (.ret [bV (gD0 c.arg 1 d.levels)] [])) :
  oA1 ext 0 (E104 0) [.box (dcC d)]=some (.ret [bV (d.cons.all (lX0 d.levels))] []):=by
 have:=bS0 d.cons (fun k=>oA1 ext 0 (E104 k) [.box (dcC d)]) (fun c=> !lX0 d.levels c) (fun _=>some (.ret [bV false] [])) (some (.ret [bV true] [])) (by omega) (fun k c hk hl=>by
   have h0:(0:Int)≤k:=by omega
   have rn:=rn c (List.mem_of_getElem? hk)
   have rf:=rf c (List.mem_of_getElem? hk)
   unfold oA1
   refine⟨fun hp=> ?_,fun hp out h=> ?_⟩
   ·cases c1:cJ0 c.name with
    | false=>
     rw[c1]at rn
     simp only[dcC,sV,iV,bV,E104,cZ0 hl]at rn ⊢
     (rw[mA1];simp only[B104,rC1,sub,f104,↓reduceIte,zG])
     simp only[zS,zD,cM0,zT37,zT98,zT9,aK0,aC0,aD0,Array.size,List.length,h0,hl,Int.toNat_natCast,hk,dM0 c,rn,simprocAttr]
     rw[aB0 _ _ _ _ (by kernel_rfl)]
     simp only[zS,zD,simprocAttr]
     (refine .trans ?_ rfl;kernel_rfl)
    | true=>
     have c2:gD0 c.arg 1 d.levels=false:=by unfold lX0 at hp;rw[c1]at hp;simpa using hp
     rw[c1]at rn
     rw[c2]at rf
     simp only[dcC,tmV,tmC,sV,iV,bV,E104,cZ0 hl]at rn rf ⊢
     (rw[mA1];simp only[B104,rC1,sub,f104,↓reduceIte,zG])
     simp only[zS,zD,zT39,zT33,zT37,zT98,zT9,zT3,aK0,aC0,aD0,Array.size,List.length,h0,hl,Int.toNat_natCast,hk,dM0 c,rn,rf,simprocAttr]
     rw[aB0 _ _ _ _ (by kernel_rfl)]
     simp only[zS,zD,simprocAttr]
     (refine .trans ?_ rfl;kernel_rfl)
   ·have hp':lX0 d.levels c=true:=by simpa using hp
    unfold lX0 at hp'
    rw[Bool.and_eq_true]at hp'
    rw[hp'.1]at rn
    rw[hp'.2]at rf
    simp only[dcC,tmV,tmC,sV,iV,bV,E104,cZ0 hl]at rn rf h ⊢
    (rw[mA1];simp only[B104,rC1,sub,f104,↓reduceIte,zG])
    simp only[zS,zD,zT39,zT33,zT37,zT98,zT9,zT3,aK0,aC0,aD0,Array.size,List.length,h0,hl,Int.toNat_natCast,hk,dM0 c,rn,rf,simprocAttr]
    rw[aB0 _ _ _ _ (by kernel_rfl)]
    simp only[zS,zD,simprocAttr]
    (refine(aA0 ?_).trans h;kernel_rfl)) (by
   unfold oA1
   simp only[dcC,iV,E104]
   (rw[mA1];simp only[B104,rC1,sub,f104,↓reduceIte,zG])
   simp only[zS,zD,cM0,zT37,aS0,Int.lt_irrefl,simprocAttr]
   (refine .trans ?_ rfl;kernel_rfl))
 rw[this]
 have e:d.cons.all (lX0 d.levels) = !(d.cons.any fun c=> !lX0 d.levels c):=(kM1 d.cons d.levels).symm
 rw[e,← List.findIdx?_isSome]
 cases d.cons.findIdx? (fun c=> !lX0 d.levels c) <;> rfl
def Hid (P:Prop):Prop:=P
theorem rW2 {α:Type} (l:List α):((l.length:Int)==0)=lenZ l:=rfl
theorem uZ1 (hx:ext 104=none)(d:Dc)(hl:oA1 ext 0 (E104 0) [.box (dcC d)]=some (.ret [bV (d.cons.all (lX0 d.levels))] []))(r164:run prog ext (.call 164 [sV d.name] [])=some (.ret [bV (cJ0 d.name)] []))
  (rp:run prog ext (.call 165 [tmV d.param] [])=some (.ret [bV (hB0 d.param)] []))(rt:run prog ext (.call 165 [tmV d.type] [])=some (.ret [bV (hB0 d.type)] []))(rb:run prog ext (.call 165 [tmV d.body] [])=some (.ret [bV (hB0 d.body)] []))
  (ro:run prog ext (.call 43 [levV d.over,.agg [.d (.v (.int .i64 0)),.d (.v (.slice none 0 0))]] [])=some (.ret [bV (hN0 d.over)] []))(rs:run prog ext (.call 43 [levV d.sort,.agg [.d (.v (.int .i64 0)),.d (.v (.slice none 0 0))]] [])=some (.ret [bV (hN0 d.sort)] []))
  (ft:run prog ext (.call 166 [tmV d.type,iV d.levels,iV 0] [])=some (.ret [bV (gD0 d.type 0 d.levels)] []))(fb:run prog ext (.call 166 [tmV d.body,iV d.levels,iV 0] [])=some (.ret [bV (gD0 d.body 0 d.levels)] []))(fp:run prog ext (.call 166 [tmV d.param,iV d.levels,iV 0] [])=some (.ret [bV (gD0 d.param 0 d.levels)] []))
  (co:run prog ext (.call 167 [levV d.over,iV d.levels] [])=some (.ret [bV (hU0 d.over d.levels)] []))(cs:run prog ext (.call 167 [levV d.sort,iV d.levels] [])=some (.ret [bV (hU0 d.sort d.levels)] [])) :
  run prog ext (.call 104 [dcV d] [])=some (.ret [bV (hI0 d)] []):=by
 unfold hI0
 have l0:=dlt d.levels 0
 have l8:=dgt d.levels 8
 have n8:=dgt (d.cons.length:Int) 8
 have nz:=rW2 d.cons
 simp only[tmV,tmC,levV,levC,sV,iV,bV]at r164 rp rt rb ro rs ft fb fp co cs ⊢
 cases c0:cJ0 d.name with
 | false=>
  rw[c0]at r164
  (rw[enT hx func104 rfl];simp only[f104,zR,simprocAttr,zE])
  simp only[dcV,dcC]
  simp only[zS,zD,aE0,zT9,r164,simprocAttr]
  (refine .trans ?_ rfl;kernel_rfl)
 | true=>
 rw[c0]at r164
 cases c1:decide (0≤d.levels) with
 | false=>
  rw[c1]at l0
  (rw[enT hx func104 rfl];simp only[f104,zR,simprocAttr,zE])
  simp only[dcV,dcC]
  simp only[zS,zD,zT39,zT9,zT3,r164,l0,simprocAttr]
  (refine .trans ?_ rfl;kernel_rfl)
 | true=>
 rw[c1]at l0
 cases c2:decide (d.levels≤8) with
 | false=>
  rw[c2]at l8
  (rw[enT hx func104 rfl];simp only[f104,zR,simprocAttr,zE])
  simp only[dcV,dcC]
  simp only[zS,zD,zT39,zT9,zT3,r164,l0,l8,simprocAttr]
  (refine .trans ?_ rfl;kernel_rfl)
 | true=>
 rw[c2]at l8
 cases k1:(d.kind==1) with
 | true=>
  have k3:(d.kind==3)=false:=by rw[beq_iff_eq]at k1;rw[k1];rfl
  refine br4 (hB0 d.param) (hN0 d.over) (hN0 d.sort) (lenZ d.cons) ?_ ?_ ?_ ?_ (fun a b c e=>br1 (gD0 d.type 0 d.levels) ?_ ?_)
  all_goals
   intros
   clear hl
   (rw[enT hx func104 rfl];simp only[f104,zR,simprocAttr,zE])
   simp only[dcV,dcC]
   simp only[zS,zD,zT39,zT33,zT36,zT37,zT9,zT3,aS0, *,simprocAttr]
   (refine .trans ?_ rfl;kernel_rfl)
 | false=>
 cases k2:(d.kind==2) with
 | true=>
  have k3:(d.kind==3)=false:=by rw[beq_iff_eq]at k2;rw[k2];rfl
  refine br4 (hB0 d.param) (hN0 d.over) (hN0 d.sort) (lenZ d.cons) ?_ ?_ ?_ ?_ (fun a b c e=>br1 (gD0 d.type 0 d.levels) ?_ ?_)
  all_goals
   intros
   clear hl
   (rw[enT hx func104 rfl];simp only[f104,zR,simprocAttr,zE])
   simp only[dcV,dcC]
   simp only[zS,zD,zT39,zT33,zT36,zT37,zT9,zT3,aS0, *,simprocAttr]
   (refine .trans ?_ rfl;kernel_rfl)
 | false=>
 cases k3:(d.kind==3) with
 | true=>
  refine br4 (hB0 d.param) (hN0 d.over) (hN0 d.sort) (lenZ d.cons) ?_ ?_ ?_ ?_ (fun a b c e=>br1 (gD0 d.type 0 d.levels) ?_ ?_)
  all_goals
   intros
   clear hl
   (rw[enT hx func104 rfl];simp only[f104,zR,simprocAttr,zE])
   simp only[dcV,dcC]
   simp only[zS,zD,zT39,zT33,zT36,zT37,zT9,zT3,aS0, *,simprocAttr]
   (refine .trans ?_ rfl;kernel_rfl)
 | false=>
 cases k4:(d.kind==4) with
 | false=>
  refine br4 (hB0 d.param) (hN0 d.over) (hN0 d.sort) (lenZ d.cons) ?_ ?_ ?_ ?_ ?_
  all_goals
   intros
   clear hl
   (rw[enT hx func104 rfl];simp only[f104,zR,simprocAttr,zE])
   simp only[dcV,dcC]
   simp only[zS,zD,zT39,zT33,zT36,zT37,zT9,zT3,aS0,Bool.and_false,Bool.false_and, *,simprocAttr]
   (refine .trans ?_ rfl;kernel_rfl)
 | true=>
  refine br4 (hB0 d.param) (hN0 d.over) (hN0 d.sort) (lenZ d.cons) ?_ ?_ ?_ ?_ ?_
  all_goals
   intros
   refine br4 (hB0 d.type) (hB0 d.body) (gD0 d.param 0 d.levels) (hU0 d.over d.levels) ?_ ?_ ?_ ?_ (fun a b c e=>br1 (hU0 d.sort d.levels) ?_ (fun f=>br1 (decide ((d.cons.length:Int)≤8)) ?_ ?last))
   case last=>
    intros
    unfold oA1 at hl
    simp only[dcC,iV,E104]at hl
    have hk:Hid _:=hl
    clear hl
    (rw[enT hx func104 rfl];simp only[f104,zR,simprocAttr,zE])
    simp only[dcV,dcC]
    simp only[zS,zD,zT39,zT33,zT36,zT37,zT9,zT3,aS0,Bool.and_false,Bool.false_and, *,simprocAttr]
    unfold Hid at hk
    refine(aA0 ?_).trans hk
    kernel_rfl
   all_goals
    intros
    clear hl
    (rw[enT hx func104 rfl];simp only[f104,zR,simprocAttr,zE])
    simp only[dcV,dcC]
    simp only[zS,zD,zT39,zT33,zT36,zT37,zT9,zT3,aS0,Bool.and_false,Bool.false_and, *,simprocAttr]
    (refine .trans ?_ rfl;kernel_rfl)
end
end Go.Proofs.YteenjodhmppgjaaGreatDoor.Am
