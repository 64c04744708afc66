/- A part of the proof of a card. No conditions. -/
import Derived.Test.YteenjodhmppgjaaGreatDoorPc6
import Derived.Test.YteenjodhmppgjaaGreatDoorPb6
set_option linter.all false
set_option maxHeartbeats 16000000
set_option maxRecDepth 10000
namespace Go.Proofs.YteenjodhmppgjaaGreatDoor.Am
open Go.Proofs.Tryz
section
open Go
variable (ext:Ext)
noncomputable def B181 : Code:=(f181.body.getD .skip)
noncomputable def mH2 : Code:=sub B181 [1,1,0,1,0,0]
theorem vM1 : It.code mH2=It.code (sub B181 [1,1,0,1,0,0]):=rfl
noncomputable def aP2 : List It:=[.inBlock 0,.code (sub B181 [1,1,1])]
noncomputable def bW1 (ext:Ext)(m:Nat)(env:Env)(loc:List O):Option Out:=run prog ext (.k ⟨19,m,[.tmp 2],true⟩ (.code mH2 :: .inLoop mH2::aP2) env loc)
theorem mT1 {p:List Int}{k:Nat} (h:(k:Int)<p.length):dY0 p = .s 1 (p.map inD):=by unfold dY0;exact aM0 (b:=k) (by omega) (by simpa using h)
theorem wS1 (look:Look)(p:List Int):lenA look (.c (.d (dY0 p)))=eff (.c (.d (.v (.int .i64 p.length)))):=by unfold dY0;rw[gI0,List.length_map]
def E181 (p:List Int)(ls:List Int)(k:Int):Env:=[(0,dV (dY0 p)),(3,mkV 0 (ls.map inD)),(4,iV k)]
theorem dP2 (hx:ext 181=none)(p:List Int)(out:Option Out)(h:bW1 ext 0 (E181 p [] 0) []=out):run prog ext (.call 181 [dV (dY0 p)] [])=out:=by
 unfold bW1 at h
 (rw[enT hx func181 rfl];simp only[f181,zR,simprocAttr,zE])
 simp only[dV,iV,E181,List.map_nil,cF0]at h ⊢
 simp only[zS,zD,simprocAttr]
 (refine(aA0 ?_).trans h;kernel_rfl)
theorem vV2 (p ls:List Int)(n:Int)(k:Nat)(hb:ls.length<2^29)(hk:p[k]? = some n)(hl:(k:Int)<p.length)(out:Option Out)
  (h:bW1 ext 0 (E181 p (ls++[n]) (wr ((k:Int)+1))) (mkO 1 ((ls++[n]).map inD))=out):bW1 ext 0 (E181 p ls k) (mkO 1 (ls.map inD))=out:=by
 have h0:(0:Int)≤k:=by omega
 unfold bW1 at h ⊢
 cases ls with
 | nil=>
  simp only[dV,iV,E181,mT1 hl,List.map_cons,List.map_nil,cF0,cR0,List.nil_append,gP0]at h ⊢
  (rw[vM1];simp only[B181,aP2,sub,f181,↓reduceIte,zG])
  simp only[zS,zD,dN0,zT3,h0,hl,Int.toNat_natCast,hk,gP0,bsIn,no43,dL0,Nat.zero_le,simprocAttr]
  (refine(aA0 ?_).trans h;kernel_rfl)
 | cons a r=>
  have hb':r.length+1≤1000000000:=by simp only[List.length_cons]at hb;omega
  simp only[dV,iV,E181,mT1 hl,List.map_append,List.map_cons,List.map_nil,cA0,bZ0,List.cons_append,gP0]at h ⊢
  (rw[vM1];simp only[B181,aP2,sub,f181,↓reduceIte,zG])
  simp only[zS,zD,dN0,zT3,h0,hl,Int.toNat_natCast,hk,gP0,bsIn,oo43,dP0,hb',simprocAttr]
  (refine(aA0 ?_).trans h;kernel_rfl)
theorem pQ2 (p ls:List Int):bW1 ext 0 (E181 p ls p.length) (mkO 1 (ls.map inD))=some (.ret [mkV 0 (ls.map inD)] (mkO 1 (ls.map inD))):=by
 unfold bW1
 cases ls
 all_goals
  simp only[dV,iV,E181,List.map_cons,List.map_nil,cF0,cA0,cR0,bZ0]
  (rw[vM1];simp only[B181,aP2,sub,f181,↓reduceIte,zG])
  simp only[zS,zD,dN0,wS1,Int.lt_irrefl,simprocAttr]
  (refine .trans ?_ rfl;kernel_rfl)
theorem mU1 {α:Type}:∀ (l:List α)(k:Nat),xF0 (fun _ _=>true) (fun _ x=>x) k l=l
 | [],_=>rfl
 | x::l,k=>by rw[xF0,if_pos rfl,mU1 l]
theorem sT1 (hx:ext 181=none)(p:List Int)(hp:p.length<2^29):run prog ext (.call 181 [dV (dY0 p)] [])=some (.ret [mkV 0 (p.map inD)] (mkO 1 (p.map inD))):=by
 refine dP2 ext hx p _ ?_
 have:=eS1 (fun _ _=>true) (fun _ x=>x) p (fun k ls=>bW1 ext 0 (E181 p ls k) (mkO 1 (ls.map inD))) (fun ls=>some (.ret [mkV 0 (ls.map inD)] (mkO 1 (ls.map inD)))) (by omega)
  (fun k y ls hk hl he=>⟨fun _ out h=>vV2 ext p ls y k (by omega) hk hl out h,fun h=>by cases h⟩) (fun ls _=>pQ2 ext p ls)
 rw[mU1]at this
 exact this
theorem kO1 (hx:ext 112=none)(p:List Int)(k:Int)(hp:p.length<2^29)(hr:run prog ext (.call 181 [dV (dY0 p)] [])=some (.ret [mkV 0 (p.map inD)] (mkO 1 (p.map inD)))):run prog ext (.call 112 [dV (dY0 p),iV k] [])=some (.ret [dV (dY0 (p++[k]))] []):=by
 cases p with
 | nil=>
  show _=some (Out.ret [dV (.s 1 [inD k])] [])
  (rw[enT hx func112 rfl];simp only[f112,zR,simprocAttr,zE])
  simp only[dV,iV,iT0,List.map_nil,cF0,cR0]at hr ⊢
  simp only[zS,zD,hr,bsIn,no43,dL0,Nat.zero_le,simprocAttr]
  (refine .trans ?_ rfl;kernel_rfl)
 | cons a r=>
  have e:dY0 ((a::r)++[k]) = .s 1 (inD a::(r.map inD++[inD k])):=by rw[List.cons_append,iH0,List.map_cons,List.map_append];rfl
  have hb':r.length+1≤1000000000:=by simp only[List.length_cons]at hp;omega
  rw[e,iH0]
  rw[iH0]at hr
  (rw[enT hx func112 rfl];simp only[f112,zR,simprocAttr,zE])
  simp only[dV,iV,List.map_cons,cA0,bZ0]at hr ⊢
  simp only[zS,zD,hr,kU0,bsIn,oo43,dP0,hb',simprocAttr]
  (refine .trans ?_ rfl;kernel_rfl)
def arR (t:Tm)(d:Dc):Bool:=((t.u.length:Int) != d.levels)||(((t.op==27)&&decide ((d.cons.length:Int)≤t.n))||((t.op==28)&&((t.l.length:Int) != wr ((d.cons.length:Int)+3))))
def ownB (o:Dc)(t:Tm):Bool:=(o.kind==4)&&(o.name.toList==t.s.toList)
def ndR (o:Dc)(t:Tm)(th fa:Dc × Bool):Int:=
 if(t.op==2)=true then(if th.2=true then(if arR t th.1=true then 42 else 0) else 41)
 else if((t.op==26)&&ownB o t)=true then(if arR t o=true then 42 else 0)
 else if((t.op==26)||((t.op==27)||(t.op==28)))=true then(if fa.2=true then(if arR t fa.1=true then 42 else 0) else 41)
 else 0

theorem uI2 (hx:ext 111=none)(x:Tb)(o:Dc)(t:Tm)(e2:(t.op==2)=false)(e26:(t.op==26)=false)(e27:(t.op==27)=false)(e28:(t.op==28)=false) :
  run prog ext (.call 111 [tbV x,dcV o,tmV t] [])=some (.ret [iV 0] []):=by
 (rw[enT hx func111 rfl];simp only[f111,zR,simprocAttr,zE])
 simp only[tbV,tbC,iV,tmV,tmC,dcV,dcC,Tm.uD]
 simp only[zS,zD,zT39,bJ0,zT3,e2,e26,e27,e28,simprocAttr]
 (refine .trans ?_ rfl;kernel_rfl)

theorem uJ2 (hx:ext 111=none)(x:Tb)(o:Dc)(t:Tm)(e2:(t.op==2)=true)(e26:(t.op==26)=false)(e27:(t.op==27)=false)(e28:(t.op==28)=false)(th:Dc × Bool)(h80:run prog ext (.call 80 [tbV x,sV t.s] [])=some (.ret [dcV th.1,bV th.2] [])) :
  run prog ext (.call 111 [tbV x,dcV o,tmV t] [])=some (.ret [iV (if th.2=true then(if arR t th.1=true then 42 else 0) else 41)] []):=by
 obtain⟨d,b⟩:=th
 cases b with
 | false=>
  (rw[enT hx func111 rfl];simp only[f111,zR,simprocAttr,zE])
  simp only[tbV,tbC,sV,iV,bV,tmV,tmC,dcV,dcC,Tm.uD]at h80 ⊢
  simp only[zS,zD,zT24,zT39,zT33,zT9,zT3,aF0,e2,h80,simprocAttr]
  (refine .trans ?_ rfl;kernel_rfl)
 | true=>
  unfold arR
  cases c:((t.u.length:Int) != d.levels) with
  | true=>
   (rw[enT hx func111 rfl];simp only[f111,zR,simprocAttr,zE])
   simp only[tbV,tbC,sV,iV,bV,tmV,tmC,dcV,dcC,Tm.uD]at h80 ⊢
   simp only[zS,zD,zT24,zT39,zT33,zT30,zT9,zT3,aF0,e2,e27,e28,h80,c,simprocAttr]
   (refine .trans ?_ rfl;kernel_rfl)
  | false=>
   simp only[e27,e28,Bool.false_and,Bool.or_false]
   (rw[enT hx func111 rfl];simp only[f111,zR,simprocAttr,zE])
   simp only[tbV,tbC,sV,iV,bV,tmV,tmC,dcV,dcC,Tm.uD]at h80 ⊢
   simp only[zS,zD,zT24,zT39,zT33,zT30,zT9,zT3,aF0,e2,e27,e28,h80,c,simprocAttr]
   (refine .trans ?_ rfl;kernel_rfl)

theorem yH1 (hx:ext 111=none)(x:Tb)(o:Dc)(t:Tm)(e2:(t.op==2)=false)(e26:(t.op==26)=true)(e27:(t.op==27)=false)(e28:(t.op==28)=false)(k4:(o.kind==4)=true)(kn:(o.name.toList==t.s.toList)=true) :
  run prog ext (.call 111 [tbV x,dcV o,tmV t] [])=some (.ret [iV (if arR t o=true then 42 else 0)] []):=by
 unfold arR
 cases c:((t.u.length:Int) != o.levels) with
 | true=>
  (rw[enT hx func111 rfl];simp only[f111,zR,simprocAttr,zE])
  simp only[tbV,tbC,iV,tmV,tmC,dcV,dcC,Tm.uD]
  simp only[zS,zD,zT39,zT33,zT30,zT9,zT3,e2,e26,e27,e28,k4,kn,c,simprocAttr]
  (refine .trans ?_ rfl;kernel_rfl)
 | false=>
  simp only[e27,e28,Bool.false_and,Bool.or_false]
  (rw[enT hx func111 rfl];simp only[f111,zR,simprocAttr,zE])
  simp only[tbV,tbC,iV,tmV,tmC,dcV,dcC,Tm.uD]
  simp only[zS,zD,zT39,zT33,zT30,zT9,zT3,e2,e26,e27,e28,k4,kn,c,simprocAttr]
  (refine .trans ?_ rfl;kernel_rfl)

theorem yF1 (hx:ext 111=none)(x:Tb)(o:Dc)(t:Tm)(e2:(t.op==2)=false)(e26:(t.op==26)=true)(e27:(t.op==27)=false)(e28:(t.op==28)=false)(k4:(o.kind==4)=false)(fa:Dc × Bool)(h73:run prog ext (.call 73 [tbV x,sV t.s] [])=some (.ret [dcV fa.1,bV fa.2] [])) :
  run prog ext (.call 111 [tbV x,dcV o,tmV t] [])=some (.ret [iV (if fa.2=true then(if arR t fa.1=true then 42 else 0) else 41)] []):=by
 obtain⟨d,b⟩:=fa
 cases b with
 | false=>
  (rw[enT hx func111 rfl];simp only[f111,zR,simprocAttr,zE])
  simp only[tbV,tbC,sV,iV,bV,tmV,tmC,dcV,dcC,Tm.uD]at h73 ⊢
  simp only[zS,zD,zT24,zT39,zT33,zT9,zT3,aF0,e2,e26,h73,k4,simprocAttr]
  (refine .trans ?_ rfl;kernel_rfl)
 | true=>
  unfold arR
  cases c:((t.u.length:Int) != d.levels) with
  | true=>
   (rw[enT hx func111 rfl];simp only[f111,zR,simprocAttr,zE])
   simp only[tbV,tbC,sV,iV,bV,tmV,tmC,dcV,dcC,Tm.uD]at h73 ⊢
   simp only[zS,zD,zT24,zT39,zT33,zT30,zT9,zT3,aF0,e2,e26,e27,e28,h73,k4,c,simprocAttr]
   (refine .trans ?_ rfl;kernel_rfl)
  | false=>
   simp only[e27,e28,Bool.false_and,Bool.or_false]
   (rw[enT hx func111 rfl];simp only[f111,zR,simprocAttr,zE])
   simp only[tbV,tbC,sV,iV,bV,tmV,tmC,dcV,dcC,Tm.uD]at h73 ⊢
   simp only[zS,zD,zT24,zT39,zT33,zT30,zT9,zT3,aF0,e2,e26,e27,e28,h73,k4,c,simprocAttr]
   (refine .trans ?_ rfl;kernel_rfl)

theorem yG1 (hx:ext 111=none)(x:Tb)(o:Dc)(t:Tm)(e2:(t.op==2)=false)(e26:(t.op==26)=true)(e27:(t.op==27)=false)(e28:(t.op==28)=false)(k4:(o.kind==4)=true)(kn:(o.name.toList==t.s.toList)=false)(fa:Dc × Bool)(h73:run prog ext (.call 73 [tbV x,sV t.s] [])=some (.ret [dcV fa.1,bV fa.2] [])) :
  run prog ext (.call 111 [tbV x,dcV o,tmV t] [])=some (.ret [iV (if fa.2=true then(if arR t fa.1=true then 42 else 0) else 41)] []):=by
 obtain⟨d,b⟩:=fa
 cases b with
 | false=>
  (rw[enT hx func111 rfl];simp only[f111,zR,simprocAttr,zE])
  simp only[tbV,tbC,sV,iV,bV,tmV,tmC,dcV,dcC,Tm.uD]at h73 ⊢
  simp only[zS,zD,zT24,zT39,zT33,zT9,zT3,aF0,e2,e26,h73,k4,kn,simprocAttr]
  (refine .trans ?_ rfl;kernel_rfl)
 | true=>
  unfold arR
  cases c:((t.u.length:Int) != d.levels) with
  | true=>
   (rw[enT hx func111 rfl];simp only[f111,zR,simprocAttr,zE])
   simp only[tbV,tbC,sV,iV,bV,tmV,tmC,dcV,dcC,Tm.uD]at h73 ⊢
   simp only[zS,zD,zT24,zT39,zT33,zT30,zT9,zT3,aF0,e2,e26,e27,e28,h73,k4,kn,c,simprocAttr]
   (refine .trans ?_ rfl;kernel_rfl)
  | false=>
   simp only[e27,e28,Bool.false_and,Bool.or_false]
   (rw[enT hx func111 rfl];simp only[f111,zR,simprocAttr,zE])
   simp only[tbV,tbC,sV,iV,bV,tmV,tmC,dcV,dcC,Tm.uD]at h73 ⊢
   simp only[zS,zD,zT24,zT39,zT33,zT30,zT9,zT3,aF0,e2,e26,e27,e28,h73,k4,kn,c,simprocAttr]
   (refine .trans ?_ rfl;kernel_rfl)

theorem gS2 (hx:ext 111=none)(x:Tb)(o:Dc)(t:Tm)(e2:(t.op==2)=false)(e26:(t.op==26)=false)(e27:(t.op==27)=true)(e28:(t.op==28)=false)(fa:Dc × Bool)(h73:run prog ext (.call 73 [tbV x,sV t.s] [])=some (.ret [dcV fa.1,bV fa.2] [])) :
  run prog ext (.call 111 [tbV x,dcV o,tmV t] [])=some (.ret [iV (if fa.2=true then(if arR t fa.1=true then 42 else 0) else 41)] []):=by
 obtain⟨d,b⟩:=fa
 cases b with
 | false=>
  (rw[enT hx func111 rfl];simp only[f111,zR,simprocAttr,zE])
  simp only[tbV,tbC,sV,iV,bV,tmV,tmC,dcV,dcC,Tm.uD]at h73 ⊢
  simp only[zS,zD,zT24,zT39,zT33,zT9,zT3,aF0,e2,e26,e27,h73,simprocAttr]
  (refine .trans ?_ rfl;kernel_rfl)
 | true=>
  unfold arR
  cases c:((t.u.length:Int) != d.levels) with
  | true=>
   (rw[enT hx func111 rfl];simp only[f111,zR,simprocAttr,zE])
   simp only[tbV,tbC,sV,iV,bV,tmV,tmC,dcV,dcC,Tm.uD]at h73 ⊢
   simp only[zS,zD,zT24,zT39,zT33,zT30,zT9,zT3,aF0,e2,e26,e27,e28,h73,c,simprocAttr]
   (refine .trans ?_ rfl;kernel_rfl)
  | false=>
   cases c2:decide ((d.cons.length:Int)≤t.n) with
   | true=>
    simp only[e27,e28,Bool.true_and,Bool.false_and,Bool.false_or,Bool.or_false]
    (rw[enT hx func111 rfl];simp only[f111,zR,simprocAttr,zE])
    simp only[tbV,tbC,sV,iV,bV,tmV,tmC,dcV,dcC,Tm.uD]at h73 ⊢
    simp only[zS,zD,zT24,zT39,zT33,zT30,zT37,zT9,zT3,aS0,ge_iff_le,aF0,e2,e26,e27,h73,c,c2,simprocAttr]
    (refine .trans ?_ rfl;kernel_rfl)
   | false=>
    simp only[e27,e28,Bool.true_and,Bool.false_and,Bool.or_false]
    (rw[enT hx func111 rfl];simp only[f111,zR,simprocAttr,zE])
    simp only[tbV,tbC,sV,iV,bV,tmV,tmC,dcV,dcC,Tm.uD]at h73 ⊢
    simp only[zS,zD,zT24,zT39,zT33,zT30,zT37,zT9,zT3,aS0,ge_iff_le,aF0,e2,e26,e27,e28,h73,c,c2,simprocAttr]
    (refine .trans ?_ rfl;kernel_rfl)

theorem gT2 (hx:ext 111=none)(x:Tb)(o:Dc)(t:Tm)(e2:(t.op==2)=false)(e26:(t.op==26)=false)(e27:(t.op==27)=false)(e28:(t.op==28)=true)(fa:Dc × Bool)(h73:run prog ext (.call 73 [tbV x,sV t.s] [])=some (.ret [dcV fa.1,bV fa.2] [])) :
  run prog ext (.call 111 [tbV x,dcV o,tmV t] [])=some (.ret [iV (if fa.2=true then(if arR t fa.1=true then 42 else 0) else 41)] []):=by
 obtain⟨d,b⟩:=fa
 cases b with
 | false=>
  (rw[enT hx func111 rfl];simp only[f111,zR,simprocAttr,zE])
  simp only[tbV,tbC,sV,iV,bV,tmV,tmC,dcV,dcC,Tm.uD]at h73 ⊢
  simp only[zS,zD,zT24,zT39,zT33,zT9,zT3,aF0,e2,e26,e27,e28,h73,simprocAttr]
  (refine .trans ?_ rfl;kernel_rfl)
 | true=>
  unfold arR
  cases c:((t.u.length:Int) != d.levels) with
  | true=>
   (rw[enT hx func111 rfl];simp only[f111,zR,simprocAttr,zE])
   simp only[tbV,tbC,sV,iV,bV,tmV,tmC,dcV,dcC,Tm.uD]at h73 ⊢
   simp only[zS,zD,zT24,zT39,zT33,zT30,zT9,zT3,aF0,e2,e26,e27,e28,h73,c,simprocAttr]
   (refine .trans ?_ rfl;kernel_rfl)
  | false=>
   cases c2:((t.l.length:Int) != wr ((d.cons.length:Int)+3)) with
   | true=>
    simp only[e27,e28,Bool.true_and,Bool.false_and,Bool.false_or]
    (rw[enT hx func111 rfl];simp only[f111,zR,simprocAttr,zE])
    simp only[tbV,tbC,sV,iV,bV,tmV,tmC,dcV,dcC,Tm.uD]at h73 ⊢
    simp only[zS,zD,zT24,zT39,zT33,zT31,zT30,zT37,zT9,zT3,aI0,aS0,aF0,e2,e26,e27,e28,h73,c,c2,simprocAttr]
    (refine .trans ?_ rfl;kernel_rfl)
   | false=>
    simp only[e27,e28,Bool.true_and,Bool.false_and,Bool.or_false]
    (rw[enT hx func111 rfl];simp only[f111,zR,simprocAttr,zE])
    simp only[tbV,tbC,sV,iV,bV,tmV,tmC,dcV,dcC,Tm.uD]at h73 ⊢
    simp only[zS,zD,zT24,zT39,zT33,zT31,zT30,zT37,zT9,zT3,aI0,aS0,aF0,e2,e26,e27,e28,h73,c,c2,simprocAttr]
    (refine .trans ?_ rfl;kernel_rfl)

theorem gF2 (hx:ext 111=none)(x:Tb)(o:Dc)(t:Tm)(th fa:Dc × Bool)(h80:run prog ext (.call 80 [tbV x,sV t.s] [])=some (.ret [dcV th.1,bV th.2] []))(h73:run prog ext (.call 73 [tbV x,sV t.s] [])=some (.ret [dcV fa.1,bV fa.2] [])) :
  run prog ext (.call 111 [tbV x,dcV o,tmV t] [])=some (.ret [iV (ndR o t th fa)] []):=by
 unfold ndR ownB
 have g:∀ a b:Int,¬ a=b→∀ n:Int,(n==a)=true→(n==b)=false:=fun a b h n e=>by
  rw[beq_iff_eq]at e
  rw[e]
  exact beq_false_of_ne h
 cases e2:(t.op==2) with
 | true=>rw[if_pos rfl];exact uJ2 ext hx x o t e2 (g _ _ (by decide) _ e2) (g _ _ (by decide) _ e2) (g _ _ (by decide) _ e2) th h80
 | false=>
  rw[if_neg (by decide)]
  cases e26:(t.op==26) with
  | true=>
   have e27:(t.op==27)=false:=g _ _ (by decide) _ e26
   have e28:(t.op==28)=false:=g _ _ (by decide) _ e26
   cases k4:(o.kind==4) with
   | false=>rw[if_neg (by simp),if_pos (by simp)];exact yF1 ext hx x o t e2 e26 e27 e28 k4 fa h73
   | true=>
    cases kn:(o.name.toList==t.s.toList) with
    | false=>rw[if_neg (by simp),if_pos (by simp)];exact yG1 ext hx x o t e2 e26 e27 e28 k4 kn fa h73
    | true=>rw[if_pos (by decide)];exact yH1 ext hx x o t e2 e26 e27 e28 k4 kn
  | false=>
   rw[if_neg (by simp)]
   cases e27:(t.op==27) with
   | true=>
    rw[if_pos (by simp)]
    exact gS2 ext hx x o t e2 e26 e27 (g _ _ (by decide) _ e27) fa h73
   | false=>
    cases e28:(t.op==28) with
    | true=>rw[if_pos (by decide)];exact gT2 ext hx x o t e2 e26 e27 e28 fa h73
    | false=>rw[if_neg (by decide)];exact uI2 ext hx x o t e2 e26 e27 e28
end
section
open Go
variable (ext:Ext)
noncomputable def B67 : Code:=(f67.body.getD .skip)
noncomputable def L67a : Code:=sub B67 [1,1,0,1,0,0]
theorem rA2 : It.code L67a=It.code (sub B67 [1,1,0,1,0,0]):=rfl
noncomputable def K67a : List It:=[.inBlock 0,.code (sub B67 [1,1,1])]
noncomputable def H67a (ext:Ext)(m:Nat)(env:Env)(loc:List O):Option Out:=run prog ext (.k ⟨44,m,[.cell 8 45],false⟩ (.code L67a :: .inLoop L67a::K67a) env loc)
def fltV (c:Int)(p:List Int):V:= .agg [.d (.v (.int .i64 c)),.d (dY0 p)]
def E67 (p:List Int)(k:Int):Env:=[(3,dV (dY0 p)),(4,.c (.ptr 0 0)),(5,.c (.ptr 1 0)),(6,.c (.ptr 2 0)),(8,.c (.ptr 3 0)),(10,iV k)]
def O67 (x:Tb)(o:Dc)(t:Tm):List O:=[.box [.d x.d],.box (dcC o),.box (tmC t),.box [.d (.v (.int .i64 0)),.d (.v (.slice none 0 0))]]
theorem qF2 (hx:ext 67=none)(x:Tb)(o:Dc)(t:Tm)(p:List Int)(r111:run prog ext (.call 111 [tbV x,dcV o,tmV t] [])=some (.ret [iV 0] []))(out:Option Out)
  (h:H67a ext 0 (E67 p 0) (O67 x o t)=out):run prog ext (.call 67 [tbV x,dcV o,tmV t,dV (dY0 p)] [])=out:=by
 unfold H67a at h
 (rw[enT hx func67 rfl];simp only[f67,zR,simprocAttr,zE])
 simp only[tbV,tbC,tmV,tmC,dcV,dcC,dV,iV,E67,O67]at r111 h ⊢
 simp only[zS,zD,zT24,zT39,zT33,bN1,r111,simprocAttr]
 (refine(aA0 ?_).trans h;kernel_rfl)
theorem out67 (hx:ext 67=none)(x:Tb)(o:Dc)(t:Tm)(p:List Int)(c:Int)(hc:¬ c=0)(r111:run prog ext (.call 111 [tbV x,dcV o,tmV t] [])=some (.ret [iV c] [])) :
  run prog ext (.call 67 [tbV x,dcV o,tmV t,dV (dY0 p)] [])=some (.ret [fltV c p] []):=by
 (rw[enT hx func67 rfl];simp only[f67,zR,simprocAttr,zE])
 simp only[tbV,tbC,tmV,tmC,dcV,dcC,dV,iV,fltV]at r111 ⊢
 simp only[zS,zD,zT24,zT39,zT33,zT45,r111,hc,simprocAttr]
 (refine .trans ?_ rfl;kernel_rfl)
theorem step67 (x:Tb)(o:Dc)(t y:Tm)(p:List Int)(k:Nat)(hk:t.l[k]? = some y)(hl:(k:Int)<t.l.length)(D:D)(r112:run prog ext (.call 112 [dV (dY0 p),iV k] [])=some (.ret [dV D] []))
  (r67:run prog ext (.call 67 [tbV x,dcV o,tmV y,dV D] [])=some (.ret [.agg [.d (.v (.int .i64 0)),.d (.v (.slice none 0 0))]] []))(out:Option Out)(h:H67a ext 0 (E67 p (wr ((k:Int)+1))) (O67 x o t)=out):H67a ext 0 (E67 p k) (O67 x o t)=out:=by
 have h0:(0:Int)≤k:=by omega
 unfold H67a at h ⊢
 simp only[tbV,tbC,tmV,tmC,dcV,dcC,dV,iV,E67,O67,bC0 hl]at r112 r67 h ⊢
 (rw[rA2];simp only[B67,K67a,sub,f67,↓reduceIte,zG])
 simp only[zS,zD,zT24,zT39,zT33,zT45,zT31,aK0,aC0,aD0,Array.size,List.length,h0,hl,Int.toNat_natCast,hk,aH0 y,r112,r67,simprocAttr]
 rw[aB0 _ _ _ _ (by kernel_rfl)]
 simp only[zS,zD,bP0,zT27,simprocAttr]
 (refine(aA0 ?_).trans h;kernel_rfl)
theorem bad67 (x:Tb)(o:Dc)(t y:Tm)(p:List Int)(k:Nat)(hk:t.l[k]? = some y)(hl:(k:Int)<t.l.length)(D:D)(c:Int)(F:Am.D)(hc:¬ c=0)(r112:run prog ext (.call 112 [dV (dY0 p),iV k] [])=some (.ret [dV D] []))
  (r67:run prog ext (.call 67 [tbV x,dcV o,tmV y,dV D] [])=some (.ret [.agg [.d (.v (.int .i64 c)),.d F]] [])):H67a ext 0 (E67 p k) (O67 x o t)=some (.ret [.agg [.d (.v (.int .i64 c)),.d F]] []):=by
 have h0:(0:Int)≤k:=by omega
 unfold H67a
 simp only[tbV,tbC,tmV,tmC,dcV,dcC,dV,iV,E67,O67,bC0 hl]at r112 r67 ⊢
 (rw[rA2];simp only[B67,K67a,sub,f67,↓reduceIte,zG])
 simp only[zS,zD,zT24,zT39,zT33,zT45,zT31,aK0,aC0,aD0,Array.size,List.length,h0,hl,Int.toNat_natCast,hk,aH0 y,r112,r67,simprocAttr]
 rw[aB0 _ _ _ _ (by kernel_rfl)]
 simp only[zS,zD,zT45,zT27,hc,simprocAttr]
 (refine .trans ?_ rfl;kernel_rfl)
theorem done67 (x:Tb)(o:Dc)(t:Tm)(p:List Int):H67a ext 0 (E67 p t.l.length) (O67 x o t)=some (.ret [fltV 0 []] []):=by
 unfold H67a
 simp only[tmC,dV,iV,E67,O67,fltV,iT0]
 (rw[rA2];simp only[B67,K67a,sub,f67,↓reduceIte,zG])
 simp only[zS,zD,bD0,zT45,zT31,aI0,Int.lt_irrefl,simprocAttr]
 (refine .trans ?_ rfl;kernel_rfl)
def resF (p:List Int):Option (Int × List Int)→V
 | none=>fltV 0 []
 | some q=>fltV q.1 (p++q.2)
theorem pM0 (e:Tm→Int):∀ (N:Nat)(t:Tm),t.sz≤N→∀ q,firstE e t=some q→¬ q.1=0
 | 0,t,h,_,_=>by have:=t.sz_pos;omega
 | N+1,t,h,q,hq=>by
  rw[pL0]at hq
  by_cases c:e t=0
  ·rw[if_pos c]at hq
   have:∀ (l:List Tm) (k:Nat),(∀ y∈l,y∈t.l)→bH0 (kL0 e) k l=some q→¬ q.1=0:=by
    intro l
    induction l with
    | nil=>intro k _ h;cases h
    | cons y r ih=>
     intro k hm h
     simp only[bH0,kL0]at h
     cases hf:firstE e y with
     | none=>rw[hf]at h;exact ih (k+1) (fun z hz=>hm z (List.mem_cons_of_mem _ hz)) h
     | some q'=>
      rw[hf]at h
      simp only[Option.map_some,Option.some.injEq]at h
      subst h
      have h1:=Tm.sz_lt (hm y List.mem_cons_self)
      exact pM0 e N y (by omega) q' hf
   exact this t.l 0 (fun y hy=>hy) hq
  ·rw[if_neg c]at hq;cases hq
   exact c
theorem xK1 (e:Tm→Int)(hx:ext 67=none)(x:Tb)(o:Dc)(I:Tm→Prop)(hI:∀ t,I t→∀ y∈t.l,I y)(h181:ext 181=none)(h112:ext 112=none)
  (r111:∀ t:Tm,I t→run prog ext (.call 111 [tbV x,dcV o,tmV t] [])=some (.ret [iV (e t)] [])) :
  ∀ (N:Nat) (t:Tm),t.sz≤N→I t→∀ p:List Int,p.length+N<2^29→run prog ext (.call 67 [tbV x,dcV o,tmV t,dV (dY0 p)] [])=some (.ret [resF p (firstE e t)] [])
 | 0,t,h,_,_,_=>by have:=t.sz_pos;omega
 | N+1,t,h,hi,p,hp=>by
  have hll:=t.len_lt
  have h111:=r111 t hi
  rw[pL0]
  by_cases c:e t=0
  case neg=>
   rw[if_neg c]
   have:=out67 ext hx x o t p (e t) c h111
   rw[this]
   simp[resF]
  rw[if_pos c]
  rw[c]at h111
  refine qF2 ext hx x o t p h111 _ ?_
  have:=dK0 t.l (fun k=>H67a ext 0 (E67 p k) (O67 x o t)) (kL0 e) (fun q=>some (.ret [resF p (some q)] [])) (some (.ret [fltV 0 []] [])) (by omega) (fun k y hk hl=>by
    have r112:=kO1 ext h112 p k (by omega) (sT1 ext h181 p (by omega))
    have hr:=xK1 e hx x o I hI h181 h112 r111 N y (by have:=Tm.sz_lt (List.mem_of_getElem? hk);omega) (hI t hi y (List.mem_of_getElem? hk)) (p++[(k:Int)]) (by simp;omega)
    unfold kL0
    cases hf:firstE e y with
    | none=>
     rw[hf]at hr
     exact fun out ho=>step67 ext x o t y p k hk hl _ r112 hr out ho
    | some q=>
     rw[hf]at hr
     show _=some (Out.ret [resF p (some (q.1,(k:Int)::q.2))] [])
     have e3:resF (p++[(k:Int)]) (some q)=resF p (some (q.1,(k:Int)::q.2)):=by simp[resF]
     rw[e3]at hr
     exact bad67 ext x o t y p k hk hl _ q.1 (dY0 (p++((k:Int)::q.2))) (pM0 e y.sz y (Nat.le_refl _) q hf) r112 hr) (done67 ext x o t p)
  rw[this]
  cases bH0 (kL0 e) 0 t.l <;> rfl
end
end Go.Proofs.YteenjodhmppgjaaGreatDoor.Am
