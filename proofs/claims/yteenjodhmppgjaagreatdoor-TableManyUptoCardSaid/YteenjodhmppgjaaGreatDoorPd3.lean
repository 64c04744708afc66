/- A part of the proof of a card. No conditions. -/
import Derived.Test.YteenjodhmppgjaaGreatDoorPd2
import Derived.Test.YteenjodhmppgjaaGreatDoorPa5
set_option linter.all false
set_option maxHeartbeats 16000000
set_option maxRecDepth 10000
namespace Go.Proofs.YteenjodhmppgjaaGreatDoor.Am
open Go.Proofs.Tryz
section
open Go
variable (ext:Ext)
noncomputable def B227 : Code:=(f227.body.getD .skip)
noncomputable def mT2 : Code:=sub B227 [1,1,0,1,0,0]
theorem vR1 : It.code mT2=It.code (sub B227 [1,1,0,1,0,0]):=rfl
noncomputable def aU2 : List It:=[.inBlock 0,.code (sub B227 [1,1,1])]
noncomputable def qV1 (ext:Ext)(m:Nat)(env:Env)(loc:List O):Option Out:=run prog ext (.k ⟨26,m,[.tmp 2],false⟩ (.code mT2 :: .inLoop mT2::aU2) env loc)
def lenZ {α:Type} (l:List α):Bool:=((l.length:Int)==0)
def hB0 (x:Tm):Bool:=(x.op==0)&&((x.n==0)&&((x.s.toList==(⟨#[]⟩:ByteArray).toList)&&(lenZ x.u&&lenZ x.l)))
theorem uD2 (hx:ext 158=none)(x:Tm):run prog ext (.call 158 [tmV x] [])=some (.ret [bV (hB0 x)] []):=by
 unfold hB0 lenZ
 cases c1:(x.op==0)
 ·rw[Bool.false_and]
  (rw[enT hx func158 rfl];simp only[f158,zR,simprocAttr,zE])
  simp only[tmV,tmC,bV]
  simp only[zS,zD,bJ0,zT3,c1,simprocAttr]
  (refine .trans ?_ rfl;kernel_rfl)
 rw[Bool.true_and]
 cases c2:(x.n==0)
 ·rw[Bool.false_and]
  (rw[enT hx func158 rfl];simp only[f158,zR,simprocAttr,zE])
  simp only[tmV,tmC,bV]
  simp only[zS,zD,zT33,zT3,c1,c2,simprocAttr]
  (refine .trans ?_ rfl;kernel_rfl)
 rw[Bool.true_and]
 cases c3:(x.s.toList==(⟨#[]⟩:ByteArray).toList)
 ·rw[Bool.false_and]
  (rw[enT hx func158 rfl];simp only[f158,zR,simprocAttr,zE])
  simp only[tmV,tmC,bV]
  simp only[zS,zD,zT33,zT9,zT3,c1,c2,c3,simprocAttr]
  (refine .trans ?_ rfl;kernel_rfl)
 rw[Bool.true_and]
 cases c4:((x.u.length:Int)==0)
 ·rw[Bool.false_and]
  (rw[enT hx func158 rfl];simp only[f158,zR,simprocAttr,zE])
  simp only[tmV,tmC,bV]
  simp only[zS,zD,zT33,zT30,zT9,zT3,c1,c2,c3,eM0,c4,simprocAttr]
  (refine .trans ?_ rfl;kernel_rfl)
 rw[Bool.true_and]
 (rw[enT hx func158 rfl];simp only[f158,zR,simprocAttr,zE])
 simp only[tmV,tmC,bV]
 simp only[zS,zD,zT33,zT31,zT30,zT9,zT3,c1,c2,c3,eM0,aI0,c4,simprocAttr]
 (refine .trans ?_ rfl;kernel_rfl)
theorem yP0 {α β:Type} (R:α→β→Bool)(l:List α):allR R l []=lenZ l:=by
 cases l with
 | nil=>rfl
 | cons a r=>
  have:lenZ (a::r)=false:=by unfold lenZ;rw[beq_eq_false_iff_ne];simp only[List.length_cons];omega
  rw[this];rfl
theorem eqTm_z (x:Tm):eqTm x zTm=hB0 x:=by
 rw[uC1]
 have h1:zTm.op=0:=rfl
 have h2:zTm.n=0:=rfl
 have h3:zTm.s=(⟨#[]⟩:ByteArray):=rfl
 have h4:zTm.u=[]:=rfl
 have h5:zTm.l=[]:=rfl
 rw[h1,h2,h3,h4,h5,yP0,yP0]
 rfl
theorem uE2 (hx:ext 165=none)(x:Tm)(r36:run prog ext (.call 36 [tmV x,tmV zTm] [])=some (.ret [bV (eqTm x zTm)] [])):run prog ext (.call 165 [tmV x] [])=some (.ret [bV (hB0 x)] []):=by
 rw[eqTm_z]at r36
 (rw[enT hx func165 rfl];simp only[f165,zR,simprocAttr,zE])
 simp only[tmV,xG0,bV]at r36 ⊢
 simp only[tmC]at r36 ⊢
 simp only[zS,zD,zT33,r36,simprocAttr]
 (refine .trans ?_ rfl;kernel_rfl)
def hN0 (u:Lev):Bool:=(u.c==0)&&lenZ u.vs
theorem aE2 (hx:ext 157=none)(u:Lev):run prog ext (.call 157 [levV u] [])=some (.ret [bV (hN0 u)] []):=by
 unfold hN0 lenZ
 cases c1:(u.c==0)
 ·rw[Bool.false_and]
  (rw[enT hx func157 rfl];simp only[f157,zR,simprocAttr,zE])
  simp only[levV,levC,bV]
  simp only[zS,zD,eK0,zT3,c1,simprocAttr]
  (refine .trans ?_ rfl;kernel_rfl)
 rw[Bool.true_and]
 (rw[enT hx func157 rfl];simp only[f157,zR,simprocAttr,zE])
 simp only[levV,levC,bV]
 simp only[zS,zD,zT36,zT34,zT3,c1,gQ0,simprocAttr]
 (refine .trans ?_ rfl;kernel_rfl)
def pJ1 (x:Tm):Bool:=(x.op==29)||(x.op==30)
def hasH : Tm→Bool
 | .mk op n s u zu l zl=>pJ1 (.mk op n s u zu l zl)||hasHs l
where hasHs:List Tm→Bool
 | []=>false
 | x::r=>hasH x||hasHs r
theorem eP2 (l:List Tm):hasH.hasHs l=l.any hasH:=by induction l <;> simp_all [hasH.hasHs]
theorem wE1 (x:Tm):hasH x=(pJ1 x||x.l.any hasH):=by cases x;simp only[hasH,eP2,Tm.l]
def E227 (k:Int):Env:=[(1,.c (.ptr 0 0)),(3,iV k)]
theorem nT1 (hx:ext 227=none):∀ (N:Nat)(x:Tm),x.sz≤N→N<2^50→run prog ext (.call 227 [tmV x] [])=some (.ret [bV (!hasH x)] [])
 | 0,x,h,_=>by have:=x.sz_pos;omega
 | N+1,x,h,hN=>by
  have hll:=x.len_lt
  rw[wE1]
  unfold pJ1
  cases c1:(x.op==29) with
  | true=>
   (rw[enT hx func227 rfl];simp only[f227,zR,simprocAttr,zE])
   simp only[tmV,tmC,bV]
   simp only[zS,zD,bJ0,zT3,c1,simprocAttr]
   (refine .trans ?_ rfl;kernel_rfl)
  | false=>
  cases c2:(x.op==30) with
  | true=>
   (rw[enT hx func227 rfl];simp only[f227,zR,simprocAttr,zE])
   simp only[tmV,tmC,bV]
   simp only[zS,zD,bJ0,zT3,c1,c2,simprocAttr]
   (refine .trans ?_ rfl;kernel_rfl)
  | false=>
  have he:∀ out,qV1 ext 0 (E227 0) (O62 x)=out→run prog ext (.call 227 [tmV x] [])=out:=by
   intro out h
   unfold qV1 at h
   (rw[enT hx func227 rfl];simp only[f227,zR,simprocAttr,zE])
   simp only[tmV,tmC,iV,E227,O62]at h ⊢
   simp only[zS,zD,bJ0,zT3,c1,c2,simprocAttr]
   (refine(aA0 ?_).trans h;kernel_rfl)
  refine he _ ?_
  have:=bS0 x.l (fun k=>qV1 ext 0 (E227 k) (O62 x)) hasH (fun _=>some (.ret [bV false] [])) (some (.ret [bV true] [])) (by omega) (fun k y hk hl=>by
    have h0:(0:Int)≤k:=by omega
    have hy:=nT1 hx N y (by have:=Tm.sz_lt (List.mem_of_getElem? hk);omega) (by omega)
    unfold qV1
    refine⟨fun hp=> ?_,fun hp out h=> ?_⟩
    ·rw[hp]at hy
     simp only[iV,bV,tmV,tmC,E227,O62,bC0 hl,Bool.not_true]at hy ⊢
     (rw[vR1];simp only[B227,aU2,sub,f227,↓reduceIte,zG])
     simp only[zS,zD,zT33,zT31,h0,hl,Int.toNat_natCast,hk,aH0 y,hy,simprocAttr]
     (refine .trans ?_ rfl;kernel_rfl)
    ·rw[hp]at hy
     simp only[iV,bV,tmV,tmC,E227,O62,bC0 hl,Bool.not_false]at hy h ⊢
     (rw[vR1];simp only[B227,aU2,sub,f227,↓reduceIte,zG])
     simp only[zS,zD,zT33,zT31,h0,hl,Int.toNat_natCast,hk,aH0 y,hy,simprocAttr]
     (refine(aA0 ?_).trans h;kernel_rfl)) (by
    unfold qV1
    simp only[iV,tmC,E227,O62]
    (rw[vR1];simp only[B227,aU2,sub,f227,↓reduceIte,zG])
    simp only[zS,zD,bD0,zT31,aI0,Int.lt_irrefl,simprocAttr]
    (refine .trans ?_ rfl;kernel_rfl))
  rw[this,Bool.false_or,Bool.false_or,← List.findIdx?_isSome]
  cases x.l.findIdx? hasH <;> rfl
theorem clo220 (hx:ext 220=none)(x:Tm):run prog ext (.call 220 [tmV x] [])=some (.ret [bV (pJ1 x)] []):=by
 unfold pJ1
 cases c1:(x.op==29)
 all_goals
  (rw[enT hx func220 rfl];simp only[f220,zR,simprocAttr,zE])
  simp only[tmV,tmC,bV]
  simp only[zS,zD,bJ0,zT3,c1,Bool.true_or,Bool.false_or,simprocAttr]
  (refine .trans ?_ rfl;kernel_rfl)
def P185 : List O:=[.box [.fn 220 [] []]]
theorem oW2 (hx:ext 185=none)(x:Tm)(b:Bool)(hr:run prog ext (.call 114 [tmV x,.c (.fn 220 [] [])] [])=some (.ret [bV b] [])) :
  run prog ext (.call 185 [tmV x,.c (.ptr 0 0)] P185)=some (.ret [bV b] P185):=by
 (rw[enT hx func185 rfl];simp only[f185,zR,simprocAttr,zE])
 simp only[tmV,tmC,bV,P185]at hr ⊢
 simp only[zS,zD,zT33,qL0,nN0,hr,simprocAttr]
 (refine .trans ?_ rfl;kernel_rfl)
def G174 (x:Tm)(k:Int):Env:=[(0,dV x.lD),(1,.c (.fn 185 [] [0])),(7,iV x.l.length),(8,iV k)]
theorem rO2 (hx:ext 174=none)(x:Tm)(hs:x.l.length<2^50)(p:Tm→Bool)(hr:∀ y∈x.l,run prog ext (.call 185 [tmV y,.c (.ptr 0 0)] P185)=some (.ret [bV (p y)] P185)) :
  run prog ext (.call 174 [dV x.lD,.c (.fn 185 [] [0])] P185)=some (.ret [iV (ixOf (x.l.findIdx? p))] P185):=by
 have he:∀ out,jL0 ext 1 (G174 x 0) P185=out→run prog ext (.call 174 [dV x.lD,.c (.fn 185 [] [0])] P185)=out:=by
  intro out h
  unfold jL0 at h
  (rw[enT hx func174 rfl];simp only[f174,zR,simprocAttr,zE])
  simp only[dV,iV,G174,P185]at h ⊢
  simp only[zS,zD,bL0,aI0,simprocAttr]
  (refine(aA0 ?_).trans h;kernel_rfl)
 refine he _ ?_
 have:=bS0 x.l (fun k=>jL0 ext 1 (G174 x k) P185) p (fun k=>some (.ret [iV k] P185)) (some (.ret [iV (-1)] P185)) (by omega) (fun k y hk hl=>by
   have h0:(0:Int)≤k:=by omega
   have hr:=hr y (List.mem_of_getElem? hk)
   have e:=aL0 (rec:=run prog ext) (look:=lk P185) (slot:=1) (f:=185) (args:=[tmV y,.c (.ptr 0 0)]) (ids:=[0]) (bor:=[]) (e:=⟨.val (bV (p y)),[(0,.box [.fn 220 [] []])],[0]⟩) (by kernel_rfl) hr (by kernel_rfl)
   unfold jL0
   refine⟨fun hp=> ?_,fun hp out h=> ?_⟩
   ·rw[hp]at e
    simp only[dV,iV,bV,tmV,tmC,G174,P185,bC0 hl]at e ⊢
    (rw[lL0];simp only[B174,qF0,sub,f174,↓reduceIte,zG])
    simp only[zS,zD,zT33,bL0,h0,hl,Int.toNat_natCast,hk,aH0 y,e,simprocAttr]
    (refine .trans ?_ rfl;kernel_rfl)
   ·rw[hp]at e
    simp only[dV,iV,bV,tmV,tmC,G174,P185,bC0 hl]at e h ⊢
    (rw[lL0];simp only[B174,qF0,sub,f174,↓reduceIte,zG])
    simp only[zS,zD,zT33,bL0,h0,hl,Int.toNat_natCast,hk,aH0 y,e,simprocAttr]
    (refine(aA0 ?_).trans h;kernel_rfl)) (by
   unfold jL0
   simp only[dV,iV,G174,P185]
   (rw[lL0];simp only[B174,qF0,sub,f174,↓reduceIte,zG])
   simp only[zS,zD,Int.lt_irrefl,simprocAttr]
   (refine .trans ?_ rfl;kernel_rfl))
 rw[this]
 cases x.l.findIdx? p <;> rfl
theorem oB2 (hx:ext 107=none)(x:Tm)(n:Int)(hr:run prog ext (.call 174 [dV x.lD,.c (.fn 185 [] [0])] P185)=some (.ret [iV n] P185)) :
  run prog ext (.call 107 [dV x.lD,.c (.fn 185 [] [0])] P185)=some (.ret [bV (decide (0≤n))] P185):=by
 have e:=aL0 (rec:=run prog ext) (look:=lk P185) (slot:=1) (f:=174) (args:=[dV x.lD,.c (.fn 185 [] [0])]) (ids:=[0]) (bor:=[]) (e:=⟨.val (iV n),[(0,.box [.fn 220 [] []])],[0]⟩) (by kernel_rfl) hr (by kernel_rfl)
 (rw[enT hx func107 rfl];simp only[f107,zR,simprocAttr,zE])
 simp only[dV,iV,bV,P185]at e ⊢
 simp only[zS,zD,e,ge_iff_le,simprocAttr]
 (refine .trans ?_ rfl;kernel_rfl)
theorem wD1 (hx:ext 114=none)(h220:ext 220=none)(h107:ext 107=none)(h174:ext 174=none)(h185:ext 185=none):∀ (N:Nat)(x:Tm),x.sz≤N→N<2^50 →
  run prog ext (.call 114 [tmV x,.c (.fn 220 [] [])] [])=some (.ret [bV (hasH x)] [])
 | 0,x,h,_=>by have:=x.sz_pos;omega
 | N+1,x,h,hN=>by
  have hll:=x.len_lt
  have h1:=clo220 ext h220 x
  have h2:=oB2 ext h107 x _ (rO2 ext h174 x (by omega) hasH (fun y hy=>oW2 ext h185 y _ (wD1 hx h220 h107 h174 h185 N y (by have:=Tm.sz_lt hy;omega) (by omega))))
  rw[← nV0]at h2
  have e2:=fun o0=>aL0 (rec:=run prog ext) (look:=lk [o0,.box [.fn 220 [] []]]) (slot:=2) (f:=107) (args:=[dV x.lD,.c (.fn 185 [] [1])]) (ids:=[1]) (bor:=[]) (e:=⟨.val (bV (x.l.any hasH)),[(1,.box [.fn 220 [] []])],[1]⟩) (by kernel_rfl) h2 (by kernel_rfl)
  rw[wE1]
  cases c:pJ1 x with
  | true=>
   rw[c]at h1
   (rw[enT hx func114 rfl];simp only[f114,zR,simprocAttr,zE])
   simp only[tmV,tmC,bV]at h1 ⊢
   simp only[zS,zD,zT33,qL0,nN0,h1,simprocAttr]
   (refine .trans ?_ rfl;kernel_rfl)
  | false=>
   rw[c]at h1
   (rw[enT hx func114 rfl];simp only[f114,zR,simprocAttr,zE])
   simp only[tmV,tmC,dV,bV]at h1 e2 ⊢
   simp only[zS,zD,cE0,zT33,zT31,qL0,nN0,h1,e2,simprocAttr]
   (refine .trans ?_ rfl;kernel_rfl)
end
section
open Go
variable (ext:Ext)
noncomputable def B244 : Code:=(f244.body.getD .skip)
noncomputable def nC2 : Code:=sub B244 [1,0,1,0,0]
theorem kC2 : It.code nC2=It.code (sub B244 [1,0,1,0,0]):=rfl
noncomputable def lL2 : List It:=[.inBlock 0,.code (sub B244 [1,1])]
noncomputable def cF1 (ext:Ext)(m:Nat)(env:Env)(loc:List O):Option Out:=run prog ext (.k ⟨31,m,[.tmp 2,.tmp 3],false⟩ (.code nC2 :: .inLoop nC2::lL2) env loc)
noncomputable def B146 : Code:=(f146.body.getD .skip)
noncomputable def mB2 : Code:=sub B146 [1,1,0,1,0,0]
theorem jY2 : It.code mB2=It.code (sub B146 [1,1,0,1,0,0]):=rfl
noncomputable def lH2 : List It:=[.inBlock 0,.code (sub B146 [1,1,1])]
noncomputable def bS1 (ext:Ext)(m:Nat)(env:Env)(loc:List O):Option Out:=run prog ext (.k ⟨34,m,[.tmp 2,.tmp 3],false⟩ (.code mB2 :: .inLoop mB2::lH2) env loc)
theorem sY0 {σ:Type} (n:Nat)(S:Int→σ→Option Out)(st:Nat→σ)(fin:Option Out)(hn:n<2^62)
  (hstep:∀ k:Nat,(k:Int)<n→∀ out,S (wr ((k:Int)+1)) (st (k+1))=out→S k (st k)=out) (hdone:S n (st n)=fin):S 0 (st 0)=fin:=by
 have key:∀ (m k:Nat),k+m=n→S k (st k)=fin:=by
  intro m
  induction m with
  | zero=>intro k hk;rw[show k=n by omega];exact hdone
  | succ m ih=>
   intro k hk
   refine hstep k (by omega) _ ?_
   rw[gL0 (by omega) (by omega)]
   have:=ih (k+1) (by omega)
   exact_mod_cast this
 simpa using key n 0 (by omega)
def mxN : List Nat→Nat
 | []=>0
 | a::r=>max a (mxN r)
theorem gE2 (l:List Nat)(a:Nat):mxN (l++[a])=max (mxN l) a:=by
 induction l with
 | nil=>simp[mxN]
 | cons b r ih=>simp only[List.cons_append,mxN,ih];omega
theorem mxN_le {l:List Nat}{n:Nat} (h:∀ a∈l,a≤n):mxN l≤n:=by
 induction l with
 | nil=>exact Nat.zero_le _
 | cons b r ih=>
  have:=h b List.mem_cons_self
  have:=ih fun a ha=>h a (List.mem_cons_of_mem _ ha)
  simp only[mxN];omega
def Tm.nd : Tm→Nat
 | .mk _ _ _ _ _ l _=>1+nds l
where nds:List Tm→Nat
 | []=>0
 | x::r=>x.nd+nds r
def Tm.dp : Tm→Nat
 | .mk _ _ _ _ _ l _=>1+dps l
where dps:List Tm→Nat
 | []=>0
 | x::r=>max x.dp (dps r)
theorem Tm.nds_eq (l:List Tm):Tm.nd.nds l=(l.map Tm.nd).sum:=by induction l <;> simp_all [Tm.nd.nds]
theorem Tm.nd_eq (x:Tm):x.nd=1+(x.l.map Tm.nd).sum:=by cases x;simp[Tm.nd,Tm.nds_eq,Tm.l]
theorem Tm.dps_eq (l:List Tm):Tm.dp.dps l=mxN (l.map Tm.dp):=by induction l <;> simp_all [Tm.dp.dps,mxN]
theorem Tm.dp_eq (x:Tm):x.dp=1+mxN (x.l.map Tm.dp):=by cases x;simp[Tm.dp,Tm.dps_eq,Tm.l]
theorem Tm.nd_le : ∀ (n:Nat)(x:Tm),x.sz≤n→x.nd≤x.sz
 | 0,x,h=>by have:=x.sz_pos;omega
 | n+1,x,h=>by
  have h1:=bG1 Tm.nd Tm.sz x.l (fun y hy=>Tm.nd_le n y (by have:=Tm.sz_lt hy;omega))
  rw[x.sz_eq,x.nd_eq];omega
theorem Tm.dp_le : ∀ (n:Nat)(x:Tm),x.sz≤n→x.dp≤x.sz
 | 0,x,h=>by have:=x.sz_pos;omega
 | n+1,x,h=>by
  have h1:mxN (x.l.map Tm.dp)≤(x.l.map Tm.sz).sum:=mxN_le fun a ha=>by
   obtain⟨y,hy,rfl⟩:=List.mem_map.1 ha
   have h1:=Tm.dp_le n y (by have:=Tm.sz_lt hy;omega)
   have h2:=vP0 (List.mem_map.2 ⟨y,hy,rfl⟩:y.sz∈x.l.map Tm.sz)
   omega
  rw[x.sz_eq,x.dp_eq];omega
theorem aF1 (x:Tm):x.nd≤x.sz:=Tm.nd_le x.sz x (Nat.le_refl _)
theorem lJ1 (x:Tm):x.dp≤x.sz:=Tm.dp_le x.sz x (Nat.le_refl _)
def E244 (x:Tm)(n d k:Int):Env:=[(2,iV n),(3,iV d),(9,dV x.lD),(10,iV x.l.length),(11,iV k)]
theorem dZ2 (hx:ext 244=none)(x:Tm)(out:Option Out)(h:cF1 ext 0 (E244 x 0 0 0) []=out):run prog ext (.call 244 [tmV x] [])=out:=by
 unfold cF1 at h
 (rw[enT hx func244 rfl];simp only[f244,zR,simprocAttr,zE])
 simp only[tmV,tmC,dV,iV,E244]at h ⊢
 simp only[zS,zD,bD0,zT31,aI0,simprocAttr]
 (refine(aA0 ?_).trans h;kernel_rfl)
theorem dI0 (slot:Nat)(a b:Int):aY0 [] [] slot (some (.ret [.c (.d (.v (.int .i64 a))),.c (.d (.v (.int .i64 b)))] []))=some ⟨.val (.tup [(false,[.d (.v (.int .i64 a))]),(false,[.d (.v (.int .i64 b))])]),[],[]⟩:=rfl
theorem wC2 (x y:Tm)(n d a b:Int)(k:Nat)(hk:x.l[k]? = some y)(hl:(k:Int)<x.l.length)(hr:run prog ext (.call 244 [tmV y] [])=some (.ret [iV a,iV b] []))(out:Option Out)
  (h:cF1 ext 0 (E244 x (wr (n+a)) (if b>d then b else d) (wr ((k:Int)+1))) []=out):cF1 ext 0 (E244 x n d k) []=out:=by
 have h0:(0:Int)≤k:=by omega
 unfold cF1 at h ⊢
 simp only[tmV,tmC,dV,iV,E244,bC0 hl]at h hr ⊢
 (rw[kC2];simp only[B244,lL2,sub,f244,↓reduceIte,zG])
 simp only[zS,zD,zT33,bL0,h0,hl,Int.toNat_natCast,hk,aH0 y,hr,dI0,maxA,simprocAttr]
 (refine(aA0 ?_).trans h;kernel_rfl)
theorem pW2 (x:Tm)(n d:Int):cF1 ext 0 (E244 x n d x.l.length) []=some (.ret [iV (wr (n+1)),iV (wr (d+1))] []):=by
 unfold cF1
 simp only[dV,iV,E244]
 (rw[kC2];simp only[B244,lL2,sub,f244,↓reduceIte,zG])
 simp only[zS,zD,Int.lt_irrefl,simprocAttr]
 (refine .trans ?_ rfl;kernel_rfl)
def stN (x:Tm)(k:Nat):Int × Int:=((((x.l.take k).map Tm.nd).sum:Nat),(mxN ((x.l.take k).map Tm.dp):Nat))
theorem nM1 (x y:Tm)(k:Nat)(hk:x.l[k]? = some y):stN x (k+1)=((stN x k).1+y.nd,if(y.dp:Int)>(stN x k).2 then(y.dp:Int) else(stN x k).2):=by
 unfold stN
 rw[List.take_succ,hk]
 simp only[Option.toList_some,List.map_append,List.map_cons,List.map_nil,List.sum_append,List.sum_cons,List.sum_nil,Nat.add_zero,gE2]
 ext
 ·simp
 ·dsimp only
  split <;> omega
theorem zQ1 (x:Tm):stN x x.l.length=(((x.nd:Int) - 1),((x.dp:Int) - 1)):=by
 unfold stN
 rw[List.take_length,x.nd_eq,x.dp_eq]
 ext <;> simp <;> omega
theorem nL1 (x:Tm)(k:Nat):0≤(stN x k).1∧(stN x k).1≤x.sz:=by
 have h:∀ (l:List Tm) (k:Nat),((l.take k).map Tm.nd).sum≤(l.map Tm.nd).sum:=by
  intro l k
  have:(l.map Tm.nd).sum=((l.take k).map Tm.nd).sum+((l.drop k).map Tm.nd).sum:=by rw[← List.sum_append,← List.map_append,List.take_append_drop]
  omega
 have h1:=h x.l k
 have h2:=aF1 x
 rw[x.nd_eq]at h2
 unfold stN
 dsimp only
 omega
theorem zJ1 (hx:ext 244=none):∀ (N:Nat)(x:Tm),x.sz≤N→N<2^50→run prog ext (.call 244 [tmV x] [])=some (.ret [iV x.nd,iV x.dp] [])
 | 0,x,h,_=>by have:=x.sz_pos;omega
 | N+1,x,h,hN=>by
  have hll:=x.len_lt
  have h1:=aF1 x
  have h2:=lJ1 x
  refine dZ2 ext hx x _ ?_
  refine sY0 x.l.length (fun k s=>cF1 ext 0 (E244 x s.1 s.2 k) []) (stN x) (some (.ret [iV x.nd,iV x.dp] [])) (by omega) (fun k hk out ho=> ?_) ?_
  ·have hlt:k<x.l.length:=by omega
   have hg:x.l[k]? = some x.l[k]:=by simp[hlt]
   have hle:=nL1 x k
   have hle2:=nL1 x (k+1)
   have hs:=nM1 x _ k hg
   have hr:=zJ1 hx N x.l[k] (by have:=Tm.sz_lt (List.getElem_mem hlt);omega) (by omega)
   refine wC2 ext x _ _ _ _ _ k hg hk hr out ?_
   rw[hs]at ho hle2
   rw[gL0 (by omega) (by omega)]
   exact ho
  ·rw[zQ1]
   have:=pW2 ext x ((x.nd:Int) - 1) ((x.dp:Int) - 1)
   dsimp only
   rw[this,gL0 (by omega) (by omega),gL0 (by omega) (by omega),Int.sub_add_cancel,Int.sub_add_cancel]
def E146 (n d k:Int):Env:=[(1,.c (.ptr 0 0)),(4,iV n),(5,iV d),(6,iV k)]
theorem dO2 (hx:ext 146=none)(x:Tm)(out:Option Out)(h:bS1 ext 0 (E146 1 0 0) (O62 x)=out):run prog ext (.call 146 [tmV x] [])=out:=by
 unfold bS1 at h
 (rw[enT hx func146 rfl];simp only[f146,zR,simprocAttr,zE])
 simp only[tmV,tmC,iV,E146,O62]at h ⊢
 simp only[zS,zD,simprocAttr]
 (refine(aA0 ?_).trans h;kernel_rfl)
theorem vR2 (x y:Tm)(n d a b:Int)(k:Nat)(hk:x.l[k]? = some y)(hl:(k:Int)<x.l.length)(hr:run prog ext (.call 146 [tmV y] [])=some (.ret [iV a,iV b] []))(out:Option Out)
  (h:bS1 ext 0 (E146 (wr (n+a)) (if b>d then b else d) (wr ((k:Int)+1))) (O62 x)=out):bS1 ext 0 (E146 n d k) (O62 x)=out:=by
 have h0:(0:Int)≤k:=by omega
 unfold bS1 at h ⊢
 simp only[tmV,tmC,iV,E146,O62,bC0 hl]at h hr ⊢
 (rw[jY2];simp only[B146,lH2,sub,f146,↓reduceIte,zG])
 simp only[zS,zD,zT33,zT31,h0,hl,Int.toNat_natCast,hk,aH0 y,hr,dI0,maxA,simprocAttr]
 (refine(aA0 ?_).trans h;kernel_rfl)
theorem pP2 (x:Tm)(n d:Int):bS1 ext 0 (E146 n d x.l.length) (O62 x)=some (.ret [iV n,iV (wr (d+1))] []):=by
 unfold bS1
 simp only[tmC,iV,E146,O62]
 (rw[jY2];simp only[B146,lH2,sub,f146,↓reduceIte,zG])
 simp only[zS,zD,bD0,zT31,aI0,Int.lt_irrefl,simprocAttr]
 (refine .trans ?_ rfl;kernel_rfl)
theorem zI1 (hx:ext 146=none):∀ (N:Nat)(x:Tm),x.sz≤N→N<2^50→run prog ext (.call 146 [tmV x] [])=some (.ret [iV x.nd,iV x.dp] [])
 | 0,x,h,_=>by have:=x.sz_pos;omega
 | N+1,x,h,hN=>by
  have hll:=x.len_lt
  have h1:=aF1 x
  have h2:=lJ1 x
  refine dO2 ext hx x _ ?_
  have:=sY0 x.l.length (fun k s=>bS1 ext 0 (E146 s.1 s.2 k) (O62 x)) (fun k=>((stN x k).1+1,(stN x k).2)) (some (.ret [iV x.nd,iV x.dp] [])) (by omega) (fun k hk out ho=>by
   have hlt:k<x.l.length:=by omega
   have hg:x.l[k]? = some x.l[k]:=by simp[hlt]
   have hle:=nL1 x k
   have hle2:=nL1 x (k+1)
   have hs:=nM1 x _ k hg
   have hr:=zI1 hx N x.l[k] (by have:=Tm.sz_lt (List.getElem_mem hlt);omega) (by omega)
   refine vR2 ext x _ _ _ _ _ k hg hk hr out ?_
   rw[hs]at ho hle2
   rw[gL0 (by omega) (by omega),show(stN x k).1+1+(x.l[k].nd:Int)=(stN x k).1+(x.l[k].nd:Int)+1 by omega]
   exact ho) (by
   dsimp only
   rw[zQ1]
   have:=pP2 ext x ((x.nd:Int) - 1+1) ((x.dp:Int) - 1)
   dsimp only
   rw[this,gL0 (by omega) (by omega),Int.sub_add_cancel,Int.sub_add_cancel])
  exact this
end
end Go.Proofs.YteenjodhmppgjaaGreatDoor.Am
