/- A part of the proof of a card. No conditions. -/
import Derived.Test.YteenjodhmppgjaaGreatDoorPc1
set_option linter.all false
set_option maxHeartbeats 16000000
set_option maxRecDepth 10000
namespace Go.Proofs.YteenjodhmppgjaaGreatDoor.Am
open Go.Proofs.Tryz
section
open Go
variable (ext:Ext)
noncomputable def B246 : Code:=(f246.body.getD .skip)
noncomputable def nD2 : Code:=sub B246 [1,0,1,0,0]
theorem vZ1 : It.code nD2=It.code (sub B246 [1,0,1,0,0]):=rfl
noncomputable def bC2 : List It:=[.inBlock 0,.code (sub B246 [1,1])]
noncomputable def qZ1 (ext:Ext)(m:Nat)(env:Env)(loc:List O):Option Out:=run prog ext (.k ⟨19,m,[.tmp 4],false⟩ (.code nD2 :: .inLoop nD2::bC2) env loc)
noncomputable def B225 : Code:=(f225.body.getD .skip)
noncomputable def mS2 : Code:=sub B225 [1,0,1,0,0]
theorem vQ1 : It.code mS2=It.code (sub B225 [1,0,1,0,0]):=rfl
noncomputable def aT2 : List It:=[.inBlock 0,.code (sub B225 [1,1])]
noncomputable def qU1 (ext:Ext)(m:Nat)(env:Env)(loc:List O):Option Out:=run prog ext (.k ⟨19,m,[.tmp 4],false⟩ (.code mS2 :: .inLoop mS2::aT2) env loc)
noncomputable def B251 : Code:=(f251.body.getD .skip)
noncomputable def nG2 : Code:=sub B251 [1,0,1,0,0]
theorem wA1 : It.code nG2=It.code (sub B251 [1,0,1,0,0]):=rfl
noncomputable def bD2 : List It:=[.inBlock 0,.code (sub B251 [1,1])]
noncomputable def rA1 (ext:Ext)(m:Nat)(env:Env)(loc:List O):Option Out:=run prog ext (.k ⟨19,m,[.tmp 4],false⟩ (.code nG2 :: .inLoop nG2::bD2) env loc)
def conV (c:Con):V:= .agg (conC c)
def nY1 (z:Bool)(l:List Int)(n:Int)(k:Int):Env:=[(0,dV (aJ0 z 1 (l.map inD))),(1,.c (.fn 219 [] [0])),(7,iV (l).length),(8,iV k)]
theorem rQ2 (hx:ext 246=none)(z:Bool)(l:List Int)(n:Int)(hs:(l).length<2^50)(p:Int→Bool)(hr:∀ y∈l,run prog ext (.call 219 [iV y,.c (.ptr 0 0)] [O.box [.d (.v (.int .i64 n))]])=some (.ret [bV (p y)] [O.box [.d (.v (.int .i64 n))]])) :
  run prog ext (.call 246 [dV (aJ0 z 1 (l.map inD)),.c (.fn 219 [] [0])] [O.box [.d (.v (.int .i64 n))]])=some (.ret [iV (ixOf ((l).findIdx? p))] [O.box [.d (.v (.int .i64 n))]]):=by
 have he:∀ out,qZ1 ext 1 (nY1 z l n 0) [O.box [.d (.v (.int .i64 n))]]=out→run prog ext (.call 246 [dV (aJ0 z 1 (l.map inD)),.c (.fn 219 [] [0])] [O.box [.d (.v (.int .i64 n))]])=out:=by
  intro out h
  unfold qZ1 at h
  (rw[enT hx func246 rfl];simp only[f246,zR,simprocAttr,zE])
  simp only[dV,iV,nY1]at h ⊢
  simp only[zS,zD,dN0,simprocAttr]
  (refine(aA0 ?_).trans h;kernel_rfl)
 refine he _ ?_
 have:=bS0 (l) (fun k=>qZ1 ext 1 (nY1 z l n k) [O.box [.d (.v (.int .i64 n))]]) p (fun k=>some (.ret [iV k] [O.box [.d (.v (.int .i64 n))]])) (some (.ret [iV (-1)] [O.box [.d (.v (.int .i64 n))]])) (by omega) (fun k y hk hl=>by
   have h0:(0:Int)≤k:=by omega
   have hr:=hr y (List.mem_of_getElem? hk)
   have e:=aL0 (rec:=run prog ext) (look:=lk [O.box [.d (.v (.int .i64 n))]]) (slot:=1) (f:=219) (args:=[iV y,.c (.ptr 0 0)]) (ids:=[0]) (bor:=[]) (e:=⟨.val (bV (p y)),[(0,O.box [.d (.v (.int .i64 n))])],[0]⟩) (by kernel_rfl) hr (by kernel_rfl)
   unfold qZ1
   refine⟨fun hp=> ?_,fun hp out h=> ?_⟩
   ·rw[hp]at e
    simp only[dV,iV,bV,iV,nY1,show aJ0 z 1 (l.map inD) = .s 1 (l.map inD) from aM0 (b:=k) (by omega) (by simpa using hl)]at e ⊢
    (rw[vZ1];simp only[B246,bC2,sub,f246,↓reduceIte,zG])
    simp only[zS,zD,dN0,zT3,h0,hl,Int.toNat_natCast,hk,gP0,e,simprocAttr]
    (refine .trans ?_ rfl;kernel_rfl)
   ·rw[hp]at e
    simp only[dV,iV,bV,iV,nY1,show aJ0 z 1 (l.map inD) = .s 1 (l.map inD) from aM0 (b:=k) (by omega) (by simpa using hl)]at e h ⊢
    (rw[vZ1];simp only[B246,bC2,sub,f246,↓reduceIte,zG])
    simp only[zS,zD,dN0,zT3,h0,hl,Int.toNat_natCast,hk,gP0,e,simprocAttr]
    (refine(aA0 ?_).trans h;kernel_rfl)) (by
   unfold qZ1
   simp only[dV,iV,nY1]
   (rw[vZ1];simp only[B246,bC2,sub,f246,↓reduceIte,zG])
   simp only[zS,zD,Int.lt_irrefl,simprocAttr]
   (refine .trans ?_ rfl;kernel_rfl))
 rw[this]
 cases (l).findIdx? p <;> rfl
theorem oD2 (hx:ext 217=none)(z:Bool)(l:List Int)(n:Int)(j_:Int)(hr:run prog ext (.call 246 [dV (aJ0 z 1 (l.map inD)),.c (.fn 219 [] [0])] [O.box [.d (.v (.int .i64 n))]])=some (.ret [iV j_] [O.box [.d (.v (.int .i64 n))]])) :
  run prog ext (.call 217 [dV (aJ0 z 1 (l.map inD)),.c (.fn 219 [] [0])] [O.box [.d (.v (.int .i64 n))]])=some (.ret [bV (decide (0≤j_))] [O.box [.d (.v (.int .i64 n))]]):=by
 have e:=aL0 (rec:=run prog ext) (look:=lk [O.box [.d (.v (.int .i64 n))]]) (slot:=1) (f:=246) (args:=[dV (aJ0 z 1 (l.map inD)),.c (.fn 219 [] [0])]) (ids:=[0]) (bor:=[]) (e:=⟨.val (iV j_),[(0,O.box [.d (.v (.int .i64 n))])],[0]⟩) (by kernel_rfl) hr (by kernel_rfl)
 (rw[enT hx func217 rfl];simp only[f217,zR,simprocAttr,zE])
 simp only[dV,iV,bV]at e ⊢
 simp only[zS,zD,e,ge_iff_le,simprocAttr]
 (refine .trans ?_ rfl;kernel_rfl)
theorem rH2 (hC:ext 217=none)(hI:ext 246=none)(z:Bool)(l:List Int)(n:Int)(hs:(l).length<2^50)(p:Int→Bool)(hr:∀ y∈l,run prog ext (.call 219 [iV y,.c (.ptr 0 0)] [O.box [.d (.v (.int .i64 n))]])=some (.ret [bV (p y)] [O.box [.d (.v (.int .i64 n))]])) :
  run prog ext (.call 217 [dV (aJ0 z 1 (l.map inD)),.c (.fn 219 [] [0])] [O.box [.d (.v (.int .i64 n))]])=some (.ret [bV ((l).any p)] [O.box [.d (.v (.int .i64 n))]]):=by
 have:=oD2 ext hC z l n _ (rQ2 ext hI z l n hs p hr)
 rwa[← nV0]at this
def nX1 (d:Dc)(k:Int):Env:=[(0,dV (d.d)),(1,.c (.fn 162 [] [0])),(7,iV (d.cons).length),(8,iV k)]
theorem rP2 (hx:ext 225=none)(d:Dc)(hs:(d.cons).length<2^50)(p:Con→Bool)(hr:∀ y∈d.cons,run prog ext (.call 162 [conV y,.c (.ptr 0 0)] [O.box (dcC d)])=some (.ret [bV (p y)] [O.box (dcC d)])) :
  run prog ext (.call 225 [dV (d.d),.c (.fn 162 [] [0])] [O.box (dcC d)])=some (.ret [iV (ixOf ((d.cons).findIdx? p))] [O.box (dcC d)]):=by
 have he:∀ out,qU1 ext 1 (nX1 d 0) [O.box (dcC d)]=out→run prog ext (.call 225 [dV (d.d),.c (.fn 162 [] [0])] [O.box (dcC d)])=out:=by
  intro out h
  unfold qU1 at h
  (rw[enT hx func225 rfl];simp only[f225,zR,simprocAttr,zE])
  simp only[dV,iV,nX1]at h ⊢
  simp only[zS,zD,lO0,aS0,simprocAttr]
  (refine(aA0 ?_).trans h;kernel_rfl)
 refine he _ ?_
 have:=bS0 (d.cons) (fun k=>qU1 ext 1 (nX1 d k) [O.box (dcC d)]) p (fun k=>some (.ret [iV k] [O.box (dcC d)])) (some (.ret [iV (-1)] [O.box (dcC d)])) (by omega) (fun k y hk hl=>by
   have h0:(0:Int)≤k:=by omega
   have hr:=hr y (List.mem_of_getElem? hk)
   have e:=aL0 (rec:=run prog ext) (look:=lk [O.box (dcC d)]) (slot:=1) (f:=162) (args:=[conV y,.c (.ptr 0 0)]) (ids:=[0]) (bor:=[]) (e:=⟨.val (bV (p y)),[(0,O.box (dcC d))],[0]⟩) (by kernel_rfl) hr (by kernel_rfl)
   unfold qU1
   refine⟨fun hp=> ?_,fun hp out h=> ?_⟩
   ·rw[hp]at e
    simp only[dV,iV,bV,conV,conC,tmC,nX1,cZ0 hl]at e ⊢
    (rw[vQ1];simp only[B225,aT2,sub,f225,↓reduceIte,zG])
    simp only[zS,zD,lO0,zT98,h0,hl,Int.toNat_natCast,hk,dM0 y,e,simprocAttr]
    (refine .trans ?_ rfl;kernel_rfl)
   ·rw[hp]at e
    simp only[dV,iV,bV,conV,conC,tmC,nX1,cZ0 hl]at e h ⊢
    (rw[vQ1];simp only[B225,aT2,sub,f225,↓reduceIte,zG])
    simp only[zS,zD,lO0,zT98,h0,hl,Int.toNat_natCast,hk,dM0 y,e,simprocAttr]
    (refine(aA0 ?_).trans h;kernel_rfl)) (by
   unfold qU1
   simp only[dV,iV,nX1]
   (rw[vQ1];simp only[B225,aT2,sub,f225,↓reduceIte,zG])
   simp only[zS,zD,Int.lt_irrefl,simprocAttr]
   (refine .trans ?_ rfl;kernel_rfl))
 rw[this]
 cases (d.cons).findIdx? p <;> rfl
theorem oC2 (hx:ext 161=none)(d:Dc)(j_:Int)(hr:run prog ext (.call 225 [dV (d.d),.c (.fn 162 [] [0])] [O.box (dcC d)])=some (.ret [iV j_] [O.box (dcC d)])) :
  run prog ext (.call 161 [dV (d.d),.c (.fn 162 [] [0])] [O.box (dcC d)])=some (.ret [bV (decide (0≤j_))] [O.box (dcC d)]):=by
 have e:=aL0 (rec:=run prog ext) (look:=lk [O.box (dcC d)]) (slot:=1) (f:=225) (args:=[dV (d.d),.c (.fn 162 [] [0])]) (ids:=[0]) (bor:=[]) (e:=⟨.val (iV j_),[(0,O.box (dcC d))],[0]⟩) (by kernel_rfl) hr (by kernel_rfl)
 (rw[enT hx func161 rfl];simp only[f161,zR,simprocAttr,zE])
 simp only[dV,iV,bV]at e ⊢
 simp only[zS,zD,e,ge_iff_le,simprocAttr]
 (refine .trans ?_ rfl;kernel_rfl)
theorem rG2 (hC:ext 161=none)(hI:ext 225=none)(d:Dc)(hs:(d.cons).length<2^50)(p:Con→Bool)(hr:∀ y∈d.cons,run prog ext (.call 162 [conV y,.c (.ptr 0 0)] [O.box (dcC d)])=some (.ret [bV (p y)] [O.box (dcC d)])) :
  run prog ext (.call 161 [dV (d.d),.c (.fn 162 [] [0])] [O.box (dcC d)])=some (.ret [bV ((d.cons).any p)] [O.box (dcC d)]):=by
 have:=oC2 ext hC d _ (rP2 ext hI d hs p hr)
 rwa[← nV0]at this
def nZ1 (u:Lev)(n:Int)(k:Int):Env:=[(0,dV (u.d)),(1,.c (.fn 224 [] [0])),(7,iV (u.vs).length),(8,iV k)]
theorem rR2 (hx:ext 251=none)(u:Lev)(n:Int)(hs:(u.vs).length<2^50)(p:LV→Bool)(hr:∀ y∈u.vs,run prog ext (.call 224 [lvV y,.c (.ptr 0 0)] [O.box [.d (.v (.int .i64 n))]])=some (.ret [bV (p y)] [O.box [.d (.v (.int .i64 n))]])) :
  run prog ext (.call 251 [dV (u.d),.c (.fn 224 [] [0])] [O.box [.d (.v (.int .i64 n))]])=some (.ret [iV (ixOf ((u.vs).findIdx? p))] [O.box [.d (.v (.int .i64 n))]]):=by
 have he:∀ out,rA1 ext 1 (nZ1 u n 0) [O.box [.d (.v (.int .i64 n))]]=out→run prog ext (.call 251 [dV (u.d),.c (.fn 224 [] [0])] [O.box [.d (.v (.int .i64 n))]])=out:=by
  intro out h
  unfold rA1 at h
  (rw[enT hx func251 rfl];simp only[f251,zR,simprocAttr,zE])
  simp only[dV,iV,nZ1]at h ⊢
  simp only[zS,zD,dB0,gQ0,simprocAttr]
  (refine(aA0 ?_).trans h;kernel_rfl)
 refine he _ ?_
 have:=bS0 (u.vs) (fun k=>rA1 ext 1 (nZ1 u n k) [O.box [.d (.v (.int .i64 n))]]) p (fun k=>some (.ret [iV k] [O.box [.d (.v (.int .i64 n))]])) (some (.ret [iV (-1)] [O.box [.d (.v (.int .i64 n))]])) (by omega) (fun k y hk hl=>by
   have h0:(0:Int)≤k:=by omega
   have hr:=hr y (List.mem_of_getElem? hk)
   have e:=aL0 (rec:=run prog ext) (look:=lk [O.box [.d (.v (.int .i64 n))]]) (slot:=1) (f:=224) (args:=[lvV y,.c (.ptr 0 0)]) (ids:=[0]) (bor:=[]) (e:=⟨.val (bV (p y)),[(0,O.box [.d (.v (.int .i64 n))])],[0]⟩) (by kernel_rfl) hr (by kernel_rfl)
   unfold rA1
   refine⟨fun hp=> ?_,fun hp out h=> ?_⟩
   ·rw[hp]at e
    simp only[dV,iV,bV,lvV,lvC,nZ1,show u.d = .s 2 (u.vs.map lvD) from by unfold Lev.d;exact aM0 (b:=k) (by omega) (by simpa using hl)]at e ⊢
    (rw[wA1];simp only[B251,bD2,sub,f251,↓reduceIte,zG])
    simp only[zS,zD,dB0,cV0,h0,hl,Int.toNat_natCast,hk,lvD,e,simprocAttr]
    (refine .trans ?_ rfl;kernel_rfl)
   ·rw[hp]at e
    simp only[dV,iV,bV,lvV,lvC,nZ1,show u.d = .s 2 (u.vs.map lvD) from by unfold Lev.d;exact aM0 (b:=k) (by omega) (by simpa using hl)]at e h ⊢
    (rw[wA1];simp only[B251,bD2,sub,f251,↓reduceIte,zG])
    simp only[zS,zD,dB0,cV0,h0,hl,Int.toNat_natCast,hk,lvD,e,simprocAttr]
    (refine(aA0 ?_).trans h;kernel_rfl)) (by
   unfold rA1
   simp only[dV,iV,nZ1]
   (rw[wA1];simp only[B251,bD2,sub,f251,↓reduceIte,zG])
   simp only[zS,zD,Int.lt_irrefl,simprocAttr]
   (refine .trans ?_ rfl;kernel_rfl))
 rw[this]
 cases (u.vs).findIdx? p <;> rfl
theorem oE2 (hx:ext 223=none)(u:Lev)(n:Int)(j_:Int)(hr:run prog ext (.call 251 [dV (u.d),.c (.fn 224 [] [0])] [O.box [.d (.v (.int .i64 n))]])=some (.ret [iV j_] [O.box [.d (.v (.int .i64 n))]])) :
  run prog ext (.call 223 [dV (u.d),.c (.fn 224 [] [0])] [O.box [.d (.v (.int .i64 n))]])=some (.ret [bV (decide (0≤j_))] [O.box [.d (.v (.int .i64 n))]]):=by
 have e:=aL0 (rec:=run prog ext) (look:=lk [O.box [.d (.v (.int .i64 n))]]) (slot:=1) (f:=251) (args:=[dV (u.d),.c (.fn 224 [] [0])]) (ids:=[0]) (bor:=[]) (e:=⟨.val (iV j_),[(0,O.box [.d (.v (.int .i64 n))])],[0]⟩) (by kernel_rfl) hr (by kernel_rfl)
 (rw[enT hx func223 rfl];simp only[f223,zR,simprocAttr,zE])
 simp only[dV,iV,bV]at e ⊢
 simp only[zS,zD,e,ge_iff_le,simprocAttr]
 (refine .trans ?_ rfl;kernel_rfl)
theorem rI2 (hC:ext 223=none)(hI:ext 251=none)(u:Lev)(n:Int)(hs:(u.vs).length<2^50)(p:LV→Bool)(hr:∀ y∈u.vs,run prog ext (.call 224 [lvV y,.c (.ptr 0 0)] [O.box [.d (.v (.int .i64 n))]])=some (.ret [bV (p y)] [O.box [.d (.v (.int .i64 n))]])) :
  run prog ext (.call 223 [dV (u.d),.c (.fn 224 [] [0])] [O.box [.d (.v (.int .i64 n))]])=some (.ret [bV ((u.vs).any p)] [O.box [.d (.v (.int .i64 n))]]):=by
 have:=oE2 ext hC u n _ (rR2 ext hI u n hs p hr)
 rwa[← nV0]at this
def nW1 (d:Dc)(t:Tm)(k:Int):Env:=[(0,dV (t.lD)),(1,.c (.fn 183 [] [0])),(7,iV (t.l).length),(8,iV k)]
theorem rM2 (hx:ext 174=none)(d:Dc)(t:Tm)(hs:(t.l).length<2^50)(p:Tm→Bool)(hr:∀ y∈t.l,run prog ext (.call 183 [tmV y,.c (.ptr 0 0)] [O.box (dcC d)])=some (.ret [bV (p y)] [O.box (dcC d)])) :
  run prog ext (.call 174 [dV (t.lD),.c (.fn 183 [] [0])] [O.box (dcC d)])=some (.ret [iV (ixOf ((t.l).findIdx? p))] [O.box (dcC d)]):=by
 have he:∀ out,jL0 ext 1 (nW1 d t 0) [O.box (dcC d)]=out→run prog ext (.call 174 [dV (t.lD),.c (.fn 183 [] [0])] [O.box (dcC d)])=out:=by
  intro out h
  unfold jL0 at h
  (rw[enT hx func174 rfl];simp only[f174,zR,simprocAttr,zE])
  simp only[dV,iV,nW1]at h ⊢
  simp only[zS,zD,bL0,aI0,simprocAttr]
  (refine(aA0 ?_).trans h;kernel_rfl)
 refine he _ ?_
 have:=bS0 (t.l) (fun k=>jL0 ext 1 (nW1 d t k) [O.box (dcC d)]) p (fun k=>some (.ret [iV k] [O.box (dcC d)])) (some (.ret [iV (-1)] [O.box (dcC d)])) (by omega) (fun k y hk hl=>by
   have h0:(0:Int)≤k:=by omega
   have hr:=hr y (List.mem_of_getElem? hk)
   have e:=aL0 (rec:=run prog ext) (look:=lk [O.box (dcC d)]) (slot:=1) (f:=183) (args:=[tmV y,.c (.ptr 0 0)]) (ids:=[0]) (bor:=[]) (e:=⟨.val (bV (p y)),[(0,O.box (dcC d))],[0]⟩) (by kernel_rfl) hr (by kernel_rfl)
   unfold jL0
   refine⟨fun hp=> ?_,fun hp out h=> ?_⟩
   ·rw[hp]at e
    simp only[dV,iV,bV,tmV,tmC,nW1,bC0 hl]at e ⊢
    (rw[lL0];simp only[B174,qF0,sub,f174,↓reduceIte,zG])
    simp only[zS,zD,bL0,zT33,h0,hl,Int.toNat_natCast,hk,aH0 y,e,simprocAttr]
    (refine .trans ?_ rfl;kernel_rfl)
   ·rw[hp]at e
    simp only[dV,iV,bV,tmV,tmC,nW1,bC0 hl]at e h ⊢
    (rw[lL0];simp only[B174,qF0,sub,f174,↓reduceIte,zG])
    simp only[zS,zD,bL0,zT33,h0,hl,Int.toNat_natCast,hk,aH0 y,e,simprocAttr]
    (refine(aA0 ?_).trans h;kernel_rfl)) (by
   unfold jL0
   simp only[dV,iV,nW1]
   (rw[lL0];simp only[B174,qF0,sub,f174,↓reduceIte,zG])
   simp only[zS,zD,Int.lt_irrefl,simprocAttr]
   (refine .trans ?_ rfl;kernel_rfl))
 rw[this]
 cases (t.l).findIdx? p <;> rfl
theorem nZ2 (hx:ext 107=none)(d:Dc)(t:Tm)(j_:Int)(hr:run prog ext (.call 174 [dV (t.lD),.c (.fn 183 [] [0])] [O.box (dcC d)])=some (.ret [iV j_] [O.box (dcC d)])) :
  run prog ext (.call 107 [dV (t.lD),.c (.fn 183 [] [0])] [O.box (dcC d)])=some (.ret [bV (decide (0≤j_))] [O.box (dcC d)]):=by
 have e:=aL0 (rec:=run prog ext) (look:=lk [O.box (dcC d)]) (slot:=1) (f:=174) (args:=[dV (t.lD),.c (.fn 183 [] [0])]) (ids:=[0]) (bor:=[]) (e:=⟨.val (iV j_),[(0,O.box (dcC d))],[0]⟩) (by kernel_rfl) hr (by kernel_rfl)
 (rw[enT hx func107 rfl];simp only[f107,zR,simprocAttr,zE])
 simp only[dV,iV,bV]at e ⊢
 simp only[zS,zD,e,ge_iff_le,simprocAttr]
 (refine .trans ?_ rfl;kernel_rfl)
theorem rF2 (hC:ext 107=none)(hI:ext 174=none)(d:Dc)(t:Tm)(hs:(t.l).length<2^50)(p:Tm→Bool)(hr:∀ y∈t.l,run prog ext (.call 183 [tmV y,.c (.ptr 0 0)] [O.box (dcC d)])=some (.ret [bV (p y)] [O.box (dcC d)])) :
  run prog ext (.call 107 [dV (t.lD),.c (.fn 183 [] [0])] [O.box (dcC d)])=some (.ret [bV ((t.l).any p)] [O.box (dcC d)]):=by
 have:=nZ2 ext hC d t _ (rM2 ext hI d t hs p hr)
 rwa[← nV0]at this
theorem clo219 (hx:ext 219=none)(v n:Int):run prog ext (.call 219 [iV v,.c (.ptr 0 0)] [.box [.d (.v (.int .i64 n))]])=some (.ret [bV (decide (n≤v))] [.box [.d (.v (.int .i64 n))]]):=by
 (rw[enT hx func219 rfl];simp only[f219,zR,simprocAttr,zE])
 simp only[iV,bV]
 simp only[zS,zD,zT3,ge_iff_le,simprocAttr]
 (refine .trans ?_ rfl;kernel_rfl)
theorem clo224 (hx:ext 224=none)(y:LV)(n:Int):run prog ext (.call 224 [lvV y,.c (.ptr 0 0)] [.box [.d (.v (.int .i64 n))]])=some (.ret [bV (decide (n≤y.v))] [.box [.d (.v (.int .i64 n))]]):=by
 (rw[enT hx func224 rfl];simp only[f224,zR,simprocAttr,zE])
 simp only[bV,lvV,lvC]
 simp only[zS,zD,jD0,zT3,ge_iff_le,simprocAttr]
 (refine .trans ?_ rfl;kernel_rfl)
theorem clo183 (hx:ext 183=none)(d:Dc)(t:Tm)(b:Bool)(hr:run prog ext (.call 72 [sV d.name,tmV t] [])=some (.ret [bV b] [])):run prog ext (.call 183 [tmV t,.c (.ptr 0 0)] [.box (dcC d)])=some (.ret [bV b] [.box (dcC d)]):=by
 (rw[enT hx func183 rfl];simp only[f183,zR,simprocAttr,zE])
 simp only[tmV,tmC,dcC,sV,bV]at hr ⊢
 simp only[zS,zD,zT33,aE0,zT9,hr,simprocAttr]
 (refine .trans ?_ rfl;kernel_rfl)
theorem clo162 (hx:ext 162=none)(d:Dc)(c:Con)(b1 b2:Bool)(hn:run prog ext (.call 156 [sV c.name] [])=some (.ret [bV b1] []))(hf:run prog ext (.call 159 [tmV c.arg,iV 1,iV d.levels] [])=some (.ret [bV b2] [])) :
  run prog ext (.call 162 [conV c,.c (.ptr 0 0)] [.box (dcC d)])=some (.ret [bV (!b1 || !b2)] [.box (dcC d)]):=by
 cases b1
 all_goals
  (rw[enT hx func162 rfl];simp only[f162,zR,simprocAttr,zE])
  simp only[conV,conC,tmV,tmC,dcC,sV,iV,bV]at hn hf ⊢
  simp only[zS,zD,zT33,zT98,bG0,zT9,zT3,hn,hf,Bool.true_or,Bool.false_or,simprocAttr]
  (refine .trans ?_ rfl;kernel_rfl)
def hU0 (u:Lev)(n:Int):Bool:=cX0 u && !(u.vs.any fun y=>decide (n≤y.v))
theorem cJ2 (hx:ext 160=none)(u:Lev)(n:Int)(h221:run prog ext (.call 221 [levV u] [])=some (.ret [levV (iD0 u).1,iV (iD0 u).2] []))
  (h222:∀ (z z':Bool) (l m:List LV),l.length<2^50→run prog ext (.call 222 [dV (aJ0 z 2 (l.map lvD)),dV (aJ0 z' 2 (m.map lvD))] [])=some (.ret [bV (allR eqLV l m)] []))
  (h223:run prog ext (.call 223 [dV u.d,.c (.fn 224 [] [0])] [.box [.d (.v (.int .i64 n))]])=some (.ret [bV (u.vs.any fun y=>decide (n≤y.v))] [.box [.d (.v (.int .i64 n))]])) :
  run prog ext (.call 160 [levV u,iV n] [])=some (.ret [bV (hU0 u n)] []):=by
 have hln:=eW1 u
 unfold hU0 cX0
 generalize iD0 u=q at h221 hln ⊢
 have e:=fun o0 o2=>aL0 (rec:=run prog ext) (look:=lk [o0,.box [.d (.v (.int .i64 n))],o2]) (slot:=3) (f:=223) (args:=[dV u.d,.c (.fn 224 [] [1])]) (ids:=[1]) (bor:=[]) (e:=⟨.val (bV (u.vs.any fun y=>decide (n≤y.v))),[(1,.box [.d (.v (.int .i64 n))])],[1]⟩) (by kernel_rfl) h223 (by kernel_rfl)
 by_cases h1:q.2=0
 case neg=>
  rw[decide_eq_false h1,Bool.false_and,Bool.false_and]
  (rw[enT hx func160 rfl];simp only[f160,zR,simprocAttr,zE])
  simp only[levV,iV,bV,levC]at h221 ⊢
  simp only[zS,zD,zT36,h221,aG0,h1,simprocAttr]
  (refine .trans ?_ rfl;kernel_rfl)
 rw[decide_eq_true h1,Bool.true_and]
 rw[h1]at h221
 by_cases h2:q.1.c=u.c
 case neg=>
  rw[decide_eq_false h2,Bool.false_and,Bool.false_and]
  (rw[enT hx func160 rfl];simp only[f160,zR,simprocAttr,zE])
  simp only[levV,iV,bV,levC]at h221 ⊢
  simp only[zS,zD,zT36,zT3,h221,aG0,h2,simprocAttr]
  (refine .trans ?_ rfl;kernel_rfl)
 rw[decide_eq_true h2,Bool.true_and]
 have h3:=h222 q.1.z u.z q.1.vs u.vs (by omega)
 cases c3:allR eqLV q.1.vs u.vs with
 | false=>
  rw[c3]at h3
  rw[Bool.false_and]
  (rw[enT hx func160 rfl];simp only[f160,zR,simprocAttr,zE])
  simp only[levV,dV,iV,bV,levC,Lev.d]at h221 h3 ⊢
  simp only[zS,zD,zT36,zT34,zT3,h221,aG0,h2,h3,simprocAttr]
  (refine .trans ?_ rfl;kernel_rfl)
 | true=>
  rw[c3]at h3
  rw[Bool.true_and]
  (rw[enT hx func160 rfl];simp only[f160,zR,simprocAttr,zE])
  simp only[levV,dV,iV,bV,levC,Lev.d]at h221 h3 e ⊢
  simp only[zS,zD,cE0,zT36,zT34,zT3,h221,aG0,h2,h3,e,simprocAttr]
  (refine .trans ?_ rfl;kernel_rfl)
noncomputable def B167 : Code:=(f167.body.getD .skip)
noncomputable def mD2 : Code:=sub B167 [1,1,1,0,1,0,0]
theorem vJ1 : It.code mD2=It.code (sub B167 [1,1,1,0,1,0,0]):=rfl
noncomputable def aM2 : List It:=[.inBlock 0,.code (sub B167 [1,1,1,1])]
noncomputable def qR1 (ext:Ext)(m:Nat)(env:Env)(loc:List O):Option Out:=run prog ext (.k ⟨36,m,[.tmp 4],false⟩ (.code mD2 :: .inLoop mD2::aM2) env loc)
def E167 (n k:Int):Env:=[(1,iV n),(2,.c (.ptr 0 0)),(7,iV k)]
def O167 (u:Lev):List O:=[.box [.d (.v (.int .i64 u.c)),.d u.d]]
theorem cK2 (hx:ext 167=none)(u:Lev)(n:Int)(hs:u.vs.length<2^50)(h230:run prog ext (.call 230 [levV u] [])=some (.ret [levV (iE0 u).1,iV (iE0 u).2] []))
  (h43:run prog ext (.call 43 [levV u,levV (iE0 u).1] [])=some (.ret [bV (iP0 u (iE0 u).1)] [])):run prog ext (.call 167 [levV u,iV n] [])=some (.ret [bV (hU0 u n)] []):=by
 unfold hU0
 rw[xN0]
 generalize iE0 u=q at h230 h43 ⊢
 by_cases h1:q.2=0
 case neg=>
  rw[decide_eq_false h1,Bool.false_and,Bool.false_and]
  (rw[enT hx func167 rfl];simp only[f167,zR,simprocAttr,zE])
  simp only[levV,iV,bV,levC]at h230 ⊢
  simp only[zS,zD,zT36,h230,aG0,h1,simprocAttr]
  (refine .trans ?_ rfl;kernel_rfl)
 rw[decide_eq_true h1,Bool.true_and]
 rw[h1]at h230
 cases c:iP0 u q.1 with
 | false=>
  rw[c]at h43
  rw[Bool.false_and]
  (rw[enT hx func167 rfl];simp only[f167,zR,simprocAttr,zE])
  simp only[levV,iV,bV,levC]at h230 h43 ⊢
  simp only[zS,zD,zT36,h230,aG0,h43,simprocAttr]
  (refine .trans ?_ rfl;kernel_rfl)
 | true=>
 rw[c]at h43
 rw[Bool.true_and]
 have he:∀ out,qR1 ext 0 (E167 n 0) (O167 u)=out→run prog ext (.call 167 [levV u,iV n] [])=out:=by
  intro out h
  unfold qR1 at h
  (rw[enT hx func167 rfl];simp only[f167,zR,simprocAttr,zE])
  simp only[levV,iV,bV,levC,E167,O167]at h230 h43 h ⊢
  simp only[zS,zD,zT36,h230,aG0,h43,simprocAttr]
  (refine(aA0 ?_).trans h;kernel_rfl)
 refine he _ ?_
 have:=bS0 u.vs (fun k=>qR1 ext 0 (E167 n k) (O167 u)) (fun y=>decide (n≤y.v)) (fun _=>some (.ret [bV false] [])) (some (.ret [bV true] [])) (by omega) (fun k y hk hl=>by
   have h0:(0:Int)≤k:=by omega
   have hd:u.d = .s 2 (u.vs.map lvD):=by unfold Lev.d;exact aM0 (b:=k) (by omega) (by simpa using hl)
   unfold qR1
   refine⟨fun hp=> ?_,fun hp out h=> ?_⟩
   ·simp only[iV,bV,E167,O167,hd]
    (rw[vJ1];simp only[B167,aM2,sub,f167,↓reduceIte,zG])
    simp only[zS,zD,bF0,zT34,cV0,zT3,h0,hl,Int.toNat_natCast,hk,lvD,ge_iff_le,hp,simprocAttr]
    (refine .trans ?_ rfl;kernel_rfl)
   ·simp only[iV,E167,O167,hd]at h ⊢
    (rw[vJ1];simp only[B167,aM2,sub,f167,↓reduceIte,zG])
    simp only[zS,zD,bF0,zT34,cV0,zT3,h0,hl,Int.toNat_natCast,hk,lvD,ge_iff_le,hp,simprocAttr]
    (refine(aA0 ?_).trans h;kernel_rfl)) (by
   unfold qR1
   simp only[iV,E167,O167]
   (rw[vJ1];simp only[B167,aM2,sub,f167,↓reduceIte,zG])
   simp only[zS,zD,bF0,zT34,gQ0,Int.lt_irrefl,simprocAttr]
   (refine .trans ?_ rfl;kernel_rfl))
 rw[this,← List.findIdx?_isSome]
 cases u.vs.findIdx? (fun y=>decide (n≤y.v)) <;> rfl
end
end Go.Proofs.YteenjodhmppgjaaGreatDoor.Am
