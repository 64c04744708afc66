/- A part of the proof of a card. No conditions. -/
import Derived.Test.YteenjodhmppgjaaGreatDoorPd4
set_option linter.all false
set_option maxHeartbeats 16000000
set_option maxRecDepth 10000
namespace Go.Proofs.YteenjodhmppgjaaGreatDoor.Am
open Go.Proofs.Tryz
section
open Go
variable (ext:Ext)
noncomputable def B182 : Code:=(f182.body.getD .skip)
noncomputable def mI2 : Code:=sub B182 [1,1,0,1,0,0]
theorem xV0 : It.code mI2=It.code (sub B182 [1,1,0,1,0,0]):=rfl
noncomputable def gW1 : List It:=[.inBlock 0,.code (sub B182 [1,1,1])]
noncomputable def bX1 (ext:Ext)(m:Nat)(env:Env)(loc:List O):Option Out:=run prog ext (.k ⟨38,m,[.tmp 4],false⟩ (.code mI2 :: .inLoop mI2::gW1) env loc)
noncomputable def B231 : Code:=(f231.body.getD .skip)
noncomputable def mV2 : Code:=sub B231 [1,1,0,1,0,0]
theorem vT1 : It.code mV2=It.code (sub B231 [1,1,0,1,0,0]):=rfl
noncomputable def aW2 : List It:=[.inBlock 0,.code (sub B231 [1,1,1])]
noncomputable def yL0 (ext:Ext)(m:Nat)(env:Env)(loc:List O):Option Out:=run prog ext (.k ⟨46,m,[.tmp 4],false⟩ (.code mV2 :: .inLoop mV2::aW2) env loc)
noncomputable def mW2 : Code:=sub B231 [1,1,1,0,1,0,0]
theorem vU1 : It.code mW2=It.code (sub B231 [1,1,1,0,1,0,0]):=rfl
noncomputable def aX2 : List It:=[.inBlock 2,.code (sub B231 [1,1,1,1])]
noncomputable def yM0 (ext:Ext)(m:Nat)(env:Env)(loc:List O):Option Out:=run prog ext (.k ⟨46,m,[.tmp 4],false⟩ (.code mW2 :: .inLoop mW2::aX2) env loc)
noncomputable def B232 : Code:=(f232.body.getD .skip)
noncomputable def mX2 : Code:=sub B232 [1,1,0,1,0,0]
theorem vV1 : It.code mX2=It.code (sub B232 [1,1,0,1,0,0]):=rfl
noncomputable def aY2 : List It:=[.inBlock 0,.code (sub B232 [1,1,1])]
noncomputable def qX1 (ext:Ext)(m:Nat)(env:Env)(loc:List O):Option Out:=run prog ext (.k ⟨33,m,[.tmp 4],false⟩ (.code mX2 :: .inLoop mX2::aY2) env loc)
noncomputable def B252 : Code:=(f252.body.getD .skip)
noncomputable def nH2 : Code:=sub B252 [1,1,1,0,1,0,0]
theorem kD2 : It.code nH2=It.code (sub B252 [1,1,1,0,1,0,0]):=rfl
noncomputable def lM2 : List It:=[.inBlock 0,.code (sub B252 [1,1,1,1])]
noncomputable def rB1 (ext:Ext)(m:Nat)(env:Env)(loc:List O):Option Out:=run prog ext (.k ⟨36,m,[.tmp 4],false⟩ (.code nH2 :: .inLoop nH2::lM2) env loc)
def rM0 (k:Nat)(x:Lev):Bool:= !((x.c==0)&&allR eqLV x.vs [⟨(k:Int),0⟩])
def ownL (d:Dc)(l:List Lev):Bool:=((l.length:Int)==d.levels)&&(cD0 rM0 0 l).isNone
def E182 (z:Bool)(l:List Lev)(n k:Int):Env:=[(12,dV (aJ0 z 2 (l.map levD))),(13,iV n),(14,iV k)]
theorem vW2 (z:Bool)(l:List Lev)(u:Lev)(n:Int)(hn:(l.length:Int)=n)(k:Nat)(hk:l[k]? = some u)(hl:(k:Int)<l.length) :
  (rM0 k u=true→bX1 ext 0 (E182 z l n k) []=some (.ret [bV false] []))∧(rM0 k u=false→∀ out,bX1 ext 0 (E182 z l n (wr ((k:Int)+1))) []=out→bX1 ext 0 (E182 z l n k) []=out):=by
 have h0:(0:Int)≤k:=by omega
 have hln:(k:Int)<n:=by omega
 have hd:aJ0 z 2 (l.map levD) = .s 2 (l.map levD):=aM0 h0 (by simpa using hl)
 unfold rM0 bX1
 cases c1:(u.c==0) with
 | false=>
  have n1:(u.c != 0)=true:=by rw[bne,c1];rfl
  refine⟨fun _=> ?_,fun h=>by cases h⟩
  simp only[dV,iV,bV,E182,hd]
  (rw[xV0];simp only[B182,gW1,sub,f182,↓reduceIte,zG])
  simp only[zS,zD,eN0,zT36,zT3,h0,hl,hln,Int.toNat_natCast,hk,levD,n1,simprocAttr]
  (refine .trans ?_ rfl;kernel_rfl)
 | true=>
 have n1:(u.c != 0)=false:=by rw[bne,c1];rfl
 rw[Bool.true_and]
 obtain⟨uc,uv,uz⟩:=u
 match uv,hk,n1 with
 | [],hk,n1=>
  refine⟨fun _=> ?_,fun h=>by cases h⟩
  have hdd:(Lev.mk uc [] uz).d=aJ0 uz 2 []:=rfl
  have hz0:((((0:Nat):Int)) != 1)=true:=by decide
  simp only[dV,iV,bV,E182,hd]
  (rw[xV0];simp only[B182,gW1,sub,f182,↓reduceIte,zG])
  simp only[zS,zD,eN0,zT36,zT34,zT3,h0,hl,hln,Int.toNat_natCast,hk,levD,n1,hdd,hz0,simprocAttr]
  (refine .trans ?_ rfl;kernel_rfl)
 | a::b::r,hk,n1=>
  refine⟨fun _=> ?_,fun h=>by simp[allR]at h⟩
  have hdd:(Lev.mk uc (a::b::r) uz).d = .s 2 (lvD a::lvD b::r.map lvD):=dV0 (by simp)
  have hq:(((r.map lvD).length+1+1:Nat):Int)≠1:=by omega
  have hq2:((((r.map lvD).length+1+1:Nat):Int) != 1)=true:=by rw[bne_iff_ne];exact hq
  simp only[List.length_map]at hq2
  simp only[dV,iV,bV,E182,hd]
  (rw[xV0];simp only[B182,gW1,sub,f182,↓reduceIte,zG])
  simp only[zS,zD,eN0,zT36,zT34,zT3,h0,hl,hln,Int.toNat_natCast,hk,levD,n1,hdd,hq2,simprocAttr]
  (refine .trans ?_ rfl;kernel_rfl)
 | [a],hk,n1=>
  have hdd:(Lev.mk uc [a] uz).d = .s 2 [lvD a]:=dV0 (by simp)
  have hz1:(0:Int)<((1:Nat):Int):=by decide
  have hz2:((((1:Nat):Int)) != 1)=false:=by decide
  have hal:allR eqLV [a] [⟨(k:Int),0⟩]=((a.v==(k:Int))&&(a.p==0)):=by simp only[allR,eqLV,Bool.and_true]
  rw[hal]
  cases c3:((a.v==(k:Int))&&(a.p==0)) with
  | false=>
   refine⟨fun _=> ?_,fun h=>by cases h⟩
   simp only[dV,iV,bV,E182,hd]
   (rw[xV0];simp only[B182,gW1,sub,f182,↓reduceIte,zG])
   simp only[zS,zD,eN0,zT36,zT34,cV0,zT3,h0,hl,hln,Int.toNat_natCast,hk,levD,n1,hdd,hz1,hz2,Int.toNat_zero,lvD,kM0,c3,Int.le_refl,simprocAttr]
   (refine .trans ?_ rfl;kernel_rfl)
  | true=>
   refine⟨fun h=>(by cases h),fun _ out h=> ?_⟩
   simp only[dV,iV,E182,hd]at h ⊢
   (rw[xV0];simp only[B182,gW1,sub,f182,↓reduceIte,zG])
   simp only[zS,zD,eN0,zT36,zT34,cV0,zT3,h0,hl,hln,Int.toNat_natCast,hk,levD,n1,hdd,hz1,hz2,Int.toNat_zero,lvD,kM0,c3,Int.le_refl,simprocAttr]
   (refine(aA0 ?_).trans h;kernel_rfl)
theorem own182 (hx:ext 182=none)(d:Dc)(z:Bool)(l:List Lev)(hs:l.length<2^50):run prog ext (.call 182 [dcV d,dV (aJ0 z 2 (l.map levD))] [])=some (.ret [bV (ownL d l)] []):=by
 unfold ownL
 cases c:((l.length:Int)==d.levels) with
 | false=>
  have hn:((l.length:Int) != d.levels)=true:=by rw[bne,c];rfl
  rw[Bool.false_and]
  (rw[enT hx func182 rfl];simp only[f182,zR,simprocAttr,zE])
  simp only[dcV,dcC,dV,bV]
  simp only[zS,zD,eN0,bG0,zT3,hn,simprocAttr]
  (refine .trans ?_ rfl;kernel_rfl)
 | true=>
 have hn:((l.length:Int) != d.levels)=false:=by rw[bne,c];rfl
 have he:(l.length:Int)=d.levels:=beq_iff_eq.1 c
 rw[Bool.true_and]
 have hen:∀ out,bX1 ext 0 (E182 z l d.levels 0) []=out→run prog ext (.call 182 [dcV d,dV (aJ0 z 2 (l.map levD))] [])=out:=by
  intro out h
  unfold bX1 at h
  (rw[enT hx func182 rfl];simp only[f182,zR,simprocAttr,zE])
  simp only[dcV,dcC,dV,iV,E182]at h ⊢
  simp only[zS,zD,eN0,bG0,zT3,he,simprocAttr]
  (refine(aA0 ?_).trans h;kernel_rfl)
 refine hen _ ?_
 have:=dJ0 l (fun k=>bX1 ext 0 (E182 z l d.levels k) []) rM0 (fun _=>some (.ret [bV false] [])) (some (.ret [bV true] [])) (by omega) (fun k y hk hl=>vW2 ext z l y d.levels he k hk hl) (by
  unfold bX1
  simp only[dV,iV,bV,E182,he]
  (rw[xV0];simp only[B182,gW1,sub,f182,↓reduceIte,zG])
  simp only[zS,zD,Int.lt_irrefl,simprocAttr]
  (refine .trans ?_ rfl;kernel_rfl))
 rw[this]
 cases cD0 rM0 0 l <;> rfl
def wO0 (k:Int):Env:=[(2,.c (.ptr 0 0)),(3,.c (.ptr 1 0)),(5,iV k)]
def wP0 (k:Int):Env:=[(2,.c (.ptr 0 0)),(3,.c (.ptr 1 0)),(6,iV k)]
def O231 (d:Dc)(t:Tm):List O:=[.box (dcC d),.box (tmC t)]
theorem bs34 (look:Look)(slot:Nat)(a b:Int):aV0 prog look slot 34 1 [(0,.agg [.d (.v (.int .i64 a)),.d (.v (.int .i64 b))])]=some ⟨.val (.c (.own slot)),[(slot,.arr 2 [[.v (.int .i64 a),.v (.int .i64 b)]])],[]⟩:=bsLV
theorem dV2 (hx:ext 231=none)(d:Dc)(t:Tm)(hn:(t.u.length:Int)=d.levels)(out:Option Out)(h:yL0 ext 0 (wO0 0) (O231 d t)=out):run prog ext (.call 231 [dcV d,tmV t] [])=out:=by
 have hb:((t.u.length:Int) != d.levels)=false:=by rw[bne,hn];simp
 unfold yL0 at h
 (rw[enT hx func231 rfl];simp only[f231,zR,simprocAttr,zE])
 simp only[dcV,dcC,tmV,tmC,iV,wO0,O231]at h ⊢
 simp only[zS,zD,zT30,bG0,aT0,zT3,eM0,hb,simprocAttr]
 (refine(aA0 ?_).trans h;kernel_rfl)
theorem bad231 (hx:ext 231=none)(d:Dc)(t:Tm)(hn:((t.u.length:Int)==d.levels)=false):run prog ext (.call 231 [dcV d,tmV t] [])=some (.ret [bV false] []):=by
 have hb:((t.u.length:Int) != d.levels)=true:=by rw[bne,hn];rfl
 (rw[enT hx func231 rfl];simp only[f231,zR,simprocAttr,zE])
 simp only[dcV,dcC,tmV,tmC,bV]
 simp only[zS,zD,zT30,bG0,aT0,zT3,eM0,hb,simprocAttr]
 (refine .trans ?_ rfl;kernel_rfl)
theorem iE2 (d:Dc)(t:Tm)(u:Lev)(k:Nat)(hk:t.u[k]? = some u)(hl:(k:Int)<t.u.length)(r43:run prog ext (.call 43 [levV u,levV ⟨0,[⟨(k:Int),0⟩],false⟩] [])=some (.ret [bV (iP0 u ⟨0,[⟨(k:Int),0⟩],false⟩)] [])) :
  (rM0 k u=true→yL0 ext 0 (wO0 k) (O231 d t)=some (.ret [bV false] []))∧(rM0 k u=false→∀ out,yL0 ext 0 (wO0 (wr ((k:Int)+1))) (O231 d t)=out→yL0 ext 0 (wO0 k) (O231 d t)=out):=by
 have h0:(0:Int)≤k:=by omega
 have he:iP0 u ⟨0,[⟨(k:Int),0⟩],false⟩ = !rM0 k u:=by unfold rM0 iP0;rw[Bool.not_not]
 rw[he]at r43
 have e:=aL0 (rec:=run prog ext) (look:=lk [.box (dcC d),.box (tmC t),.arr 2 [[.v (.int .i64 k),.v (.int .i64 0)]]]) (slot:=3) (f:=43) (args:=[levV u,.agg [.d (.v (.int .i64 0)),.own 2]]) (ids:=[]) (bor:=[2]) (e:=⟨.val (bV (!rM0 k u)),[],[2]⟩) (by kernel_rfl) r43 (by kernel_rfl)
 unfold yL0
 refine⟨fun hp=> ?_,fun hp out h=> ?_⟩
 ·rw[hp]at e
  simp only[dcC,tmC,levV,levC,iV,bV,wO0,O231,bK1 hl,Bool.not_true]at e ⊢
  (rw[vT1];simp only[B231,aW2,sub,f231,↓reduceIte,zG])
  simp only[zS,zD,zT30,zT36,aT0,cV0,h0,hl,Int.toNat_natCast,hk,levD,bs34,e,simprocAttr]
  (refine .trans ?_ rfl;kernel_rfl)
 ·rw[hp]at e
  simp only[dcC,tmC,levV,levC,iV,bV,wO0,O231,bK1 hl,Bool.not_false]at e h ⊢
  (rw[vT1];simp only[B231,aW2,sub,f231,↓reduceIte,zG])
  simp only[zS,zD,zT30,zT36,aT0,cV0,h0,hl,Int.toNat_natCast,hk,levD,bs34,e,simprocAttr]
  (refine(aA0 ?_).trans h;kernel_rfl)
theorem mid231 (d:Dc)(t:Tm)(out:Option Out)(h:yM0 ext 0 (wP0 0) (O231 d t)=out):yL0 ext 0 (wO0 t.u.length) (O231 d t)=out:=by
 unfold yM0 at h
 unfold yL0
 simp only[dcC,tmC,iV,wO0,wP0,O231]at h ⊢
 (rw[vT1];simp only[B231,aW2,sub,f231,↓reduceIte,zG])
 simp only[zS,zD,zT30,aT0,eM0,Int.lt_irrefl,simprocAttr]
 (refine(aA0 ?_).trans h;kernel_rfl)
theorem iF2 (d:Dc)(t y:Tm)(b:Bool)(k:Nat)(hk:t.l[k]? = some y)(hl:(k:Int)<t.l.length)(r74:run prog ext (.call 74 [sV d.name,tmV y] [])=some (.ret [bV b] [])) :
  (b=true→yM0 ext 0 (wP0 k) (O231 d t)=some (.ret [bV false] []))∧(b=false→∀ out,yM0 ext 0 (wP0 (wr ((k:Int)+1))) (O231 d t)=out→yM0 ext 0 (wP0 k) (O231 d t)=out):=by
 have h0:(0:Int)≤k:=by omega
 unfold yM0
 refine⟨fun hp=> ?_,fun hp out h=> ?_⟩
 ·rw[hp]at r74
  simp only[dcC,tmC,tmV,sV,iV,bV,wP0,O231,bC0 hl]at r74 ⊢
  (rw[vU1];simp only[B231,aX2,sub,f231,↓reduceIte,zG])
  simp only[zS,zD,aE0,zT33,zT31,zT9,aK0,aC0,aD0,Array.size,List.length,h0,hl,Int.toNat_natCast,hk,aH0 y,r74,simprocAttr]
  rw[aB0 _ _ _ _ (by kernel_rfl)]
  simp only[zS,zD,simprocAttr]
  (refine .trans ?_ rfl;kernel_rfl)
 ·rw[hp]at r74
  simp only[dcC,tmC,tmV,sV,iV,bV,wP0,O231,bC0 hl]at r74 h ⊢
  (rw[vU1];simp only[B231,aX2,sub,f231,↓reduceIte,zG])
  simp only[zS,zD,aE0,zT33,zT31,zT9,aK0,aC0,aD0,Array.size,List.length,h0,hl,Int.toNat_natCast,hk,aH0 y,r74,simprocAttr]
  rw[aB0 _ _ _ _ (by kernel_rfl)]
  simp only[zS,zD,simprocAttr]
  (refine(aA0 ?_).trans h;kernel_rfl)
theorem dF2 (d:Dc)(t:Tm):yM0 ext 0 (wP0 t.l.length) (O231 d t)=some (.ret [bV true] []):=by
 unfold yM0
 simp only[dcC,tmC,iV,bV,wP0,O231]
 (rw[vU1];simp only[B231,aX2,sub,f231,↓reduceIte,zG])
 simp only[zS,zD,bD0,zT31,aI0,Int.lt_irrefl,simprocAttr]
 (refine .trans ?_ rfl;kernel_rfl)
theorem wM1 (hx:ext 231=none)(h74:ext 74=none)(h43:ext 43=none)(d:Dc)(t:Tm)(hs:t.sz<2^50):run prog ext (.call 231 [dcV d,tmV t] [])=some (.ret [bV (ownL d t.u && !t.l.any (occ d.name))] []):=by
 have hul:=t.ulen_lt
 have hll:=t.len_lt
 unfold ownL
 cases c:((t.u.length:Int)==d.levels) with
 | false=>rw[Bool.false_and,Bool.false_and];exact bad231 ext hx d t c
 | true=>
 rw[Bool.true_and]
 refine dV2 ext hx d t (beq_iff_eq.1 c) _ ?_
 have hb:=bS0 t.l (fun k=>yM0 ext 0 (wP0 k) (O231 d t)) (occ d.name) (fun _=>some (.ret [bV false] [])) (some (.ret [bV true] [])) (by omega) (fun k y hk hl=>iF2 ext d t y _ k hk hl (aJ1 ext h74 d.name y.sz y (Nat.le_refl _) (by have:=Tm.sz_lt (List.mem_of_getElem? hk);omega))) (dF2 ext d t)
 have:=dJ0 t.u (fun k=>yL0 ext 0 (wO0 k) (O231 d t)) rM0 (fun _=>some (.ret [bV false] [])) (some (.ret [bV (!t.l.any (occ d.name))] [])) (by omega) (fun k y hk hl=>iE2 ext d t y k hk hl (eq43 ext h43 y _ (by have:=Tm.lev_lt (List.mem_of_getElem? hk);unfold Lev.sz at this;omega))) (mid231 ext d t _ (by
  rw[hb,← List.findIdx?_isSome]
  cases t.l.findIdx? (occ d.name) <;> rfl))
 rw[this]
 cases cD0 rM0 0 t.u with
 | none=>rw[Option.isNone_none,Bool.true_and]
 | some k=>rfl
def bdR : Nat→Tm→Int→Bool
 | 0,_,_=>false
 | N+1,x,n=>((x.op==1)&&(x.n==n))||x.l.zipIdx.any fun p=>bdR N p.1 (wr (n+binds x.op x.l.length p.2))
theorem vI0 {α:Type} (p:Nat→α→Bool):∀ (l:List α)(k:Nat),(cD0 p k l).isSome=(l.zipIdx k).any fun q=>p q.2 q.1
 | [],_=>rfl
 | x::l,k=>by
  rw[cD0,List.zipIdx_cons,List.any_cons,← vI0 p l (k+1)]
  dsimp only
  cases p k x <;> simp
def E232 (n k:Int):Env:=[(1,iV n),(2,.c (.ptr 0 0)),(5,iV k)]
theorem kZ1 (hx:ext 232=none)(h205:ext 205=none):∀ (N:Nat)(x:Tm)(n:Int),x.sz≤N→N<2^50→run prog ext (.call 232 [tmV x,iV n] [])=some (.ret [bV (bdR N x n)] [])
 | 0,x,n,h,_=>by have:=x.sz_pos;omega
 | N+1,x,n,h,hN=>by
  have hll:=x.len_lt
  rw[bdR]
  cases c1:((x.op==1)&&(x.n==n)) with
  | true=>
   rw[Bool.true_or]
   rw[Bool.and_eq_true]at c1
   have a1:=c1.1
   have a2:=c1.2
   (rw[enT hx func232 rfl];simp only[f232,zR,simprocAttr,zE])
   simp only[tmV,tmC,iV,bV]
   simp only[zS,zD,zT33,zT3,a1,a2,simprocAttr]
   (refine .trans ?_ rfl;kernel_rfl)
  | false=>
  rw[Bool.false_or]
  have he:∀ out,qX1 ext 0 (E232 n 0) (O62 x)=out→run prog ext (.call 232 [tmV x,iV n] [])=out:=by
   intro out h
   unfold qX1 at h
   cases a1:(x.op==1) with
   | false=>
    (rw[enT hx func232 rfl];simp only[f232,zR,simprocAttr,zE])
    simp only[tmV,tmC,iV,E232,O62]at h ⊢
    simp only[zS,zD,bJ0,zT3,a1,simprocAttr]
    (refine(aA0 ?_).trans h;kernel_rfl)
   | true=>
    have a2:(x.n==n)=false:=by rw[a1,Bool.true_and]at c1;exact c1
    (rw[enT hx func232 rfl];simp only[f232,zR,simprocAttr,zE])
    simp only[tmV,tmC,iV,E232,O62]at h ⊢
    simp only[zS,zD,zT33,zT3,a1,a2,simprocAttr]
    (refine(aA0 ?_).trans h;kernel_rfl)
  refine he _ ?_
  have:=dJ0 x.l (fun k=>qX1 ext 0 (E232 n k) (O62 x)) (fun k y=>bdR N y (wr (n+binds x.op x.l.length k))) (fun _=>some (.ret [bV true] [])) (some (.ret [bV false] [])) (by omega) (fun k y hk hl=>by
    have h0:(0:Int)≤k:=by omega
    have hB:=kW1 ext h205 x k
    generalize binds x.op x.l.length k=bd at hB
    have hy:=kZ1 hx h205 N y (wr (n+bd)) (by have:=Tm.sz_lt (List.mem_of_getElem? hk);omega) (by omega)
    unfold qX1
    refine⟨fun hp=> ?_,fun hp out h=> ?_⟩
    ·rw[hp]at hy
     simp only[iV,bV,tmV,tmC,E232,O62,bC0 hl]at hy hB ⊢
     (rw[vV1];simp only[B232,aY2,sub,f232,↓reduceIte,zG])
     simp only[zS,zD,zT33,zT31,aK0,aC0,aD0,Array.size,List.length,h0,hl,Int.toNat_natCast,hk,aH0 y,hB,hy,simprocAttr]
     rw[aB0 _ _ _ _ (by kernel_rfl)]
     simp only[zS,zD,simprocAttr]
     (refine .trans ?_ rfl;kernel_rfl)
    ·rw[hp]at hy
     simp only[iV,bV,tmV,tmC,E232,O62,bC0 hl]at hy hB h ⊢
     (rw[vV1];simp only[B232,aY2,sub,f232,↓reduceIte,zG])
     simp only[zS,zD,zT33,zT31,aK0,aC0,aD0,Array.size,List.length,h0,hl,Int.toNat_natCast,hk,aH0 y,hB,hy,simprocAttr]
     rw[aB0 _ _ _ _ (by kernel_rfl)]
     simp only[zS,zD,simprocAttr]
     (refine(aA0 ?_).trans h;kernel_rfl)) (by
    unfold qX1
    simp only[iV,tmC,E232,O62]
    (rw[vV1];simp only[B232,aY2,sub,f232,↓reduceIte,zG])
    simp only[zS,zD,bD0,zT31,aI0,Int.lt_irrefl,simprocAttr]
    (refine .trans ?_ rfl;kernel_rfl))
  rw[this,← vI0 (fun k y=>bdR N y (wr (n+binds x.op x.l.length k))) x.l 0]
  cases cD0 (fun k y=>bdR N y (wr (n+binds x.op x.l.length k))) 0 x.l <;> rfl
def mxi (m b:Int):Int:=if b>m then b else m
def gA1 (x:Tm)(d:Int):Int:=if gK0 x=true then mxi 0 (wr (wr (x.n - d)+1)) else 0
def frR : Nat→Tm→Int→Int
 | 0,_,_=>0
 | N+1,x,d=>x.l.zipIdx.foldl (fun m p=>mxi m (frR N p.1 (wr (d+binds x.op x.l.length p.2)))) (gA1 x d)
def E252 (d n k:Int):Env:=[(1,iV d),(2,.c (.ptr 0 0)),(5,iV n),(6,iV k)]
theorem vB1 (hx:ext 252=none)(h202:ext 202=none)(h205:ext 205=none):∀ (N:Nat)(x:Tm)(d:Int),x.sz≤N→N<2^50→run prog ext (.call 252 [tmV x,iV d] [])=some (.ret [iV (frR N x d)] [])
 | 0,x,d,h,_=>by have:=x.sz_pos;omega
 | N+1,x,d,h,hN=>by
  have hll:=x.len_lt
  have hv:=var202 ext h202 x
  rw[frR]
  have he:∀ out,rB1 ext 0 (E252 d (gA1 x d) 0) (O62 x)=out→run prog ext (.call 252 [tmV x,iV d] [])=out:=by
   intro out h
   unfold rB1 at h
   unfold gA1 mxi at h
   cases c:gK0 x with
   | false=>
    rw[c]at hv h
    rw[if_neg (by decide)]at h
    (rw[enT hx func252 rfl];simp only[f252,zR,simprocAttr,zE])
    simp only[tmV,tmC,iV,bV,E252,O62]at hv h ⊢
    simp only[zS,zD,zT33,hv,simprocAttr]
    (refine(aA0 ?_).trans h;kernel_rfl)
   | true=>
    rw[c]at hv h
    rw[if_pos rfl]at h
    (rw[enT hx func252 rfl];simp only[f252,zR,simprocAttr,zE])
    simp only[tmV,tmC,iV,bV,E252,O62]at hv h ⊢
    simp only[zS,zD,zT33,zT3,hv,maxA,simprocAttr]
    (refine(aA0 ?_).trans h;kernel_rfl)
  refine he _ ?_
  refine sY0 x.l.length (fun k s=>rB1 ext 0 (E252 d s k) (O62 x)) (fun k=>(x.l.zipIdx.take k).foldl (fun m p=>mxi m (frR N p.1 (wr (d+binds x.op x.l.length p.2)))) (gA1 x d)) _ (by omega) (fun k hk out h=> ?_) ?_
  ·have hlt:k<x.l.length:=by omega
   have hg:x.l[k]? = some x.l[k]:=by simp[hlt]
   have hz:x.l.zipIdx[k]? = some (x.l[k],k):=by rw[List.getElem?_zipIdx,hg];simp
   rw[vG0 _ _ _ _ _ hz]at h
   have h0:(0:Int)≤k:=by omega
   have hB:=kW1 ext h205 x k
   dsimp only at h
   generalize binds x.op x.l.length k=bd at hB h
   have hy:=vB1 hx h202 h205 N x.l[k] (wr (d+bd)) (by have:=Tm.sz_lt (List.mem_of_getElem? hg);omega) (by omega)
   generalize frR N x.l[k] (wr (d+bd))=r at hy h
   generalize (x.l.zipIdx.take k).foldl (fun m p=>mxi m (frR N p.1 (wr (d+binds x.op x.l.length p.2)))) (gA1 x d)=m at h ⊢
   unfold mxi at h
   unfold rB1 at h ⊢
   generalize x.l[k]=y at hg hy
   simp only[iV,tmV,tmC,E252,O62,bC0 hk]at hy hB h ⊢
   (rw[kD2];simp only[B252,lM2,sub,f252,↓reduceIte,zG])
   simp only[zS,zD,zT33,zT31,aK0,aC0,aD0,Array.size,List.length,h0,hk,Int.toNat_natCast,hg,aH0 y,hB,hy,maxA,simprocAttr]
   rw[aB0 _ _ _ _ (by kernel_rfl)]
   simp only[zS,zD,simprocAttr]
   (refine(aA0 ?_).trans h;kernel_rfl)
  ·have e2:x.l.zipIdx.take x.l.length=x.l.zipIdx:=List.take_of_length_le (by rw[List.length_zipIdx];exact Nat.le_refl _)
   rw[e2]
   generalize x.l.zipIdx.foldl (fun m p=>mxi m (frR N p.1 (wr (d+binds x.op x.l.length p.2)))) (gA1 x d)=m
   unfold rB1
   simp only[iV,tmC,E252,O62]
   (rw[kD2];simp only[B252,lM2,sub,f252,↓reduceIte,zG])
   simp only[zS,zD,bD0,zT31,aI0,Int.lt_irrefl,simprocAttr]
   (refine .trans ?_ rfl;kernel_rfl)
theorem qN2 (hx:ext 228=none)(x:Tm)(r:Int)(hr:run prog ext (.call 252 [tmV x,iV 0] [])=some (.ret [iV r] [])):run prog ext (.call 228 [tmV x] [])=some (.ret [iV r] []):=by
 (rw[enT hx func228 rfl];simp only[f228,zR,simprocAttr,zE])
 simp only[tmV,tmC,iV]at hr ⊢
 simp only[zS,zD,zT33,hr,simprocAttr]
 (refine .trans ?_ rfl;kernel_rfl)
end
end Go.Proofs.YteenjodhmppgjaaGreatDoor.Am
