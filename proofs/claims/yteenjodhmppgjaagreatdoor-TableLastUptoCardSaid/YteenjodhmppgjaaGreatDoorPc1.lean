/- A part of the proof of a card. No conditions. -/
import Derived.Test.YteenjodhmppgjaaGreatDoorPb5
set_option linter.all false
set_option maxHeartbeats 16000000
set_option maxRecDepth 10000
namespace Go.Proofs.YteenjodhmppgjaaGreatDoor.Am
open Go.Proofs.Tryz
section
open Go
variable (ext:Ext)
noncomputable def B222 : Code:=(f222.body.getD .skip)
noncomputable def mR2 : Code:=sub B222 [1,1,0,1,0,0]
theorem vP1 : It.code mR2=It.code (sub B222 [1,1,0,1,0,0]):=rfl
noncomputable def aS2 : List It:=[.inBlock 0,.code (sub B222 [1,1,1])]
noncomputable def qT1 (ext:Ext)(m:Nat)(env:Env)(loc:List O):Option Out:=run prog ext (.k ⟨26,m,[.tmp 4],false⟩ (.code mR2 :: .inLoop mR2::aS2) env loc)
theorem hU1 (bor:List Nat)(slot:Nat)(cs:List C)(x:D)(b:Bool)(h:cs.all hH0=true)(hb:([V.agg cs,V.c (.d x)].all cS0)=b):aY0 [] bor slot (some (.ret [.agg cs,.c (.d x)] []))=some ⟨.val (.tup [(true,cs),(false,[.d x])]),if b=true then [] else bE0 bor,bor⟩:=by
 obtain⟨_,_,h3⟩:=eO0 (look:=fun _=>none) h
 subst hb
 simp only[aY0,bW0,mapO,renV,h3,renC,aZ0,comp,Nat.lt_irrefl,if_false,bQ0,List.nil_append,List.isEmpty_nil,Bool.and_true,zE]
def iD0 (x:Lev):Lev × Int:=if x.valid then eZ0 x.c (gU0 x.vs) false else(zLev,4)
def iE0 (x:Lev):Lev × Int:=if x.valid then sH0 (jB0 x.c x.vs) else(zLev,4)
theorem eX2 (x:Lev):(levC x).all hH0=true:=by simp[levC,hH0]
theorem uG2 (hx:ext 221=none)(hs:lR0 ext)(x:Lev)(h120:run prog ext (.call 120 [levV x] [])=some (.ret [bV x.valid] []))
  (h125:x.valid=true→run prog ext (.call 125 [iV x.c,dV (.s 2 ((gU0 x.vs).map lvD))] [])=some (.ret [levV (eZ0 x.c (gU0 x.vs) false).1,iV (eZ0 x.c (gU0 x.vs) false).2] [])) :
  run prog ext (.call 221 [levV x] [])=some (.ret [levV (iD0 x).1,iV (iD0 x).2] []):=by
 unfold iD0
 cases hv:x.valid with
 | false=>
  rw[hv]at h120
  rw[if_neg (by simp)]
  (rw[enT hx func221 rfl];simp only[f221,zR,simprocAttr,zE])
  simp only[levV,bV,iV,levC]at h120 ⊢
  simp only[zS,zD,zT36,h120,simprocAttr]
  (refine .trans ?_ rfl;kernel_rfl)
 | true=>
  rw[hv]at h120
  rw[if_pos rfl]
  have h125:=h125 hv
  have hl:x.vs.length≤8:=by
   have:=hv
   unfold Lev.valid at this
   simp only[Bool.and_eq_true,decide_eq_true_eq]at this
   exact this.1.2
  have hr:=hs x.z x.vs hl
  generalize hq:eZ0 x.c (gU0 x.vs) false=q at h125 ⊢
  cases hx2:x.vs with
  | nil=>
   rw[hx2]at hr h125
   have e0:(gU0 ([]:List LV)).map lvD=[]:=rfl
   rw[e0]at h125
   (rw[enT hx func221 rfl];simp only[f221,zR,simprocAttr,zE])
   simp only[levV,dV,iV,bV,levC,Lev.d,bC1,hx2,List.map_nil]at h120 hr h125 ⊢
   simp only[zS,zD,zT36,zT34,zT3,aK0,aC0,aD0,Array.size,List.length,h120,hr,h125,aG0,simprocAttr]
   rw[aB0 _ _ _ _ (by kernel_rfl)]
   simp only[zS]
   (refine .trans ?_ rfl;kernel_rfl)
  | cons a r=>
   rw[hx2]at hr h125
   cases hsc:([V.agg (levC q.1),V.c (.d (.v (.int .i64 q.2)))].all cS0)
   all_goals
    (rw[enT hx func221 rfl];simp only[f221,zR,simprocAttr,zE])
    have hc:=hU1 [6] 7 (levC q.1) (.v (.int .i64 q.2)) _ (eX2 q.1) hsc
    simp only[levV,dV,iV,bV,levC,Lev.d,bC1,hx2,List.map_cons]at h120 hr h125 hc ⊢
    simp only[zS,zD,zT36,zT34,zT3,aK0,aC0,aD0,Array.size,List.length,h120,hr,kU0,cF2,iC1,(id rfl:ownF 125=false),h125,hc,bE0,simprocAttr]
    rw[aB0 _ _ _ _ (by kernel_rfl)]
    simp only[zS]
    (refine .trans ?_ rfl;kernel_rfl)
theorem uH2 (hx:ext 230=none)(x:Lev)(h126:run prog ext (.call 126 [levV x] [])=some (.ret [bV x.valid] []))
  (h129:run prog ext (.call 129 [iV x.c,dV x.d] [])=some (.ret [levV (jB0 x.c x.vs)] []))
  (h128:run prog ext (.call 128 [levV (jB0 x.c x.vs)] [])=some (.ret [levV (sH0 (jB0 x.c x.vs)).1,iV (sH0 (jB0 x.c x.vs)).2] [])) :
  run prog ext (.call 230 [levV x] [])=some (.ret [levV (iE0 x).1,iV (iE0 x).2] []):=by
 unfold iE0
 generalize jB0 x.c x.vs=r at h129 h128 ⊢
 generalize sH0 r=q at h128 ⊢
 cases hv:x.valid with
 | false=>
  rw[hv]at h126
  rw[if_neg (by simp)]
  (rw[enT hx func230 rfl];simp only[f230,zR,simprocAttr,zE])
  simp only[levV,bV,iV,levC]at h126 ⊢
  simp only[zS,zD,zT36,h126,simprocAttr]
  (refine .trans ?_ rfl;kernel_rfl)
 | true=>
  rw[hv]at h126
  rw[if_pos rfl]
  have hc:=uY0 (slot:=2) (v:=levV r) rfl
  (rw[enT hx func230 rfl];simp only[f230,zR,simprocAttr,zE])
  simp only[levV,dV,iV,bV,levC]at h126 h129 h128 ⊢
  simp only[zS,zD,zT36,zT34,zT3,h126,h129,h128,aG0,simprocAttr]
  (refine .trans ?_ rfl;kernel_rfl)
def E222 (z z':Bool)(l m:List LV)(k:Int):Env:=[(0,dV (aJ0 z 2 (l.map lvD))),(1,dV (aJ0 z' 2 (m.map lvD))),(12,iV l.length),(13,iV k)]
theorem eqs222 (hx:ext 222=none)(z z':Bool)(l m:List LV)(hs:l.length<2^50):run prog ext (.call 222 [dV (aJ0 z 2 (l.map lvD)),dV (aJ0 z' 2 (m.map lvD))] [])=some (.ret [bV (allR eqLV l m)] []):=by
 by_cases h2:(l.length:Int)=m.length
 case neg=>
  have e:allR eqLV l m=false:=by
   cases hh:allR eqLV l m with
   | false=>rfl
   | true=>have:=pA0 hh;omega
  rw[e]
  (rw[enT hx func222 rfl];simp only[f222,zR,simprocAttr,zE])
  simp only[dV,bV]
  simp only[zS,zD,dB0,h2,simprocAttr]
  (refine .trans ?_ rfl;kernel_rfl)
 have he:∀ out,qT1 ext 0 (E222 z z' l m 0) []=out→run prog ext (.call 222 [dV (aJ0 z 2 (l.map lvD)),dV (aJ0 z' 2 (m.map lvD))] [])=out:=by
  intro out h
  unfold qT1 at h
  (rw[enT hx func222 rfl];simp only[f222,zR,simprocAttr,zE])
  simp only[dV,iV,E222,h2]at h ⊢
  simp only[zS,zD,dB0,h2,simprocAttr]
  (refine(aA0 ?_).trans h;kernel_rfl)
 refine he _ ?_
 have:=dJ0 l (fun k=>qT1 ext 0 (E222 z z' l m k) []) (mE0 eqLV m) (fun _=>some (.ret [bV false] [])) (some (.ret [bV true] [])) (by omega) (fun k a hk hl=>by
   have h0:(0:Int)≤k:=by omega
   have hl2:(k:Int)<m.length:=by omega
   have hlt:k<m.length:=by omega
   have hb:m[k]? = some m[k]:=by simp[hlt]
   generalize m[k]=b at hb
   have hd:aJ0 z 2 (l.map lvD) = .s 2 (l.map lvD):=aM0 h0 (by simpa using hl)
   have hd2:aJ0 z' 2 (m.map lvD) = .s 2 (m.map lvD):=aM0 h0 (by simpa using hl2)
   have hpp:mE0 eqLV m k a = !eqLV a b:=by unfold mE0;rw[hb]
   unfold qT1
   rw[hpp]
   refine⟨fun hp=> ?_,fun hp out h=> ?_⟩
   ·have hp':eqLV a b=false:=by simpa using hp
    unfold eqLV at hp'
    simp only[dV,iV,bV,E222,hd,hd2]
    (rw[vP1];simp only[B222,aS2,sub,f222,↓reduceIte,zG])
    simp only[zS,zD,dB0,cV0,aK0,aC0,aD0,Array.size,List.length,h0,hl,hl2,Int.toNat_natCast,hk,hb,lvD,kM0,hp',simprocAttr]
    rw[aB0 _ _ _ _ (by kernel_rfl)]
    simp only[zS,zD,simprocAttr]
    (refine .trans ?_ rfl;kernel_rfl)
   ·have hp':eqLV a b=true:=by simpa using hp
    unfold eqLV at hp'
    simp only[dV,iV,E222,hd,hd2]at h ⊢
    (rw[vP1];simp only[B222,aS2,sub,f222,↓reduceIte,zG])
    simp only[zS,zD,dB0,cV0,aK0,aC0,aD0,Array.size,List.length,h0,hl,hl2,Int.toNat_natCast,hk,hb,lvD,kM0,hp',simprocAttr]
    rw[aB0 _ _ _ _ (by kernel_rfl)]
    simp only[zS,zD,simprocAttr]
    (refine(aA0 ?_).trans h;kernel_rfl)) (by
   unfold qT1
   simp only[dV,iV,bV,E222]
   (rw[vP1];simp only[B222,aS2,sub,f222,↓reduceIte,zG])
   simp only[zS,zD,Int.lt_irrefl,simprocAttr]
   (refine .trans ?_ rfl;kernel_rfl))
 rw[this]
 exact pU0 eqLV l m (by omega)
end
section
open Go
variable (ext:Ext)
theorem yE1 (x:Lev):(iD0 x).2=(iE0 x).2∧((iD0 x).2=0→(iD0 x).1.c=(iE0 x).1.c∧(iD0 x).1.vs=(iE0 x).1.vs):=by
 unfold iD0 iE0
 cases hv:x.valid with
 | false=>exact⟨rfl,fun h=>by cases h⟩
 | true=>
  rw[if_pos rfl,if_pos rfl]
  obtain⟨c0,c1⟩:=wX2 hv
  have hok:=iT2 hv
  have hne:=iS2 hv
  have hl:x.vs.length≤8:=by
   have:=hv
   unfold Lev.valid at this
   simp only[Bool.and_eq_true,decide_eq_true_eq]at this
   exact this.1.2
  have hnn:NN x.vs:=fun y hy=>(hok y hy).2.1
  have hnns:NN (gU0 x.vs):=fun y hy=>hnn y ((wI0 x.vs y).1 hy)
  obtain⟨p1,p2,p3⟩:=yU1 x.vs [] List.Pairwise.nil (fun y hy=>by cases hy) hnn
  have hvs:x.vs.foldl putL []=gU0 x.vs:=by
   refine uniq p1 (zL1 hne) p2 hnns fun v=> ?_
   rw[p3 v,wY1 (v:=v) (l:=gU0 x.vs) (m:=x.vs) (fun y=>wI0 x.vs y)]
   have:lkp v [] = -1:=rfl
   rw[this]
   have:=rW0 v x.vs
   omega
  have hp:∀ y∈gU0 x.vs,y.p≤1000:=fun y hy=>(hok y ((wI0 x.vs y).1 hy)).2.2
  have hm:¬ sJ0 (gU0 x.vs)>1000:=by
   intro h
   have:(1001:Int)≤sJ0 (gU0 x.vs):=by omega
   rcases(sU0 1001 _).1 this with h | ⟨y,hy,h⟩
   ·omega
   ·have:=hp y hy;omega
  have hlen:¬ ((gU0 x.vs).length:Int)>8:=by rw[gN1];omega
  have hc:∀ m:Int,¬ (if x.c≤m then 0 else x.c)>1000:=by intro m;split <;> omega
  unfold eZ0 jB0
  rw[if_neg (by rintro(h | h | h);exact hc _ h;exact hm h;exact hlen h)]
  simp only[hvs,iE1 (gU0 x.vs) x.c hnns c0]
  unfold sH0
  rw[if_neg]
  ·exact⟨rfl,fun _=>⟨rfl,rfl⟩⟩
  ·rintro(h | h | h)
   ·exact hlen h
   ·exact hc _ h
   ·obtain⟨y,hy,h⟩:=List.any_eq_true.1 h
    have:=hp y hy
    simp only[decide_eq_true_eq]at h
    omega
def cX0 (x:Lev):Bool:=decide ((iD0 x).2=0)&&(decide ((iD0 x).1.c=x.c)&&allR eqLV (iD0 x).1.vs x.vs)
theorem wG1 (a b:Int):(a==b)=(b==a):=by rw[Bool.eq_iff_iff,beq_iff_eq,beq_iff_eq];exact eq_comm
theorem uB1 (a b:LV):eqLV a b=eqLV b a:=by unfold eqLV;rw[wG1 a.v,wG1 a.p]
theorem cI1 {α:Type}{R:α→α→Bool} (h:∀ a b,R a b=R b a):∀ (l m:List α),allR R l m=allR R m l
 | [],[]=>rfl
 | [],_::_=>rfl
 | _::_,[]=>rfl
 | a::l,b::m=>by simp only[allR,h a b,cI1 h l m]
theorem xN0 (x:Lev):cX0 x=(decide ((iE0 x).2=0)&&iP0 x (iE0 x).1):=by
 obtain⟨h1,h2⟩:=yE1 x
 unfold cX0 iP0
 rw[← h1]
 by_cases h:(iD0 x).2=0
 ·obtain⟨a,b⟩:=h2 h
  rw[← a,← b,cI1 uB1 x.vs]
  have:(x.c==(iD0 x).1.c)=decide ((iD0 x).1.c=x.c):=by rw[Bool.eq_iff_iff,beq_iff_eq,decide_eq_true_eq];exact eq_comm
  rw[this]
 ·simp[h]
theorem hV1 (c:Int)(l:List LV)(z:Bool):(eZ0 c l z).1.vs.length≤8:=by
 unfold eZ0
 by_cases h:(if c≤sJ0 l then 0 else c)>1000∨sJ0 l>1000∨(l.length:Int)>8
 ·rw[if_pos h];simp[zLev]
 ·rw[if_neg h]
  have:¬ (l.length:Int)>8:=fun e=>h (.inr (.inr e))
  show l.length≤8
  omega
theorem eW1 (x:Lev):(iD0 x).1.vs.length≤8:=by
 unfold iD0
 split
 ·exact hV1 _ _ _
 ·simp[zLev]
theorem cL2 (hx:ext 173=none)(x:Lev)(h221:run prog ext (.call 221 [levV x] [])=some (.ret [levV (iD0 x).1,iV (iD0 x).2] []))
  (h222:∀ (z z':Bool) (l m:List LV),l.length<2^50→run prog ext (.call 222 [dV (aJ0 z 2 (l.map lvD)),dV (aJ0 z' 2 (m.map lvD))] [])=some (.ret [bV (allR eqLV l m)] [])) :
  run prog ext (.call 173 [levV x] [])=some (.ret [bV (cX0 x)] []):=by
 have hln:=eW1 x
 unfold cX0
 generalize iD0 x=q at h221 hln ⊢
 by_cases h1:q.2=0
 case neg=>
  rw[decide_eq_false h1,Bool.false_and]
  (rw[enT hx func173 rfl];simp only[f173,zR,simprocAttr,zE])
  simp only[levV,iV,bV,levC]at h221 ⊢
  simp only[zS,zD,zT36,h221,aG0,h1,simprocAttr]
  (refine .trans ?_ rfl;kernel_rfl)
 rw[decide_eq_true h1,Bool.true_and]
 by_cases h2:q.1.c=x.c
 case neg=>
  rw[decide_eq_false h2,Bool.false_and]
  rw[h1]at h221
  (rw[enT hx func173 rfl];simp only[f173,zR,simprocAttr,zE])
  simp only[levV,iV,bV,levC]at h221 ⊢
  simp only[zS,zD,zT36,zT3,h221,aG0,h2,simprocAttr]
  (refine .trans ?_ rfl;kernel_rfl)
 rw[decide_eq_true h2,Bool.true_and]
 rw[h1]at h221
 have h3:=h222 q.1.z x.z q.1.vs x.vs (by omega)
 (rw[enT hx func173 rfl];simp only[f173,zR,simprocAttr,zE])
 simp only[levV,dV,iV,bV,levC,Lev.d]at h221 h3 ⊢
 simp only[zS,zD,zT36,zT34,zT3,h221,aG0,h2,h3,simprocAttr]
 (refine .trans ?_ rfl;kernel_rfl)
theorem cM2 (hx:ext 178=none)(x:Lev)(h230:run prog ext (.call 230 [levV x] [])=some (.ret [levV (iE0 x).1,iV (iE0 x).2] []))
  (h43:run prog ext (.call 43 [levV x,levV (iE0 x).1] [])=some (.ret [bV (iP0 x (iE0 x).1)] [])) :
  run prog ext (.call 178 [levV x] [])=some (.ret [bV (cX0 x)] []):=by
 rw[xN0]
 generalize iE0 x=q at h230 h43 ⊢
 by_cases h1:q.2=0
 case neg=>
  rw[decide_eq_false h1,Bool.false_and]
  (rw[enT hx func178 rfl];simp only[f178,zR,simprocAttr,zE])
  simp only[levV,iV,bV,levC]at h230 ⊢
  simp only[zS,zD,zT36,h230,aG0,h1,simprocAttr]
  (refine .trans ?_ rfl;kernel_rfl)
 rw[decide_eq_true h1,Bool.true_and]
 rw[h1]at h230
 (rw[enT hx func178 rfl];simp only[f178,zR,simprocAttr,zE])
 simp only[levV,iV,bV,levC]at h230 h43 ⊢
 simp only[zS,zD,zT36,h230,aG0,h43,simprocAttr]
 (refine .trans ?_ rfl;kernel_rfl)
end
section
open Go
variable (ext:Ext)
noncomputable def B233 : Code:=(f233.body.getD .skip)
noncomputable def mY2 : Code:=sub B233 [1,0,1,0,0]
theorem vW1 : It.code mY2=It.code (sub B233 [1,0,1,0,0]):=rfl
noncomputable def aZ2 : List It:=[.inBlock 0,.code (sub B233 [1,1])]
noncomputable def qY1 (ext:Ext)(m:Nat)(env:Env)(loc:List O):Option Out:=run prog ext (.k ⟨19,m,[.tmp 4],false⟩ (.code mY2 :: .inLoop mY2::aZ2) env loc)
theorem clo172 (hx:ext 172=none)(x:Lev)(b:Bool)(hr:run prog ext (.call 173 [levV x] [])=some (.ret [bV b] [])):run prog ext (.call 172 [levV x] [])=some (.ret [bV (!b)] []):=by
 (rw[enT hx func172 rfl];simp only[f172,zR,simprocAttr,zE])
 simp only[levV,levC,bV]at hr ⊢
 simp only[zS,zD,zT36,hr,simprocAttr]
 (refine .trans ?_ rfl;kernel_rfl)
def E233 (z:Bool)(l:List Lev)(k:Int):Env:=[(0,dV (aJ0 z 2 (l.map levD))),(1,.c (.fn 172 [] [])),(7,iV l.length),(8,iV k)]
theorem idx233 (hx:ext 233=none)(z:Bool)(l:List Lev)(hs:l.length<2^50)(p:Lev→Bool)(hr:∀ y∈l,run prog ext (.call 172 [levV y] [])=some (.ret [bV (p y)] [])) :
  run prog ext (.call 233 [dV (aJ0 z 2 (l.map levD)),.c (.fn 172 [] [])] [])=some (.ret [iV (ixOf (l.findIdx? p))] []):=by
 have he:∀ out,qY1 ext 0 (E233 z l 0) []=out→run prog ext (.call 233 [dV (aJ0 z 2 (l.map levD)),.c (.fn 172 [] [])] [])=out:=by
  intro out h
  unfold qY1 at h
  (rw[enT hx func233 rfl];simp only[f233,zR,simprocAttr,zE])
  simp only[dV,iV,E233]at h ⊢
  simp only[zS,zD,eN0,simprocAttr]
  (refine(aA0 ?_).trans h;kernel_rfl)
 refine he _ ?_
 have:=bS0 l (fun k=>qY1 ext 0 (E233 z l k) []) p (fun k=>some (.ret [iV k] [])) (some (.ret [iV (-1)] [])) (by omega) (fun k y hk hl=>by
   have h0:(0:Int)≤k:=by omega
   have hy:=hr y (List.mem_of_getElem? hk)
   have hd:aJ0 z 2 (l.map levD) = .s 2 (l.map levD):=aM0 h0 (by simpa using hl)
   unfold qY1
   refine⟨fun hp=> ?_,fun hp out h=> ?_⟩
   ·rw[hp]at hy
    simp only[dV,iV,bV,levV,levC,E233,hd]at hy ⊢
    (rw[vW1];simp only[B233,aZ2,sub,f233,↓reduceIte,zG])
    simp only[zS,zD,zT36,eN0,h0,hl,Int.toNat_natCast,hk,iR0 y,hy,simprocAttr]
    (refine .trans ?_ rfl;kernel_rfl)
   ·rw[hp]at hy
    simp only[dV,iV,bV,levV,levC,E233,hd]at hy h ⊢
    (rw[vW1];simp only[B233,aZ2,sub,f233,↓reduceIte,zG])
    simp only[zS,zD,zT36,eN0,h0,hl,Int.toNat_natCast,hk,iR0 y,hy,simprocAttr]
    (refine(aA0 ?_).trans h;kernel_rfl)) (by
   unfold qY1
   simp only[dV,iV,E233]
   (rw[vW1];simp only[B233,aZ2,sub,f233,↓reduceIte,zG])
   simp only[zS,zD,Int.lt_irrefl,simprocAttr]
   (refine .trans ?_ rfl;kernel_rfl))
 rw[this]
 cases l.findIdx? p <;> rfl
theorem any171 (hx:ext 171=none)(z:Bool)(l:List Lev)(n:Int)(hr:run prog ext (.call 233 [dV (aJ0 z 2 (l.map levD)),.c (.fn 172 [] [])] [])=some (.ret [iV n] [])) :
  run prog ext (.call 171 [dV (aJ0 z 2 (l.map levD)),.c (.fn 172 [] [])] [])=some (.ret [bV (decide (0≤n))] []):=by
 (rw[enT hx func171 rfl];simp only[f171,zR,simprocAttr,zE])
 simp only[dV,iV,bV]at hr ⊢
 simp only[zS,zD,hr,ge_iff_le,simprocAttr]
 (refine .trans ?_ rfl;kernel_rfl)
theorem all171 (hx:ext 171=none)(h233:ext 233=none)(h172:ext 172=none)(z:Bool)(l:List Lev)(hs:l.length<2^50)(hr:∀ y∈l,run prog ext (.call 173 [levV y] [])=some (.ret [bV (cX0 y)] [])) :
  run prog ext (.call 171 [dV (aJ0 z 2 (l.map levD)),.c (.fn 172 [] [])] [])=some (.ret [bV (l.any fun y=> !cX0 y)] []):=by
 have:=any171 ext hx z l _ (idx233 ext h233 z l hs (fun y=> !cX0 y) (fun y hy=>clo172 ext h172 y _ (hr y hy)))
 rwa[← nV0]at this
end
section
open Go
variable (ext:Ext)
noncomputable def B170 : Code:=(f170.body.getD .skip)
noncomputable def mE2 : Code:=sub B170 [1,0,1,0,0]
theorem vK1 : It.code mE2=It.code (sub B170 [1,0,1,0,0]):=rfl
noncomputable def aN2 : List It:=[.inBlock 0,.code (sub B170 [1,1])]
noncomputable def bU1 (ext:Ext)(m:Nat)(env:Env)(loc:List O):Option Out:=run prog ext (.k ⟨60,m,[.tmp 2],false⟩ (.code mE2 :: .inLoop mE2::aN2) env loc)
noncomputable def B179 : Code:=(f179.body.getD .skip)
noncomputable def mG2 : Code:=sub B179 [1,1,0,1,0,0]
theorem vL1 : It.code mG2=It.code (sub B179 [1,1,0,1,0,0]):=rfl
noncomputable def aO2 : List It:=[.inBlock 0,.code (sub B179 [1,1,1])]
noncomputable def bV1 (ext:Ext)(m:Nat)(env:Env)(loc:List O):Option Out:=run prog ext (.k ⟨62,m,[.tmp 2],false⟩ (.code mG2 :: .inLoop mG2::aO2) env loc)
noncomputable def B164 : Code:=(f164.body.getD .skip)
noncomputable def mC2 : Code:=sub B164 [1,1,0,1,0,0]
theorem vI1 : It.code mC2=It.code (sub B164 [1,1,0,1,0,0]):=rfl
noncomputable def aL2 : List It:=[.inBlock 0,.code (sub B164 [1,1,1])]
noncomputable def bT1 (ext:Ext)(m:Nat)(env:Env)(loc:List O):Option Out:=run prog ext (.k ⟨59,m,[.tmp 2],false⟩ (.code mC2 :: .inLoop mC2::aL2) env loc)
def eI0 (s:ByteArray):List UInt8:=s.data.toList
theorem dH0 (s:ByteArray):(eI0 s).length=s.size:=Array.length_toList
theorem nC0 (s:ByteArray)(k:Nat):s[k]? = (eI0 s)[k]? := by
 unfold eI0
 by_cases h:k<s.size
 ·have h1:s[k]? = some s[k]:=by simp[h]
  have h2:s.data.toList[k]? = some s.data[k]:=by
   rw[Array.getElem?_toList,Array.getElem?_eq_getElem]
  rw[h1,h2];rfl
 ·have h1:s[k]? = none:=getElem?_neg s k h
  have h2:s.data.toList[k]? = none:=by
   rw[Array.getElem?_toList,Array.getElem?_eq_none];exact Nat.le_of_not_lt h
  rw[h1,h2]
def gF0 (c:Int):Bool:=(decide (97≤c)&&decide (c≤122))||((decide (65≤c)&&decide (c≤90))||(c==95))
def lG0 (c:Int):Bool:=(decide (48≤c)&&decide (c≤57))||(c==46)
def badB (k:Nat)(b:UInt8):Bool:= !gF0 (b.toNat:Int)&&(decide (k=0) || !lG0 (b.toNat:Int))
def cJ0 (s:ByteArray):Bool:=decide (1≤s.size)&&(decide (s.size≤24)&&(cD0 badB 0 (eI0 s)).isNone)
def KB (c:Int)(b1 b2 b3 b4 b5 b6 b7 b8:Bool):Prop:=decide (97≤c)=b1∧decide (c≤122)=b2∧decide (65≤c)=b3∧decide (c≤90)=b4∧(c==95)=b5∧decide (48≤c)=b6∧decide (c≤57)=b7∧(c==46)=b8
theorem nB0 (c:Int):KB c true true true false false true false false ∨
  KB c true false true false false true false false ∨
  KB c false true true true false true false false ∨
  KB c false true true false true true false false ∨
  KB c false true true false false true false false ∨
  KB c false true false true false true true false ∨
  KB c false true false true false true false false ∨
  KB c false true false true false false true true ∨
  KB c false true false true false false true false:=by
 simp only[KB,decide_eq_true_eq,decide_eq_false_iff_not,beq_iff_eq,beq_eq_false_iff_ne,ne_eq]
 omega
theorem rT1 (k:Nat)(b:UInt8)(c:Int)(hc:(b.toNat:Int)=c):badB k b=(!gF0 c&&(decide (k=0) || !lG0 c)):=by unfold badB;rw[hc]
def E170 (s:ByteArray)(k:Int):Env:=[(0,sV s),(7,iV s.size),(8,iV k)]
theorem vT2 (s:ByteArray)(k:Nat)(b:UInt8)(hk:(eI0 s)[k]? = some b)(hl:(k:Int)<s.size) :
  (badB k b=true→bU1 ext 0 (E170 s k) []=some (.ret [bV false] []))∧(badB k b=false→∀ out,bU1 ext 0 (E170 s (wr ((k:Int)+1))) []=out→bU1 ext 0 (E170 s k) []=out):=by
 have h0:(0:Int)≤k:=by omega
 have hb:s[k]? = some b:=by rw[nC0,hk]
 generalize hc:(b.toNat:Int)=c
 rw[rT1 k b c hc]
 unfold gF0 lG0 bU1
 have n8:(c != 46) = !(c==46):=rfl
 have ek:((k:Int)==0)=decide (k=0):=by rw[Bool.eq_iff_iff,beq_iff_eq,decide_eq_true_eq];omega
 rcases nB0 c with⟨a1,a2,a3,a4,a5,a6,a7,a8⟩ | ⟨a1,a2,a3,a4,a5,a6,a7,a8⟩ | ⟨a1,a2,a3,a4,a5,a6,a7,a8⟩ | ⟨a1,a2,a3,a4,a5,a6,a7,a8⟩ | ⟨a1,a2,a3,a4,a5,a6,a7,a8⟩ | ⟨a1,a2,a3,a4,a5,a6,a7,a8⟩ | ⟨a1,a2,a3,a4,a5,a6,a7,a8⟩ | ⟨a1,a2,a3,a4,a5,a6,a7,a8⟩ | ⟨a1,a2,a3,a4,a5,a6,a7,a8⟩
 all_goals
  rcases(by by_cases k0:k=0;exact .inl ⟨by rw[ek,decide_eq_true k0],decide_eq_true k0⟩;exact .inr ⟨by rw[ek,decide_eq_false k0],decide_eq_false k0⟩:(((k:Int)==0)=true∧decide (k=0)=true)∨(((k:Int)==0)=false∧decide (k=0)=false)) with⟨k1,k0⟩ | ⟨k1,k0⟩
  all_goals
   refine⟨fun hp=> ?_,fun hp out h=> ?_⟩
   ·(simp only[a1,a2,a3,a4,a5,a6,a7,a8,k0,Bool.and_self,Bool.and_true,Bool.and_false,Bool.or_self,Bool.or_true,Bool.or_false,Bool.not_true,Bool.not_false,Bool.false_eq_true]at hp) <;> (
     simp only[iV,bV,sV,E170]
     (rw[vK1];simp only[B170,aN2,sub,f170,↓reduceIte,zG])
     simp only[zS,zD,iG0,h0,hl,hb,hc,k1,a1,a2,a3,a4,a5,a6,a7,a8,Int.toNat_natCast,ge_iff_le,simprocAttr]
     (refine .trans ?_ rfl;kernel_rfl))
   ·(simp only[a1,a2,a3,a4,a5,a6,a7,a8,k0,Bool.and_self,Bool.and_true,Bool.and_false,Bool.or_self,Bool.or_true,Bool.or_false,Bool.not_true,Bool.not_false,reduceCtorEq]at hp) <;> (
     simp only[iV,sV,E170]at h ⊢
     (rw[vK1];simp only[B170,aN2,sub,f170,↓reduceIte,zG])
     simp only[zS,zD,iG0,h0,hl,hb,hc,k1,a1,a2,a3,a4,a5,a6,a7,a8,Int.toNat_natCast,ge_iff_le,simprocAttr]
     (refine(aA0 ?_).trans h;kernel_rfl))
theorem sQ2 (hx:ext 170=none)(s:ByteArray)(hs:s.size<2^50):run prog ext (.call 170 [sV s] [])=some (.ret [bV (cJ0 s)] []):=by
 have he:∀ out,bU1 ext 0 (E170 s 0) []=out→run prog ext (.call 170 [sV s] [])=out:=by
  intro out h
  unfold bU1 at h
  (rw[enT hx func170 rfl];simp only[f170,zR,simprocAttr,zE])
  simp only[sV,iV,E170]at h ⊢
  simp only[zS,zD,iG0,simprocAttr]
  (refine(aA0 ?_).trans h;kernel_rfl)
 refine he _ ?_
 have:=dJ0 (eI0 s) (fun k=>bU1 ext 0 (E170 s k) []) badB (fun _=>some (.ret [bV false] [])) (some (.ret [bV (decide (1≤s.size)&&decide (s.size≤24))] [])) (by rw[dH0];omega) (fun k b hk hl=>vT2 ext s k b hk (by rw[dH0]at hl;exact hl)) (by
   rw[dH0]
   unfold bU1
   have d1:decide ((s.size:Int)≥1)=decide (1≤s.size):=by rw[Bool.eq_iff_iff,decide_eq_true_eq,decide_eq_true_eq];omega
   have d2:decide ((s.size:Int)≤24)=decide (s.size≤24):=by rw[Bool.eq_iff_iff,decide_eq_true_eq,decide_eq_true_eq];omega
   simp only[sV,iV,bV,E170]
   cases h1:decide (1≤s.size)
   all_goals
    rw[h1]at d1
    (rw[vK1];simp only[B170,aN2,sub,f170,↓reduceIte,zG])
    simp only[zS,zD,iG0,Int.lt_irrefl,d1,d2,simprocAttr]
    (refine .trans ?_ rfl;kernel_rfl))
 rw[this]
 unfold cJ0
 cases cD0 badB 0 (eI0 s) <;> simp
def E179 (s:ByteArray)(k:Int):Env:=[(0,sV s),(3,iV k)]
theorem vU2 (s:ByteArray)(k:Nat)(b:UInt8)(hk:(eI0 s)[k]? = some b)(hl:(k:Int)<s.size) :
  (badB k b=true→bV1 ext 0 (E179 s k) []=some (.ret [bV false] []))∧(badB k b=false→∀ out,bV1 ext 0 (E179 s (wr ((k:Int)+1))) []=out→bV1 ext 0 (E179 s k) []=out):=by
 have h0:(0:Int)≤k:=by omega
 have hb:s[k]? = some b:=by rw[nC0,hk]
 generalize hc:(b.toNat:Int)=c
 rw[rT1 k b c hc]
 unfold gF0 lG0 bV1
 have n8:(c != 46) = !(c==46):=rfl
 have ek:((k:Int)==0)=decide (k=0):=by rw[Bool.eq_iff_iff,beq_iff_eq,decide_eq_true_eq];omega
 rcases nB0 c with⟨a1,a2,a3,a4,a5,a6,a7,a8⟩ | ⟨a1,a2,a3,a4,a5,a6,a7,a8⟩ | ⟨a1,a2,a3,a4,a5,a6,a7,a8⟩ | ⟨a1,a2,a3,a4,a5,a6,a7,a8⟩ | ⟨a1,a2,a3,a4,a5,a6,a7,a8⟩ | ⟨a1,a2,a3,a4,a5,a6,a7,a8⟩ | ⟨a1,a2,a3,a4,a5,a6,a7,a8⟩ | ⟨a1,a2,a3,a4,a5,a6,a7,a8⟩ | ⟨a1,a2,a3,a4,a5,a6,a7,a8⟩
 all_goals
  rcases(by by_cases k0:k=0;exact .inl ⟨by rw[ek,decide_eq_true k0],decide_eq_true k0⟩;exact .inr ⟨by rw[ek,decide_eq_false k0],decide_eq_false k0⟩:(((k:Int)==0)=true∧decide (k=0)=true)∨(((k:Int)==0)=false∧decide (k=0)=false)) with⟨k1,k0⟩ | ⟨k1,k0⟩
  all_goals
   refine⟨fun hp=> ?_,fun hp out h=> ?_⟩
   ·(simp only[a1,a2,a3,a4,a5,a6,a7,a8,k0,Bool.and_self,Bool.and_true,Bool.and_false,Bool.or_self,Bool.or_true,Bool.or_false,Bool.not_true,Bool.not_false,Bool.false_eq_true]at hp) <;> (
     simp only[iV,bV,sV,E179]
     (rw[vL1];simp only[B179,aO2,sub,f179,↓reduceIte,zG])
     simp only[zS,zD,iG0,h0,hl,hb,hc,n8,k1,a1,a2,a3,a4,a5,a6,a7,a8,Int.toNat_natCast,ge_iff_le,simprocAttr]
     (refine .trans ?_ rfl;kernel_rfl))
   ·(simp only[a1,a2,a3,a4,a5,a6,a7,a8,k0,Bool.and_self,Bool.and_true,Bool.and_false,Bool.or_self,Bool.or_true,Bool.or_false,Bool.not_true,Bool.not_false,reduceCtorEq]at hp) <;> (
     simp only[iV,sV,E179]at h ⊢
     (rw[vL1];simp only[B179,aO2,sub,f179,↓reduceIte,zG])
     simp only[zS,zD,iG0,h0,hl,hb,hc,n8,k1,a1,a2,a3,a4,a5,a6,a7,a8,Int.toNat_natCast,ge_iff_le,simprocAttr]
     (refine(aA0 ?_).trans h;kernel_rfl))
theorem sR2 (hx:ext 179=none)(s:ByteArray)(hs:s.size<2^50):run prog ext (.call 179 [sV s] [])=some (.ret [bV (cJ0 s)] []):=by
 have d1:decide ((s.size:Int)<1) = !decide (1≤s.size):=by rw[Bool.eq_iff_iff,decide_eq_true_eq,Bool.not_eq_true',decide_eq_false_iff_not];omega
 have d2:decide ((s.size:Int)>24) = !decide (s.size≤24):=by rw[Bool.eq_iff_iff,decide_eq_true_eq,Bool.not_eq_true',decide_eq_false_iff_not];omega
 unfold cJ0
 cases h1:decide (1≤s.size) with
 | false=>
  rw[h1]at d1
  rw[Bool.false_and]
  (rw[enT hx func179 rfl];simp only[f179,zR,simprocAttr,zE])
  simp only[sV,bV]
  simp only[zS,zD,iG0,d1,simprocAttr]
  (refine .trans ?_ rfl;kernel_rfl)
 | true=>
  rw[h1]at d1
  rw[Bool.true_and]
  cases h2:decide (s.size≤24) with
  | false=>
   rw[h2]at d2
   rw[Bool.false_and]
   (rw[enT hx func179 rfl];simp only[f179,zR,simprocAttr,zE])
   simp only[sV,bV]
   simp only[zS,zD,iG0,d1,d2,simprocAttr]
   (refine .trans ?_ rfl;kernel_rfl)
  | true=>
   rw[h2]at d2
   rw[Bool.true_and]
   have he:∀ out,bV1 ext 0 (E179 s 0) []=out→run prog ext (.call 179 [sV s] [])=out:=by
    intro out h
    unfold bV1 at h
    (rw[enT hx func179 rfl];simp only[f179,zR,simprocAttr,zE])
    simp only[sV,iV,E179]at h ⊢
    simp only[zS,zD,iG0,d1,d2,simprocAttr]
    (refine(aA0 ?_).trans h;kernel_rfl)
   refine he _ ?_
   have:=dJ0 (eI0 s) (fun k=>bV1 ext 0 (E179 s k) []) badB (fun _=>some (.ret [bV false] [])) (some (.ret [bV true] [])) (by rw[dH0];omega) (fun k b hk hl=>vU2 ext s k b hk (by rw[dH0]at hl;exact hl)) (by
     rw[dH0]
     unfold bV1
     simp only[sV,iV,bV,E179]
     (rw[vL1];simp only[B179,aO2,sub,f179,↓reduceIte,zG])
     simp only[zS,zD,iG0,Int.lt_irrefl,simprocAttr]
     (refine .trans ?_ rfl;kernel_rfl))
   rw[this]
   cases cD0 badB 0 (eI0 s) <;> rfl
def E164 (s:ByteArray)(k:Int):Env:=[(0,sV s),(3,iV k)]
theorem vS2 (s:ByteArray)(k:Nat)(b:UInt8)(hk:(eI0 s)[k]? = some b)(hl:(k:Int)<s.size) :
  (badB k b=true→bT1 ext 0 (E164 s k) []=some (.ret [bV false] []))∧(badB k b=false→∀ out,bT1 ext 0 (E164 s (wr ((k:Int)+1))) []=out→bT1 ext 0 (E164 s k) []=out):=by
 have h0:(0:Int)≤k:=by omega
 have hb:s[k]? = some b:=by rw[nC0,hk]
 generalize hc:(b.toNat:Int)=c
 rw[rT1 k b c hc]
 unfold gF0 lG0 bT1
 have n8:(c != 46) = !(c==46):=rfl
 have n6:decide (c<48) = !decide (48≤c):=by rw[Bool.eq_iff_iff,decide_eq_true_eq,Bool.not_eq_true',decide_eq_false_iff_not];omega
 have n7:decide (c>57) = !decide (c≤57):=by rw[Bool.eq_iff_iff,decide_eq_true_eq,Bool.not_eq_true',decide_eq_false_iff_not];omega
 have ek:((k:Int)==0)=decide (k=0):=by rw[Bool.eq_iff_iff,beq_iff_eq,decide_eq_true_eq];omega
 rcases nB0 c with⟨a1,a2,a3,a4,a5,a6,a7,a8⟩ | ⟨a1,a2,a3,a4,a5,a6,a7,a8⟩ | ⟨a1,a2,a3,a4,a5,a6,a7,a8⟩ | ⟨a1,a2,a3,a4,a5,a6,a7,a8⟩ | ⟨a1,a2,a3,a4,a5,a6,a7,a8⟩ | ⟨a1,a2,a3,a4,a5,a6,a7,a8⟩ | ⟨a1,a2,a3,a4,a5,a6,a7,a8⟩ | ⟨a1,a2,a3,a4,a5,a6,a7,a8⟩ | ⟨a1,a2,a3,a4,a5,a6,a7,a8⟩
 all_goals
  rcases(by by_cases k0:k=0;exact .inl ⟨by rw[ek,decide_eq_true k0],decide_eq_true k0⟩;exact .inr ⟨by rw[ek,decide_eq_false k0],decide_eq_false k0⟩:(((k:Int)==0)=true∧decide (k=0)=true)∨(((k:Int)==0)=false∧decide (k=0)=false)) with⟨k1,k0⟩ | ⟨k1,k0⟩
  all_goals
   refine⟨fun hp=> ?_,fun hp out h=> ?_⟩
   ·(simp only[a1,a2,a3,a4,a5,a6,a7,a8,k0,Bool.and_self,Bool.and_true,Bool.and_false,Bool.or_self,Bool.or_true,Bool.or_false,Bool.not_true,Bool.not_false,Bool.false_eq_true]at hp) <;> (
     simp only[iV,bV,sV,E164]
     (rw[vI1];simp only[B164,aL2,sub,f164,↓reduceIte,zG])
     simp only[zS,zD,iG0,h0,hl,hb,hc,n6,n7,n8,k1,a1,a2,a3,a4,a5,a6,a7,a8,Int.toNat_natCast,ge_iff_le,simprocAttr]
     (refine .trans ?_ rfl;kernel_rfl))
   ·(simp only[a1,a2,a3,a4,a5,a6,a7,a8,k0,Bool.and_self,Bool.and_true,Bool.and_false,Bool.or_self,Bool.or_true,Bool.or_false,Bool.not_true,Bool.not_false,reduceCtorEq]at hp) <;> (
     simp only[iV,sV,E164]at h ⊢
     (rw[vI1];simp only[B164,aL2,sub,f164,↓reduceIte,zG])
     simp only[zS,zD,iG0,h0,hl,hb,hc,n6,n7,n8,k1,a1,a2,a3,a4,a5,a6,a7,a8,Int.toNat_natCast,ge_iff_le,simprocAttr]
     (refine(aA0 ?_).trans h;kernel_rfl))
theorem sP2 (hx:ext 164=none)(s:ByteArray)(hs:s.size<2^50):run prog ext (.call 164 [sV s] [])=some (.ret [bV (cJ0 s)] []):=by
 have d1:decide ((s.size:Int)<1) = !decide (1≤s.size):=by rw[Bool.eq_iff_iff,decide_eq_true_eq,Bool.not_eq_true',decide_eq_false_iff_not];omega
 have d2:decide ((s.size:Int)>24) = !decide (s.size≤24):=by rw[Bool.eq_iff_iff,decide_eq_true_eq,Bool.not_eq_true',decide_eq_false_iff_not];omega
 unfold cJ0
 cases h1:decide (1≤s.size) with
 | false=>
  rw[h1]at d1
  rw[Bool.false_and]
  (rw[enT hx func164 rfl];simp only[f164,zR,simprocAttr,zE])
  simp only[sV,bV]
  simp only[zS,zD,iG0,d1,simprocAttr]
  (refine .trans ?_ rfl;kernel_rfl)
 | true=>
  rw[h1]at d1
  rw[Bool.true_and]
  cases h2:decide (s.size≤24) with
  | false=>
   rw[h2]at d2
   rw[Bool.false_and]
   (rw[enT hx func164 rfl];simp only[f164,zR,simprocAttr,zE])
   simp only[sV,bV]
   simp only[zS,zD,iG0,d1,d2,simprocAttr]
   (refine .trans ?_ rfl;kernel_rfl)
  | true=>
   rw[h2]at d2
   rw[Bool.true_and]
   have he:∀ out,bT1 ext 0 (E164 s 0) []=out→run prog ext (.call 164 [sV s] [])=out:=by
    intro out h
    unfold bT1 at h
    (rw[enT hx func164 rfl];simp only[f164,zR,simprocAttr,zE])
    simp only[sV,iV,E164]at h ⊢
    simp only[zS,zD,iG0,d1,d2,simprocAttr]
    (refine(aA0 ?_).trans h;kernel_rfl)
   refine he _ ?_
   have:=dJ0 (eI0 s) (fun k=>bT1 ext 0 (E164 s k) []) badB (fun _=>some (.ret [bV false] [])) (some (.ret [bV true] [])) (by rw[dH0];omega) (fun k b hk hl=>vS2 ext s k b hk (by rw[dH0]at hl;exact hl)) (by
     rw[dH0]
     unfold bT1
     simp only[sV,iV,bV,E164]
     (rw[vI1];simp only[B164,aL2,sub,f164,↓reduceIte,zG])
     simp only[zS,zD,iG0,Int.lt_irrefl,simprocAttr]
     (refine .trans ?_ rfl;kernel_rfl))
   rw[this]
   cases cD0 badB 0 (eI0 s) <;> rfl
end
section
open Go
variable (ext:Ext)
def tabF : List Int:=[0,8,5,2,0,64,32,32,64,64,0,0,0,0,0,0,0,32,2,2,2,2,2,2,0,34,5,21,37,8,0]
def tabP : List Int:=[0,0,0,0,0,2,2,2,2,4,1,1,0,0,0,0,0,2,3,2,6,4,3,5,2,5,1,2,-1,0,0]
def tabS : List ByteArray:=[⟨#[]⟩,⟨#[35]⟩,⟨#[64]⟩,⟨#[116,121,112,101]⟩,⟨#[112,114,111,112]⟩,⟨#[112,105]⟩,⟨#[108,97,109]⟩,⟨#[97,112,112]⟩,⟨#[115,105,103]⟩,⟨#[112,97,105,114]⟩,⟨#[102,115,116]⟩,⟨#[115,110,100]⟩,⟨#[117,110,105,116]⟩,⟨#[115,116,97,114]⟩,⟨#[116,114,117,101]⟩,⟨#[116,114,105,118,105,97,108]⟩,⟨#[102,97,108,115,101]⟩,⟨#[97,98,115,117,114,100]⟩,⟨#[101,113]⟩,⟨#[114,101,102,108]⟩,⟨#[115,117,98,115,116]⟩,⟨#[99,97,115,116]⟩,⟨#[99,111,104]⟩,⟨#[113,117,111]⟩,⟨#[99,108,97,115,115]⟩,⟨#[111,117,116]⟩,⟨#[100,97,116,97]⟩,⟨#[99,111,110]⟩,⟨#[101,108,105,109]⟩,⟨#[63]⟩,⟨#[112,114,111,111,102]⟩]
def opS (op:Int):ByteArray:=tabS.getD op.toNat ⟨#[]⟩
def opF (op:Int):Int:=tabF.getD op.toNat 0
def opP (op:Int):Int:=tabP.getD op.toNat 0
noncomputable def B169 : Code:=(f169.body).getD .skip
theorem jD1 {op:Int} (h1:1≤op)(h2:op≤30):op=1∨op=2∨op=3∨op=4∨op=5∨op=6∨op=7∨op=8∨op=9∨op=10∨op=11∨op=12∨op=13∨op=14∨op=15∨op=16∨op=17∨op=18∨op=19∨op=20∨op=21∨op=22∨op=23∨op=24∨op=25∨op=26∨op=27∨op=28∨op=29∨op=30:=by omega
theorem lM1 (f:FuncId)(fn:Func)(c:Code)(hx:ext f=none)(hf:prog.funcs[f]? = some fn)(hb:fn.body=some c)(hl:1≤fn.ntmps)(x:V)(out:Option Out)
  (h:run prog ext (.k ⟨fn.ntmps,0,fn.results.toList,retF f⟩ [.code c] [(0,x)] [])=out):run prog ext (.call f [x] [])=out:=by
 rw[eE0]
 simp only[hR0,hx,hf,hb]
 rw[if_pos (by simpa using hl)]
 exact h
theorem of169 (hx:ext 169=none)(op:Int)(h1:1≤op)(h2:op≤30):run prog ext (.call 169 [iV op] [])=some (.ret [.agg [.d (.v (.string (opS op))),.d (.v (.int .i64 (opF op))),.d (.v (.int .i64 (opP op)))],bV true] []):=by
 rcases jD1 h1 h2 with rfl | rfl | rfl | rfl | rfl | rfl | rfl | rfl | rfl | rfl | rfl | rfl | rfl | rfl | rfl | rfl | rfl | rfl | rfl | rfl | rfl | rfl | rfl | rfl | rfl | rfl | rfl | rfl | rfl | rfl
 all_goals exact lM1 ext 169 f169 B169 hx func169 (by kernel_rfl) (Nat.le_of_ble_eq_true (by kernel_rfl)) _ _ ((cY0 _ _ _ _).2 ⟨400,by kernel_rfl⟩)
theorem gB1 : hC0 prog 225=some [(0,3),(3,3),(6,3),(9,3),(12,3),(15,3),(18,3),(21,3),(24,3),(27,3),(30,3),(33,3),(36,3),(39,3),(42,3),(45,3),(48,3),(51,3),(54,3),(57,3),(60,3),(63,3),(66,3),(69,3),(72,3),(75,3),(78,3),(81,3),(84,3),(87,3),(90,3)]:=by kernel_rfl
theorem gV2 (hx:ext 169=none)(op:Int)(h:¬ (1≤op∧op≤30)):run prog ext (.call 169 [iV op] [])=some (.ret [.agg [.d (.v (.string ⟨#[]⟩)),.d (.v (.int .i64 0)),.d (.v (.int .i64 0))],bV false] []):=by
 by_cases h1:op<1
 ·have e1:decide (op<1)=true:=decide_eq_true h1
  (rw[enT hx func169 rfl];simp only[f169,zR,simprocAttr,zE])
  simp only[iV,bV]
  simp only[zS,zD,cN0,gL1,gU1,gB1,e1,simprocAttr]
  (refine .trans ?_ rfl;kernel_rfl)
 ·have e1:decide (op<1)=false:=decide_eq_false h1
  have e2:decide (op≥31)=true:=decide_eq_true (by omega)
  (rw[enT hx func169 rfl];simp only[f169,zR,simprocAttr,zE])
  simp only[iV,bV]
  simp only[zS,zD,cN0,gL1,gU1,gB1,e1,e2,simprocAttr]
  (refine .trans ?_ rfl;kernel_rfl)
end
end Go.Proofs.YteenjodhmppgjaaGreatDoor.Am
