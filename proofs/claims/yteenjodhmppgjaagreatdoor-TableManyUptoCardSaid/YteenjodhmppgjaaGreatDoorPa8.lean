/- A part of the proof of a card. No conditions. -/
import Derived.Test.YteenjodhmppgjaaGreatDoorPa4
set_option linter.all false
set_option maxHeartbeats 16000000
set_option maxRecDepth 10000
namespace Go.Proofs.YteenjodhmppgjaaGreatDoor.Am
open Go.Proofs.Tryz
section
open Go
variable (ext:Ext)
noncomputable def B43 : Code:=(f43.body.getD .skip)
noncomputable def L43a : Code:=sub B43 [1,1,0,1,0,0]
theorem qU2 : It.code L43a=It.code (sub B43 [1,1,0,1,0,0]):=rfl
noncomputable def K43a : List It:=[.inBlock 0,.code (sub B43 [1,1,1])]
noncomputable def H43a (ext:Ext)(m:Nat)(env:Env)(loc:List O):Option Out:=run prog ext (.k ⟨38,m,[.tmp 4],false⟩ (.code L43a :: .inLoop L43a::K43a) env loc)
noncomputable def B82 : Code:=(f82.body.getD .skip)
noncomputable def L82a : Code:=sub B82 [1,1,0,1,0,0]
theorem rE2 : It.code L82a=It.code (sub B82 [1,1,0,1,0,0]):=rfl
noncomputable def K82a : List It:=[.inBlock 0,.code (sub B82 [1,1,1])]
noncomputable def H82a (ext:Ext)(m:Nat)(env:Env)(loc:List O):Option Out:=run prog ext (.k ⟨27,m,[.tmp 4],false⟩ (.code L82a :: .inLoop L82a::K82a) env loc)
noncomputable def B52 : Code:=(f52.body.getD .skip)
noncomputable def L52a : Code:=sub B52 [1,1,0,1,0,0]
theorem qV2 : It.code L52a=It.code (sub B52 [1,1,0,1,0,0]):=rfl
noncomputable def K52a : List It:=[.inBlock 0,.code (sub B52 [1,1,1])]
noncomputable def H52a (ext:Ext)(m:Nat)(env:Env)(loc:List O):Option Out:=run prog ext (.k ⟨27,m,[.tmp 4],false⟩ (.code L52a :: .inLoop L52a::K52a) env loc)
def allR {α β:Type} (R:α→β→Bool):List α→List β→Bool
 | [],[]=>true
 | x::l,y::m=>R x y&&allR R l m
 | _,_=>false
def mE0 {α β:Type} (R:α→β→Bool)(m:List β)(k:Nat)(x:α):Bool:=match m[k]? with | some y=> !R x y | none=>true
theorem mR1 {α β:Type} (R:α→β→Bool):∀ (l:List α)(pre m:List β),l.length=m.length→(cD0 (mE0 R (pre++m)) pre.length l).isNone=allR R l m
 | [],pre,m,h=>by
  have:m=[]:=List.eq_nil_of_length_eq_zero (by simpa using h.symm)
  subst this;rfl
 | x::l,pre,[],h=>by simp at h
 | x::l,pre,y::m,h=>by
  have e:mE0 R (pre++y::m) pre.length x = !R x y:=by
   unfold mE0
   rw[List.getElem?_append_right (by omega),Nat.sub_self];rfl
  rw[cD0,e]
  have ih:=mR1 R l (pre++[y]) m (by simpa using h)
  rw[List.append_assoc,List.singleton_append,List.length_append]at ih
  cases hR:R x y with
  | true=>simp only[Bool.not_true,Bool.false_eq_true,if_false,allR,hR,Bool.true_and];exact ih
  | false=>simp[allR,hR]
theorem pA0 {α β:Type}{R:α→β→Bool}:∀ {l:List α}{m:List β},allR R l m=true→l.length=m.length
 | [],[],_=>rfl
 | _::l,_::m,h=>by simp only[allR,Bool.and_eq_true]at h;simp[pA0 h.2]
 | [],_::_,h=>by cases h
 | _::_,[],h=>by cases h
theorem pU0 {α β:Type} (R:α→β→Bool)(l:List α)(m:List β)(h:l.length=m.length):(match cD0 (mE0 R m) 0 l with | some _=>some (Out.ret [bV false] []) | none=>some (.ret [bV true] []))=some (.ret [bV (allR R l m)] []):=by
 have:=mR1 R l [] m h
 simp only[List.nil_append,List.length_nil]at this
 rw[← this]
 cases cD0 (mE0 R m) 0 l <;> rfl
def eqLV (x y:LV):Bool:=(x.v==y.v)&&(x.p==y.p)
def iP0 (x y:Lev):Bool:=(x.c==y.c)&&allR eqLV x.vs y.vs
theorem gZ2 : jM1 prog 110=true:=by kernel_rfl
theorem kM0 (op:BinOp)(a b c d:Int):wK0 prog op 110 [.d (.v (.int .i64 a)),.d (.v (.int .i64 b))] [.d (.v (.int .i64 c)),.d (.v (.int .i64 d))]=nilEq op ((a==c)&&(b==d)):=by
 unfold wK0
 rw[if_pos gZ2,Tryz.underlying110]
 simp[eqFs]
def E43 (k:Int):Env:=[(2,.c (.ptr 0 0)),(3,.c (.ptr 1 0)),(5,iV k)]
def O43 (x y:Lev):List O:=[.box (levC x),.box (levC y)]
theorem eq43 (hx:ext 43=none)(x y:Lev)(hs:x.vs.length<2^50):run prog ext (.call 43 [levV x,levV y] [])=some (.ret [bV (iP0 x y)] []):=by
 unfold iP0
 by_cases h1:x.c=y.c
 case neg=>
  have e:(x.c==y.c)=false:=by simpa using h1
  rw[e,Bool.false_and]
  (rw[enT hx func43 rfl];simp only[f43,zR,simprocAttr,zE])
  simp only[levV,levC,bV]
  simp only[zS,zD,eK0,zT3,h1,simprocAttr]
  (refine .trans ?_ rfl;kernel_rfl)
 by_cases h2:(x.vs.length:Int)=y.vs.length
 case neg=>
  have e:allR eqLV x.vs y.vs=false:=by
   cases hh:allR eqLV x.vs y.vs with
   | false=>rfl
   | true=>have:=pA0 hh;omega
  rw[e,Bool.and_false]
  (rw[enT hx func43 rfl];simp only[f43,zR,simprocAttr,zE])
  simp only[levV,levC,bV]
  simp only[zS,zD,zT36,zT34,zT3,gQ0,h1,h2,simprocAttr]
  (refine .trans ?_ rfl;kernel_rfl)
 have e:(x.c==y.c)=true:=by simpa using h1
 rw[e,Bool.true_and]
 have he:∀ out,H43a ext 0 (E43 0) (O43 x y)=out→run prog ext (.call 43 [levV x,levV y] [])=out:=by
  intro out h
  unfold H43a at h
  (rw[enT hx func43 rfl];simp only[f43,zR,simprocAttr,zE])
  simp only[levV,levC,iV,E43,O43,h1]at h ⊢
  simp only[zS,zD,zT36,zT34,zT3,gQ0,h2,simprocAttr]
  (refine(aA0 ?_).trans h;kernel_rfl)
 refine he _ ?_
 have:=dJ0 x.vs (fun k=>H43a ext 0 (E43 k) (O43 x y)) (mE0 eqLV y.vs) (fun _=>some (.ret [bV false] [])) (some (.ret [bV true] [])) (by omega) (fun k a hk hl=>by
   have h0:(0:Int)≤k:=by omega
   have hl2:(k:Int)<y.vs.length:=by omega
   have hlt:k<y.vs.length:=by omega
   have hb:y.vs[k]? = some y.vs[k]:=by simp[hlt]
   generalize y.vs[k]=b at hb
   have hd:x.d = .s 2 (x.vs.map lvD):=aM0 h0 (by simpa using hl)
   have hd2:y.d = .s 2 (y.vs.map lvD):=aM0 h0 (by simpa using hl2)
   have hpp:mE0 eqLV y.vs k a = !eqLV a b:=by unfold mE0;rw[hb]
   unfold H43a
   rw[hpp]
   refine⟨fun hp=> ?_,fun hp out h=> ?_⟩
   ·have hp':eqLV a b=false:=by simpa using hp
    unfold eqLV at hp'
    simp only[levC,iV,bV,E43,O43,hd,hd2]
    (rw[qU2];simp only[B43,K43a,sub,f43,↓reduceIte,zG])
    simp only[zS,zD,bF0,zT34,cV0,aK0,aC0,aD0,Array.size,List.length,h0,hl,hl2,Int.toNat_natCast,hk,hb,lvD,kM0,hp',simprocAttr]
    rw[aB0 _ _ _ _ (by kernel_rfl)]
    simp only[zS,zD,simprocAttr]
    (refine .trans ?_ rfl;kernel_rfl)
   ·have hp':eqLV a b=true:=by simpa using hp
    unfold eqLV at hp'
    simp only[levC,iV,E43,O43,hd,hd2]at h ⊢
    (rw[qU2];simp only[B43,K43a,sub,f43,↓reduceIte,zG])
    simp only[zS,zD,bF0,zT34,cV0,aK0,aC0,aD0,Array.size,List.length,h0,hl,hl2,Int.toNat_natCast,hk,hb,lvD,kM0,hp',simprocAttr]
    rw[aB0 _ _ _ _ (by kernel_rfl)]
    simp only[zS,zD,simprocAttr]
    (refine(aA0 ?_).trans h;kernel_rfl)) (by
   unfold H43a
   simp only[levC,iV,bV,E43,O43]
   (rw[qU2];simp only[B43,K43a,sub,f43,↓reduceIte,zG])
   simp only[zS,zD,bF0,zT34,gQ0,Int.lt_irrefl,simprocAttr]
   (refine .trans ?_ rfl;kernel_rfl))
 rw[this]
 exact pU0 eqLV x.vs y.vs (by omega)
def E82 (a b:D)(k:Int):Env:=[(0,dV a),(1,dV b),(5,iV k)]
theorem eq82 (hx:ext 82=none)(h43:ext 43=none)(z z':Bool)(l m:List Lev)(hs:l.length<2^50)(hs2:∀ x∈l,x.vs.length<2^50):run prog ext (.call 82 [dV (aJ0 z 2 (l.map levD)),dV (aJ0 z' 2 (m.map levD))] [])=some (.ret [bV (allR iP0 l m)] []):=by
 by_cases h2:(l.length:Int)=m.length
 case neg=>
  have e:allR iP0 l m=false:=by
   cases hh:allR iP0 l m with
   | false=>rfl
   | true=>have:=pA0 hh;omega
  rw[e]
  (rw[enT hx func82 rfl];simp only[f82,zR,simprocAttr,zE])
  simp only[dV,bV]
  simp only[zS,zD,eN0,h2,simprocAttr]
  (refine .trans ?_ rfl;kernel_rfl)
 have he:∀ out,H82a ext 0 (E82 (aJ0 z 2 (l.map levD)) (aJ0 z' 2 (m.map levD)) 0) []=out→run prog ext (.call 82 [dV (aJ0 z 2 (l.map levD)),dV (aJ0 z' 2 (m.map levD))] [])=out:=by
  intro out h
  unfold H82a at h
  (rw[enT hx func82 rfl];simp only[f82,zR,simprocAttr,zE])
  simp only[dV,iV,E82]at h ⊢
  simp only[zS,zD,eN0,h2,simprocAttr]
  (refine(aA0 ?_).trans h;kernel_rfl)
 refine he _ ?_
 have:=dJ0 l (fun k=>H82a ext 0 (E82 (aJ0 z 2 (l.map levD)) (aJ0 z' 2 (m.map levD)) k) []) (mE0 iP0 m) (fun _=>some (.ret [bV false] [])) (some (.ret [bV true] [])) (by omega) (fun k a hk hl=>by
   have h0:(0:Int)≤k:=by omega
   have hl2:(k:Int)<m.length:=by omega
   have hlt:k<m.length:=by omega
   have hb:m[k]? = some m[k]:=by simp[hlt]
   generalize m[k]=b at hb
   have hd:aJ0 z 2 (l.map levD) = .s 2 (l.map levD):=aM0 h0 (by simpa using hl)
   have hd2:aJ0 z' 2 (m.map levD) = .s 2 (m.map levD):=aM0 h0 (by simpa using hl2)
   have hpp:mE0 iP0 m k a = !iP0 a b:=by unfold mE0;rw[hb]
   have hr:=eq43 ext h43 a b (hs2 a (List.mem_of_getElem? hk))
   unfold H82a
   rw[hpp]
   refine⟨fun hp=> ?_,fun hp out h=> ?_⟩
   ·have hp':iP0 a b=false:=by simpa using hp
    rw[hp']at hr
    simp only[levV,levC,dV,iV,bV,E82,hd,hd2]at hr ⊢
    (rw[rE2];simp only[B82,K82a,sub,f82,↓reduceIte,zG])
    simp only[zS,zD,zT36,eN0,aK0,aC0,aD0,Array.size,List.length,h0,hl,hl2,Int.toNat_natCast,hk,hb,levD,hr,simprocAttr]
    rw[aB0 _ _ _ _ (by kernel_rfl)]
    simp only[zS,zD,simprocAttr]
    (refine .trans ?_ rfl;kernel_rfl)
   ·have hp':iP0 a b=true:=by simpa using hp
    rw[hp']at hr
    simp only[levV,levC,dV,iV,bV,E82,hd,hd2]at hr h ⊢
    (rw[rE2];simp only[B82,K82a,sub,f82,↓reduceIte,zG])
    simp only[zS,zD,zT36,eN0,aK0,aC0,aD0,Array.size,List.length,h0,hl,hl2,Int.toNat_natCast,hk,hb,levD,hr,simprocAttr]
    rw[aB0 _ _ _ _ (by kernel_rfl)]
    simp only[zS,zD,simprocAttr]
    (refine(aA0 ?_).trans h;kernel_rfl)) (by
   unfold H82a
   simp only[dV,iV,bV,E82]
   (rw[rE2];simp only[B82,K82a,sub,f82,↓reduceIte,zG])
   simp only[zS,zD,eN0,Int.lt_irrefl,simprocAttr]
   (refine .trans ?_ rfl;kernel_rfl))
 rw[this]
 exact pU0 iP0 l m (by omega)
def eqTm : Tm→Tm→Bool
 | .mk op n s u _ l _,b=>(op==b.op)&&((n==b.n)&&((s.toList==b.s.toList)&&(allR iP0 u b.u&&eqTms l b.l)))
where eqTms:List Tm→List Tm→Bool
 | [],[]=>true
 | x::l,y::m=>eqTm x y&&eqTms l m
 | _,_=>false
theorem lN1 : ∀ (l m:List Tm),eqTm.eqTms l m=allR eqTm l m
 | [],[]=>rfl
 | _::l,_::m=>by simp only[eqTm.eqTms,allR,lN1 l m]
 | [],_::_=>rfl
 | _::_,[]=>rfl
theorem uC1 (a b:Tm):eqTm a b=((a.op==b.op)&&((a.n==b.n)&&((a.s.toList==b.s.toList)&&(allR iP0 a.u b.u&&allR eqTm a.l b.l)))):=by
 cases a;simp only[eqTm,lN1,Tm.op,Tm.n,Tm.s,Tm.u,Tm.l]
theorem eq52 (hx:ext 52=none)(l m:List Tm)(z z':Bool)(hs:l.length<2^50)(hr':∀ x∈l,∀ y,run prog ext (.call 36 [tmV x,tmV y] [])=some (.ret [bV (eqTm x y)] [])):run prog ext (.call 52 [dV (aJ0 z 5 (l.map tmD)),dV (aJ0 z' 5 (m.map tmD))] [])=some (.ret [bV (allR eqTm l m)] []):=by
 by_cases h2:(l.length:Int)=m.length
 case neg=>
  have e:allR eqTm l m=false:=by
   cases hh:allR eqTm l m with
   | false=>rfl
   | true=>have:=pA0 hh;omega
  rw[e]
  (rw[enT hx func52 rfl];simp only[f52,zR,simprocAttr,zE])
  simp only[dV,bV]
  simp only[zS,zD,bL0,h2,simprocAttr]
  (refine .trans ?_ rfl;kernel_rfl)
 have he:∀ out,H52a ext 0 (E82 (aJ0 z 5 (l.map tmD)) (aJ0 z' 5 (m.map tmD)) 0) []=out→run prog ext (.call 52 [dV (aJ0 z 5 (l.map tmD)),dV (aJ0 z' 5 (m.map tmD))] [])=out:=by
  intro out h
  unfold H52a at h
  (rw[enT hx func52 rfl];simp only[f52,zR,simprocAttr,zE])
  simp only[dV,iV,E82]at h ⊢
  simp only[zS,zD,bL0,h2,simprocAttr]
  (refine(aA0 ?_).trans h;kernel_rfl)
 refine he _ ?_
 have:=dJ0 l (fun k=>H52a ext 0 (E82 (aJ0 z 5 (l.map tmD)) (aJ0 z' 5 (m.map tmD)) k) []) (mE0 eqTm m) (fun _=>some (.ret [bV false] [])) (some (.ret [bV true] [])) (by omega) (fun k a hk hl=>by
   have h0:(0:Int)≤k:=by omega
   have hl2:(k:Int)<m.length:=by omega
   have hlt:k<m.length:=by omega
   have hb:m[k]? = some m[k]:=by simp[hlt]
   generalize m[k]=b at hb
   have hd:aJ0 z 5 (l.map tmD) = .s 5 (l.map tmD):=aM0 h0 (by simpa using hl)
   have hd2:aJ0 z' 5 (m.map tmD) = .s 5 (m.map tmD):=aM0 h0 (by simpa using hl2)
   have hpp:mE0 eqTm m k a = !eqTm a b:=by unfold mE0;rw[hb]
   have hr:=hr' a (List.mem_of_getElem? hk) b
   unfold H52a
   rw[hpp]
   refine⟨fun hp=> ?_,fun hp out h=> ?_⟩
   ·have hp':eqTm a b=false:=by simpa using hp
    rw[hp']at hr
    simp only[tmV,tmC,dV,iV,bV,E82,hd,hd2]at hr ⊢
    (rw[qV2];simp only[B52,K52a,sub,f52,↓reduceIte,zG])
    simp only[zS,zD,zT33,bL0,aK0,aC0,aD0,Array.size,List.length,h0,hl,hl2,Int.toNat_natCast,hk,hb,aH0 a,aH0 b,hr,simprocAttr]
    rw[aB0 _ _ _ _ (by kernel_rfl)]
    simp only[zS,zD,simprocAttr]
    (refine .trans ?_ rfl;kernel_rfl)
   ·have hp':eqTm a b=true:=by simpa using hp
    rw[hp']at hr
    simp only[tmV,tmC,dV,iV,bV,E82,hd,hd2]at hr h ⊢
    (rw[qV2];simp only[B52,K52a,sub,f52,↓reduceIte,zG])
    simp only[zS,zD,zT33,bL0,aK0,aC0,aD0,Array.size,List.length,h0,hl,hl2,Int.toNat_natCast,hk,hb,aH0 a,aH0 b,hr,simprocAttr]
    rw[aB0 _ _ _ _ (by kernel_rfl)]
    simp only[zS,zD,simprocAttr]
    (refine(aA0 ?_).trans h;kernel_rfl)) (by
   unfold H52a
   simp only[dV,iV,bV,E82]
   (rw[qV2];simp only[B52,K52a,sub,f52,↓reduceIte,zG])
   simp only[zS,zD,bL0,Int.lt_irrefl,simprocAttr]
   (refine .trans ?_ rfl;kernel_rfl))
 rw[this]
 exact pU0 eqTm l m (by omega)
theorem eq36 (hx:ext 36=none)(h43:ext 43=none)(h82:ext 82=none)(h52:ext 52=none):∀ (N:Nat)(a b:Tm),a.sz≤N→N<2^50→run prog ext (.call 36 [tmV a,tmV b] [])=some (.ret [bV (eqTm a b)] [])
 | 0,a,b,h,_=>by have:=a.sz_pos;omega
 | N+1,a,b,h,hN=>by
  have hul:=a.ulen_lt
  have hll:=a.len_lt
  have r82:=eq82 ext h82 h43 a.zu b.zu a.u b.u (by omega) (fun x hx=>by have:=Tm.lev_lt hx;unfold Lev.sz at this;omega)
  have r52:=eq52 ext h52 a.l b.l a.zl b.zl (by omega) (fun x hm y=>eq36 hx h43 h82 h52 N x y (by have:=Tm.sz_lt hm;omega) (by omega))
  rw[uC1]
  have ea:aJ0 a.zu 2 (a.u.map levD)=a.uD:=id rfl
  have eb:aJ0 b.zu 2 (b.u.map levD)=b.uD:=id rfl
  have ec:aJ0 a.zl 5 (a.l.map tmD)=a.lD:=id rfl
  have ed:aJ0 b.zl 5 (b.l.map tmD)=b.lD:=id rfl
  simp only[ea,eb,dV]at r82
  simp only[ec,ed,dV]at r52
  cases c1:(a.op==b.op) with
  | false=>
   rw[Bool.false_and]
   (rw[enT hx func36 rfl];simp only[f36,zR,simprocAttr,zE])
   simp only[tmV,tmC,bV]
   simp only[zS,zD,bJ0,zT3,c1,simprocAttr]
   (refine .trans ?_ rfl;kernel_rfl)
  | true=>
  rw[Bool.true_and]
  cases c2:(a.n==b.n) with
  | false=>
   rw[Bool.false_and]
   (rw[enT hx func36 rfl];simp only[f36,zR,simprocAttr,zE])
   simp only[tmV,tmC,bV]
   simp only[zS,zD,zT33,zT3,c1,c2,simprocAttr]
   (refine .trans ?_ rfl;kernel_rfl)
  | true=>
  rw[Bool.true_and]
  cases c3:(a.s.toList==b.s.toList) with
  | false=>
   rw[Bool.false_and]
   (rw[enT hx func36 rfl];simp only[f36,zR,simprocAttr,zE])
   simp only[tmV,tmC,bV]
   simp only[zS,zD,zT33,zT9,zT3,c1,c2,c3,simprocAttr]
   (refine .trans ?_ rfl;kernel_rfl)
  | true=>
  rw[Bool.true_and]
  cases c4:allR iP0 a.u b.u with
  | false=>
   rw[Bool.false_and]
   rw[c4]at r82
   (rw[enT hx func36 rfl];simp only[f36,zR,simprocAttr,zE])
   simp only[tmV,tmC,bV]at r82 ⊢
   simp only[zS,zD,zT33,zT9,zT30,zT3,c1,c2,c3,r82,simprocAttr]
   (refine .trans ?_ rfl;kernel_rfl)
  | true=>
  rw[Bool.true_and]
  rw[c4]at r82
  (rw[enT hx func36 rfl];simp only[f36,zR,simprocAttr,zE])
  simp only[tmV,tmC,bV]at r82 r52 ⊢
  simp only[zS,zD,zT33,zT9,zT30,zT31,zT3,c1,c2,c3,r82,r52,simprocAttr]
  (refine .trans ?_ rfl;kernel_rfl)
end
end Go.Proofs.YteenjodhmppgjaaGreatDoor.Am
