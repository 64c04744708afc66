/- A part of the proof of a card. No conditions. -/
import Derived.Test.YteenjodhmppgjaaGreatDoorPb2
set_option linter.all false
set_option maxHeartbeats 16000000
set_option maxRecDepth 10000
namespace Go.Proofs.YteenjodhmppgjaaGreatDoor.Am
open Go.Proofs.Tryz
section
open Go
variable (ext:Ext)
noncomputable def B43 : Code:=(f43.body.getD .skip)
noncomputable def L43a : Code:=sub B43 [1,1,0,1,0,0]
theorem sN1 : It.code L43a=It.code (sub B43 [1,1,0,1,0,0]):=rfl
noncomputable def K43a : List It:=[.inBlock 0,.code (sub B43 [1,1,1])]
noncomputable def H43a (ext:Ext)(m:Nat)(env:Env)(loc:List O):Option Out:=run prog ext (.k ⟨38,m,[.tmp 4],false⟩ (.code L43a :: .inLoop L43a::K43a) env loc)
noncomputable def B82 : Code:=(f82.body.getD .skip)
noncomputable def L82a : Code:=sub B82 [1,1,0,1,0,0]
theorem sT1 : It.code L82a=It.code (sub B82 [1,1,0,1,0,0]):=rfl
noncomputable def K82a : List It:=[.inBlock 0,.code (sub B82 [1,1,1])]
noncomputable def H82a (ext:Ext)(m:Nat)(env:Env)(loc:List O):Option Out:=run prog ext (.k ⟨27,m,[.tmp 4],false⟩ (.code L82a :: .inLoop L82a::K82a) env loc)
noncomputable def B52 : Code:=(f52.body.getD .skip)
noncomputable def L52a : Code:=sub B52 [1,1,0,1,0,0]
theorem sP1 : It.code L52a=It.code (sub B52 [1,1,0,1,0,0]):=rfl
noncomputable def K52a : List It:=[.inBlock 0,.code (sub B52 [1,1,1])]
noncomputable def H52a (ext:Ext)(m:Nat)(env:Env)(loc:List O):Option Out:=run prog ext (.k ⟨27,m,[.tmp 4],false⟩ (.code L52a :: .inLoop L52a::K52a) env loc)
def allR {α β:Type} (R:α→β→Bool):List α→List β→Bool
 | [],[]=>true
 | x::l,y::m=>R x y&&allR R l m
 | _,_=>false
def lD0 {α β:Type} (R:α→β→Bool)(m:List β)(k:Nat)(x:α):Bool:=match m[k]? with | some y=> !R x y | none=>true
theorem aN1 {α β:Type} (R:α→β→Bool):∀ (l:List α)(pre m:List β),l.length=m.length→(eG0 (lD0 R (pre++m)) pre.length l).isNone=allR R l m
 | [],pre,m,h=>by
  have:m=[]:=List.eq_nil_of_length_eq_zero (by simpa using h.symm)
  subst this;rfl
 | x::l,pre,[],h=>by simp at h
 | x::l,pre,y::m,h=>by
  have e:lD0 R (pre++y::m) pre.length x = !R x y:=by
   unfold lD0
   rw[List.getElem?_append_right (by omega),Nat.sub_self];rfl
  rw[eG0,e]
  have ih:=aN1 R l (pre++[y]) m (by simpa using h)
  rw[List.append_assoc,List.singleton_append,List.length_append]at ih
  cases hR:R x y with
  | true=>simp only[Bool.not_true,Bool.false_eq_true,if_false,allR,hR,Bool.true_and];exact ih
  | false=>simp[allR,hR]
theorem mY0 {α β:Type}{R:α→β→Bool}:∀ {l:List α}{m:List β},allR R l m=true→l.length=m.length
 | [],[],_=>rfl
 | _::l,_::m,h=>by simp only[allR,Bool.and_eq_true]at h;simp[mY0 h.2]
 | [],_::_,h=>by cases h
 | _::_,[],h=>by cases h
theorem oQ0 {α β:Type} (R:α→β→Bool)(l:List α)(m:List β)(h:l.length=m.length):(match eG0 (lD0 R m) 0 l with | some _=>some (Out.ret [bV false] []) | none=>some (.ret [bV true] []))=some (.ret [bV (allR R l m)] []):=by
 have:=aN1 R l [] m h
 simp only[List.nil_append,List.length_nil]at this
 rw[← this]
 cases eG0 (lD0 R m) 0 l <;> rfl
def eqLV (x y:LV):Bool:=(x.v==y.v)&&(x.p==y.p)
def iG0 (x y:Lev):Bool:=(x.c==y.c)&&allR eqLV x.vs y.vs
theorem mV1 : yO0 prog 110=true:=by kernel_rfl
theorem vX0 (op:BinOp)(a b c d:Int):oY0 prog op 110 [.d (.v (.int .i64 a)),.d (.v (.int .i64 b))] [.d (.v (.int .i64 c)),.d (.v (.int .i64 d))]=nilEq op ((a==c)&&(b==d)):=by
 unfold oY0
 rw[if_pos mV1,Tryz.underlying110]
 simp[eqFs,und_3]
def E43 (k:Int):Env:=[(2,.c (.ptr 0 0)),(3,.c (.ptr 1 0)),(5,iV k)]
def O43 (x y:Lev):List O:=[.box (levC x),.box (levC y)]
theorem eq43 (hx:ext 43=none)(x y:Lev)(hs:x.vs.length<2^50):run prog ext (.call 43 [levV x,levV y] [])=some (.ret [bV (iG0 x y)] []):=by
 unfold iG0
 by_cases h1:x.c=y.c
 case neg=>
  have e:(x.c==y.c)=false:=by simpa using h1
  rw[e,Bool.false_and]
  (rw[enT hx func43 rfl];simp only[f43,zR,Nat.zero_le,simprocAttr,zE])
  simp only[levV,levC,bV]
  simp only[zS,zD,aB0,aA0,zT36,zT34,zT3,cY0,h1,simprocAttr]
  (refine .trans ?_ rfl;kernel_rfl)
 by_cases h2:(x.vs.length:Int)=y.vs.length
 case neg=>
  have e:allR eqLV x.vs y.vs=false:=by
   cases hh:allR eqLV x.vs y.vs with
   | false=>rfl
   | true=>have:=mY0 hh;omega
  rw[e,Bool.and_false]
  (rw[enT hx func43 rfl];simp only[f43,zR,Nat.zero_le,simprocAttr,zE])
  simp only[levV,levC,bV]
  simp only[zS,zD,aB0,aA0,zT36,zT34,zT3,cY0,h1,h2,simprocAttr]
  (refine .trans ?_ rfl;kernel_rfl)
 have e:(x.c==y.c)=true:=by simpa using h1
 rw[e,Bool.true_and]
 have he:∀ out,H43a ext 0 (E43 0) (O43 x y)=out→run prog ext (.call 43 [levV x,levV y] [])=out:=by
  intro out h
  unfold H43a at h
  (rw[enT hx func43 rfl];simp only[f43,zR,Nat.zero_le,simprocAttr,zE])
  simp only[levV,levC,iV,E43,O43,h1]at h ⊢
  simp only[zS,zD,aB0,aA0,zT36,zT34,zT3,cY0,h2,simprocAttr]
  (refine(aC0 ?_).trans h;kernel_rfl)
 refine he _ ?_
 have:=jK0 x.vs (fun k=>H43a ext 0 (E43 k) (O43 x y)) (lD0 eqLV y.vs) (fun _=>some (.ret [bV false] [])) (some (.ret [bV true] [])) (by omega) (fun k a hk hl=>by
   have h0:(0:Int)≤k:=by omega
   have hl2:(k:Int)<y.vs.length:=by omega
   have hlt:k<y.vs.length:=by omega
   have hb:y.vs[k]? = some y.vs[k]:=by simp[hlt]
   generalize y.vs[k]=b at hb
   have hd:x.d = .s 2 (x.vs.map lvD) x.z.g:=aP0 h0 (by simpa using hl)
   have hd2:y.d = .s 2 (y.vs.map lvD) y.z.g:=aP0 h0 (by simpa using hl2)
   have hpp:lD0 eqLV y.vs k a = !eqLV a b:=by unfold lD0;rw[hb]
   unfold H43a
   rw[hpp]
   refine⟨fun hp=> ?_,fun hp out h=> ?_⟩
   ·have hp':eqLV a b=false:=by simpa using hp
    unfold eqLV at hp'
    simp only[levC,iV,bV,E43,O43,hd,hd2]
    (rw[sN1];simp only[B43,K43a,sub,f43,↓reduceIte,zG])
    simp only[zS,zD,aB0,aA0,zT36,zT34,aR0,zT3,bD0,aH0,aI0,Array.size,List.length,h0,hl,hl2,Int.toNat_natCast,hk,hb,lvD,vX0,hp',simprocAttr]
    rw[aE0 _ _ _ _ (by kernel_rfl)]
    simp only[zS,zD,aB0,aA0,simprocAttr]
    (refine .trans ?_ rfl;kernel_rfl)
   ·have hp':eqLV a b=true:=by simpa using hp
    unfold eqLV at hp'
    simp only[levC,iV,bV,E43,O43,hd,hd2]at h ⊢
    (rw[sN1];simp only[B43,K43a,sub,f43,↓reduceIte,zG])
    simp only[zS,zD,aB0,aA0,zT36,zT34,aR0,zT3,bD0,aH0,aI0,Array.size,List.length,h0,hl,hl2,Int.toNat_natCast,hk,hb,lvD,vX0,hp',simprocAttr]
    rw[aE0 _ _ _ _ (by kernel_rfl)]
    simp only[zS,zD,aB0,aA0,simprocAttr]
    (refine(aC0 ?_).trans h;kernel_rfl)) (by
   unfold H43a
   simp only[levC,iV,bV,E43,O43]
   (rw[sN1];simp only[B43,K43a,sub,f43,↓reduceIte,zG])
   simp only[zS,zD,aB0,aA0,zT36,zT34,zT3,cY0,Int.lt_irrefl,simprocAttr]
   (refine .trans ?_ rfl;kernel_rfl))
 rw[this]
 exact oQ0 eqLV x.vs y.vs (by omega)
def E82 (a b:D)(k:Int):Env:=[(0,dV a),(1,dV b),(5,iV k)]
theorem eq82 (hx:ext 82=none)(h43:ext 43=none)(z z':Fl)(l m:List Lev)(hs:l.length<2^50)(hs2:∀ x∈l,x.vs.length<2^50):run prog ext (.call 82 [dV (listD z 2 (l.map levD)),dV (listD z' 2 (m.map levD))] [])=some (.ret [bV (allR iG0 l m)] []):=by
 by_cases h2:(l.length:Int)=m.length
 case neg=>
  have e:allR iG0 l m=false:=by
   cases hh:allR iG0 l m with
   | false=>rfl
   | true=>have:=mY0 hh;omega
  rw[e]
  (rw[enT hx func82 rfl];simp only[f82,zR,Nat.zero_le,simprocAttr,zE])
  simp only[dV,bV]
  simp only[zS,zD,aB0,aA0,zT30,zT3,h2,simprocAttr]
  (refine .trans ?_ rfl;kernel_rfl)
 have he:∀ out,H82a ext 0 (E82 (listD z 2 (l.map levD)) (listD z' 2 (m.map levD)) 0) []=out→run prog ext (.call 82 [dV (listD z 2 (l.map levD)),dV (listD z' 2 (m.map levD))] [])=out:=by
  intro out h
  unfold H82a at h
  (rw[enT hx func82 rfl];simp only[f82,zR,Nat.zero_le,simprocAttr,zE])
  simp only[dV,iV,E82]at h ⊢
  simp only[zS,zD,aB0,aA0,zT30,zT3,h2,simprocAttr]
  (refine(aC0 ?_).trans h;kernel_rfl)
 refine he _ ?_
 have:=jK0 l (fun k=>H82a ext 0 (E82 (listD z 2 (l.map levD)) (listD z' 2 (m.map levD)) k) []) (lD0 iG0 m) (fun _=>some (.ret [bV false] [])) (some (.ret [bV true] [])) (by omega) (fun k a hk hl=>by
   have h0:(0:Int)≤k:=by omega
   have hl2:(k:Int)<m.length:=by omega
   have hlt:k<m.length:=by omega
   have hb:m[k]? = some m[k]:=by simp[hlt]
   generalize m[k]=b at hb
   have hd:listD z 2 (l.map levD) = .s 2 (l.map levD) z.g:=aP0 h0 (by simpa using hl)
   have hd2:listD z' 2 (m.map levD) = .s 2 (m.map levD) z'.g:=aP0 h0 (by simpa using hl2)
   have hpp:lD0 iG0 m k a = !iG0 a b:=by unfold lD0;rw[hb]
   have hr:=eq43 ext h43 a b (hs2 a (List.mem_of_getElem? hk))
   unfold H82a
   rw[hpp]
   refine⟨fun hp=> ?_,fun hp out h=> ?_⟩
   ·have hp':iG0 a b=false:=by simpa using hp
    rw[hp']at hr
    simp only[levV,levC,dV,iV,bV,E82,hd,hd2]at hr ⊢
    (rw[sT1];simp only[B82,K82a,sub,f82,↓reduceIte,zG])
    simp only[zS,zD,aB0,aA0,zT36,zT30,zT3,bD0,aH0,aI0,Array.size,List.length,h0,hl,hl2,Int.toNat_natCast,hk,hb,levD,hr,simprocAttr]
    rw[aE0 _ _ _ _ (by kernel_rfl)]
    simp only[zS,zD,aB0,aA0,simprocAttr]
    (refine .trans ?_ rfl;kernel_rfl)
   ·have hp':iG0 a b=true:=by simpa using hp
    rw[hp']at hr
    simp only[levV,levC,dV,iV,bV,E82,hd,hd2]at hr h ⊢
    (rw[sT1];simp only[B82,K82a,sub,f82,↓reduceIte,zG])
    simp only[zS,zD,aB0,aA0,zT36,zT30,zT3,bD0,aH0,aI0,Array.size,List.length,h0,hl,hl2,Int.toNat_natCast,hk,hb,levD,hr,simprocAttr]
    rw[aE0 _ _ _ _ (by kernel_rfl)]
    simp only[zS,zD,aB0,aA0,simprocAttr]
    (refine(aC0 ?_).trans h;kernel_rfl)) (by
   unfold H82a
   simp only[dV,iV,bV,E82]
   (rw[sT1];simp only[B82,K82a,sub,f82,↓reduceIte,zG])
   simp only[zS,zD,aB0,aA0,zT30,zT3,Int.lt_irrefl,simprocAttr]
   (refine .trans ?_ rfl;kernel_rfl))
 rw[this]
 exact oQ0 iG0 l m (by omega)
def eqTm : Tm→Tm→Bool
 | .mk op n s u _ l _,b=>(op==b.op)&&((n==b.n)&&((s.toList==b.s.toList)&&(allR iG0 u b.u&&eqTms l b.l)))
where eqTms:List Tm→List Tm→Bool
 | [],[]=>true
 | x::l,y::m=>eqTm x y&&eqTms l m
 | _,_=>false
theorem zX0 : ∀ (l m:List Tm),eqTm.eqTms l m=allR eqTm l m
 | [],[]=>rfl
 | _::l,_::m=>by simp only[eqTm.eqTms,allR,zX0 l m]
 | [],_::_=>rfl
 | _::_,[]=>rfl
theorem gM1 (a b:Tm):eqTm a b=((a.op==b.op)&&((a.n==b.n)&&((a.s.toList==b.s.toList)&&(allR iG0 a.u b.u&&allR eqTm a.l b.l)))):=by
 cases a;simp only[eqTm,zX0,Tm.op,Tm.n,Tm.s,Tm.u,Tm.l]
theorem eq52 (hx:ext 52=none)(l m:List Tm)(z z':Fl)(hs:l.length<2^50)(hr':∀ x∈l,∀ y,run prog ext (.call 36 [tmV x,tmV y] [])=some (.ret [bV (eqTm x y)] [])):run prog ext (.call 52 [dV (listD z 5 (l.map tmD)),dV (listD z' 5 (m.map tmD))] [])=some (.ret [bV (allR eqTm l m)] []):=by
 by_cases h2:(l.length:Int)=m.length
 case neg=>
  have e:allR eqTm l m=false:=by
   cases hh:allR eqTm l m with
   | false=>rfl
   | true=>have:=mY0 hh;omega
  rw[e]
  (rw[enT hx func52 rfl];simp only[f52,zR,Nat.zero_le,simprocAttr,zE])
  simp only[dV,bV]
  simp only[zS,zD,aB0,aA0,zT31,zT3,h2,simprocAttr]
  (refine .trans ?_ rfl;kernel_rfl)
 have he:∀ out,H52a ext 0 (E82 (listD z 5 (l.map tmD)) (listD z' 5 (m.map tmD)) 0) []=out→run prog ext (.call 52 [dV (listD z 5 (l.map tmD)),dV (listD z' 5 (m.map tmD))] [])=out:=by
  intro out h
  unfold H52a at h
  (rw[enT hx func52 rfl];simp only[f52,zR,Nat.zero_le,simprocAttr,zE])
  simp only[dV,iV,E82]at h ⊢
  simp only[zS,zD,aB0,aA0,zT31,zT3,h2,simprocAttr]
  (refine(aC0 ?_).trans h;kernel_rfl)
 refine he _ ?_
 have:=jK0 l (fun k=>H52a ext 0 (E82 (listD z 5 (l.map tmD)) (listD z' 5 (m.map tmD)) k) []) (lD0 eqTm m) (fun _=>some (.ret [bV false] [])) (some (.ret [bV true] [])) (by omega) (fun k a hk hl=>by
   have h0:(0:Int)≤k:=by omega
   have hl2:(k:Int)<m.length:=by omega
   have hlt:k<m.length:=by omega
   have hb:m[k]? = some m[k]:=by simp[hlt]
   generalize m[k]=b at hb
   have hd:listD z 5 (l.map tmD) = .s 5 (l.map tmD) z.g:=aP0 h0 (by simpa using hl)
   have hd2:listD z' 5 (m.map tmD) = .s 5 (m.map tmD) z'.g:=aP0 h0 (by simpa using hl2)
   have hpp:lD0 eqTm m k a = !eqTm a b:=by unfold lD0;rw[hb]
   have hr:=hr' a (List.mem_of_getElem? hk) b
   unfold H52a
   rw[hpp]
   refine⟨fun hp=> ?_,fun hp out h=> ?_⟩
   ·have hp':eqTm a b=false:=by simpa using hp
    rw[hp']at hr
    simp only[tmV,tmC,dV,iV,bV,E82,hd,hd2]at hr ⊢
    (rw[sP1];simp only[B52,K52a,sub,f52,↓reduceIte,zG])
    simp only[zS,zD,aB0,aA0,zT33,zT31,zT3,bD0,aH0,aI0,Array.size,List.length,h0,hl,hl2,Int.toNat_natCast,hk,hb,aX0 a,aX0 b,hr,simprocAttr]
    rw[aE0 _ _ _ _ (by kernel_rfl)]
    simp only[zS,zD,aB0,aA0,simprocAttr]
    (refine .trans ?_ rfl;kernel_rfl)
   ·have hp':eqTm a b=true:=by simpa using hp
    rw[hp']at hr
    simp only[tmV,tmC,dV,iV,bV,E82,hd,hd2]at hr h ⊢
    (rw[sP1];simp only[B52,K52a,sub,f52,↓reduceIte,zG])
    simp only[zS,zD,aB0,aA0,zT33,zT31,zT3,bD0,aH0,aI0,Array.size,List.length,h0,hl,hl2,Int.toNat_natCast,hk,hb,aX0 a,aX0 b,hr,simprocAttr]
    rw[aE0 _ _ _ _ (by kernel_rfl)]
    simp only[zS,zD,aB0,aA0,simprocAttr]
    (refine(aC0 ?_).trans h;kernel_rfl)) (by
   unfold H52a
   simp only[dV,iV,bV,E82]
   (rw[sP1];simp only[B52,K52a,sub,f52,↓reduceIte,zG])
   simp only[zS,zD,aB0,aA0,zT31,zT3,Int.lt_irrefl,simprocAttr]
   (refine .trans ?_ rfl;kernel_rfl))
 rw[this]
 exact oQ0 eqTm l m (by omega)
theorem eq36 (hx:ext 36=none)(h43:ext 43=none)(h82:ext 82=none)(h52:ext 52=none):∀ (N:Nat)(a b:Tm),a.sz≤N→N<2^50→run prog ext (.call 36 [tmV a,tmV b] [])=some (.ret [bV (eqTm a b)] [])
 | 0,a,b,h,_=>by have:=a.sz_pos;omega
 | N+1,a,b,h,hN=>by
  have hul:=a.ulen_lt
  have hll:=a.len_lt
  have r82:=eq82 ext h82 h43 a.zu b.zu a.u b.u (by omega) (fun x hx=>by have:=Tm.lev_lt hx;unfold Lev.sz at this;omega)
  have r52:=eq52 ext h52 a.l b.l a.zl b.zl (by omega) (fun x hm y=>eq36 hx h43 h82 h52 N x y (by have:=Tm.sz_lt hm;omega) (by omega))
  rw[gM1]
  have ea:listD a.zu 2 (a.u.map levD)=a.uD:=id rfl
  have eb:listD b.zu 2 (b.u.map levD)=b.uD:=id rfl
  have ec:listD a.zl 5 (a.l.map tmD)=a.lD:=id rfl
  have ed:listD b.zl 5 (b.l.map tmD)=b.lD:=id rfl
  simp only[ea,eb,dV]at r82
  simp only[ec,ed,dV]at r52
  cases c1:(a.op==b.op) with
  | false=>
   rw[Bool.false_and]
   (rw[enT hx func36 rfl];simp only[f36,zR,Nat.zero_le,simprocAttr,zE])
   simp only[tmV,tmC,bV]
   simp only[zS,zD,aB0,aA0,zT33,zT9,zT3,c1,simprocAttr]
   (refine .trans ?_ rfl;kernel_rfl)
  | true=>
  rw[Bool.true_and]
  cases c2:(a.n==b.n) with
  | false=>
   rw[Bool.false_and]
   (rw[enT hx func36 rfl];simp only[f36,zR,Nat.zero_le,simprocAttr,zE])
   simp only[tmV,tmC,bV]
   simp only[zS,zD,aB0,aA0,zT33,zT9,zT3,c1,c2,simprocAttr]
   (refine .trans ?_ rfl;kernel_rfl)
  | true=>
  rw[Bool.true_and]
  cases c3:(a.s.toList==b.s.toList) with
  | false=>
   rw[Bool.false_and]
   (rw[enT hx func36 rfl];simp only[f36,zR,Nat.zero_le,simprocAttr,zE])
   simp only[tmV,tmC,bV]
   simp only[zS,zD,aB0,aA0,zT33,zT9,zT3,c1,c2,c3,simprocAttr]
   (refine .trans ?_ rfl;kernel_rfl)
  | true=>
  rw[Bool.true_and]
  cases c4:allR iG0 a.u b.u with
  | false=>
   rw[Bool.false_and]
   rw[c4]at r82
   (rw[enT hx func36 rfl];simp only[f36,zR,Nat.zero_le,simprocAttr,zE])
   simp only[tmV,tmC,bV]at r82 ⊢
   simp only[zS,zD,aB0,aA0,zT33,zT9,zT30,zT3,c1,c2,c3,r82,simprocAttr]
   (refine .trans ?_ rfl;kernel_rfl)
  | true=>
  rw[Bool.true_and]
  rw[c4]at r82
  (rw[enT hx func36 rfl];simp only[f36,zR,Nat.zero_le,simprocAttr,zE])
  simp only[tmV,tmC,bV]at r82 r52 ⊢
  simp only[zS,zD,aB0,aA0,zT33,zT9,zT30,zT31,zT3,c1,c2,c3,r82,r52,simprocAttr]
  (refine .trans ?_ rfl;kernel_rfl)
end
section
open Go
variable (ext:Ext)
noncomputable def B79 : Code:=(f79.body.getD .skip)
noncomputable def L79a : Code:=sub B79 [1,1,0,1,0,0]
theorem cN1 : It.code L79a=It.code (sub B79 [1,1,0,1,0,0]):=rfl
noncomputable def K79a : List It:=[.inBlock 0,.code (sub B79 [1,1,1])]
noncomputable def H79a (ext:Ext)(m:Nat)(env:Env)(loc:List O):Option Out:=run prog ext (.k ⟨65,m,[.cell 4 33,.tmp 5],false⟩ (.code L79a :: .inLoop L79a::K79a) env loc)
noncomputable def L79b : Code:=sub B79 [1,1,1,1,0,1,0,0]
theorem cO1 : It.code L79b=It.code (sub B79 [1,1,1,1,0,1,0,0]):=rfl
noncomputable def K79b : List It:=[.inBlock 2,.code (sub B79 [1,1,1,1,1])]
noncomputable def H79b (ext:Ext)(m:Nat)(env:Env)(loc:List O):Option Out:=run prog ext (.k ⟨65,m,[.cell 4 33,.tmp 5],false⟩ (.code L79b :: .inLoop L79b::K79b) env loc)
def zTm : Tm:= .mk 0 0 ⟨#[]⟩ [] true [] true
theorem dA0 : tmC zTm=[.d (.v (.int .i64 0)),.d (.v (.int .i64 0)),.d (.v (.string ⟨#[]⟩)),.d (.v (.slice none 0 0)),.d (.v (.slice none 0 0))]:=rfl
theorem gG0 (x:Lev):levD x=[.v (.int .i64 x.c),x.d]:=rfl
theorem kQ1 {look:Look}{slot:Nat}{a:Int}{x:D}:aS0 prog look slot 30 1 [(0,.agg [.d (.v (.int .i64 a)),.d x])]=some ⟨.val (.c (.own slot)),[(slot,.arr 2 [[.v (.int .i64 a),x]])],[]⟩:=
 eK1 (cs:=[.d (.v (.int .i64 a)),.d x]) jI0 lI0 i30 rfl rfl rfl (by decide) (by decide)
theorem bsTm {look:Look}{slot:Nat}{a b:Int}{s:ByteArray}{x y:D}:aS0 prog look slot 31 1 [(0,.agg [.d (.v (.int .i64 a)),.d (.v (.int .i64 b)),.d (.v (.string s)),.d x,.d y])]=some ⟨.val (.c (.own slot)),[(slot,.arr 5 [[.v (.int .i64 a),.v (.int .i64 b),.v (.string s),x,y]])],[]⟩:=
 eK1 (cs:=[.d (.v (.int .i64 a)),.d (.v (.int .i64 b)),.d (.v (.string s)),.d x,.d y]) kW0 lH0 i31 rfl rfl rfl (by decide) (by decide)
theorem dF0 (slot:Nat)(cs:List C)(n:Int)(h:cs.all lW0=true):bB0 [] [] slot (some (.ret [.agg cs,.c (.d (.v (.int .i64 n)))] []))=some ⟨.val (.tup [(true,cs),(false,[.d (.v (.int .i64 n))])]),[],[]⟩:=by
 obtain⟨_,_,h3⟩:=eX0 (look:=fun _=>none) h
 simp only[bB0,cK0,mapO,renV,h3,renC,bK0,comp,List.length_nil,Nat.lt_irrefl,if_false]
 split <;> rfl
def mapE {α β:Type} (f:α→β × Int):List α→List β ⊕ Int
 | []=> .inl []
 | x::l=>if(f x).2=0 then match mapE f l with | .inl r=> .inl ((f x).1::r) | .inr e=> .inr e else .inr (f x).2
def setL (f:Lev→Lev × Int):Tm→Tm × Int
 | .mk op n s u _ l _=>match mapE f u with
  | .inr e=>(zTm,e)
  | .inl u'=>match setLs f l with
   | .inr e=>(zTm,e)
   | .inl l'=>(.mk op n s u' true l' true,0)
where setLs (f:Lev→Lev × Int):List Tm→List Tm ⊕ Int
 | []=> .inl []
 | x::l=>if(setL f x).2=0 then match setLs f l with | .inl r=> .inl ((setL f x).1::r) | .inr e=> .inr e else .inr (setL f x).2
theorem aY1 (f:Lev→Lev × Int):∀ l:List Tm,setL.setLs f l=mapE (setL f) l
 | []=>rfl
 | x::l=>by
  rw[setL.setLs,mapE,aY1 f l]
  by_cases h:(setL f x).2=0
  ·rw[if_pos h,if_pos h];cases mapE (setL f) l <;> rfl
  ·rw[if_neg h,if_neg h]
theorem yU0 (f:Lev→Lev × Int)(x:Tm):setL f x=match mapE f x.u with
  | .inr e=>(zTm,e)
  | .inl u'=>match mapE (setL f) x.l with
   | .inr e=>(zTm,e)
   | .inl l'=>(.mk x.op x.n x.s u' true l' true,0):=by
 cases x;simp only[setL,aY1,Tm.op,Tm.n,Tm.s,Tm.u,Tm.l]
theorem gH0 {α β:Type} (f:α→β × Int)(l:List α)(S:Int→List β→Option Out)(bad:Int→Option Out)(fin:List β→Option Out)(hl:l.length<2^50)
  (hstep:∀ (k:Nat) (x:α) (els:List β),l[k]? = some x→(k:Int)<l.length→els.length=k→((f x).2=0→∀ out,S (wr ((k:Int)+1)) (els++[(f x).1])=out→S k els=out)∧(¬ (f x).2=0→S k els=bad (f x).2))
  (hdone:∀ els,els.length=l.length→S l.length els=fin els):S 0 []=match mapE f l with | .inl r=>fin r | .inr e=>bad e:=by
 have key:∀ (m k:Nat) (els:List β),k+m=l.length→els.length=k→S k els=match mapE f (l.drop k) with | .inl r=>fin (els++r) | .inr e=>bad e:=by
  intro m
  induction m with
  | zero=>
   intro k els hk he
   rw[List.drop_eq_nil_of_le (by omega),show k=l.length by omega]
   simp only[mapE,List.append_nil]
   exact hdone els (by omega)
  | succ m ih=>
   intro k els hk he
   have hlt:k<l.length:=by omega
   rw[List.drop_eq_getElem_cons hlt,mapE]
   obtain⟨h1,h2⟩:=hstep k l[k] els (by simp[hlt]) (by omega) he
   by_cases h0:(f l[k]).2=0
   ·rw[if_pos h0]
    refine h1 h0 _ ?_
    rw[hK0 (by omega) (by omega),show((k:Int)+1)=((k+1:Nat):Int) by omega,ih (k+1) _ (by omega) (by simp[he])]
    cases mapE f (l.drop (k+1)) with
    | inl r=>simp
    | inr e=>rfl
   ·rw[if_neg h0];exact h2 h0
 simpa using key l.length 0 [] (by omega) rfl
def E79a (b:D)(x:Tm)(us:List Lev)(k:Int):Env:=[(1,dV b),(2,.c (.ptr 0 0)),(4,.c (.ptr 1 0)),(6,mkV 2 (us.map levD)),(17,dV x.uD),(18,iV x.u.length),(19,iV k)]
def O79a (x:Tm)(us:List Lev):List O:= .box (tmC x) :: .box (tmC zTm)::mkO 2 (us.map levD)
theorem sA1 (hx:ext 79=none)(b:D)(x:Tm)(out:Option Out)(h:H79a ext 0 (E79a b x [] 0) (O79a x [])=out):run prog ext (.call 79 [tmV x,dV b] [])=out:=by
 unfold H79a at h
 (rw[enT hx func79 rfl];simp only[f79,zR,Nat.zero_le,simprocAttr,zE])
 simp only[tmV,dA0,tmC,dV,iV,E79a,O79a,List.map_nil,bZ0,bT0]at h ⊢
 simp only[zS,zD,aB0,aA0,zT33,zT30,zT3,yG0,simprocAttr]
 (refine(aC0 ?_).trans h;kernel_rfl)
theorem vN1 (b:D)(x:Tm)(u y:Lev)(us:List Lev)(k:Nat)(hb:us.length<2^29)(hk:x.u[k]? = some u)(hl:(k:Int)<x.u.length)(hr:run prog ext (.call 84 [levV u,dV b] [])=some (.ret [levV y,iV 0] []))(out:Option Out)
  (h:H79a ext 0 (E79a b x (us++[y]) (wr ((k:Int)+1))) (O79a x (us++[y]))=out):H79a ext 0 (E79a b x us k) (O79a x us)=out:=by
 have h0:(0:Int)≤k:=by omega
 unfold H79a at h ⊢
 cases us with
 | nil=>
  simp only[levV,levC,dA0,tmC,dV,iV,E79a,O79a,jL1 hl,List.map_append,List.map_cons,List.map_nil,dC0,cP0,bZ0,bT0,List.nil_append,gG0 y]at h hr ⊢
  (rw[cN1];simp only[B79,K79a,sub,f79,↓reduceIte,zG])
  simp only[zS,zD,aB0,aA0,zT33,zT36,zT30,zT3,h0,hl,Int.toNat_natCast,hk,gG0 u,hr,dF0,kQ1,no30,iK0,Nat.zero_le,simprocAttr]
  (refine(aC0 ?_).trans h;kernel_rfl)
 | cons a r=>
  have hb':r.length+1≤1000000000:=by simp only[List.length_cons]at hb;omega
  simp only[levV,levC,dA0,tmC,dV,iV,E79a,O79a,jL1 hl,List.map_append,List.map_cons,List.map_nil,dC0,cP0,cC0,bS0,List.cons_append,List.nil_append,gG0 y]at h hr ⊢
  (rw[cN1];simp only[B79,K79a,sub,f79,↓reduceIte,zG])
  simp only[zS,zD,aB0,aA0,zT33,zT36,zT30,zT3,h0,hl,Int.toNat_natCast,hk,gG0 u,hr,dF0,kQ1,oo30,gD0,hb',simprocAttr]
  (refine(aC0 ?_).trans h;kernel_rfl)
theorem bad79a (b:D)(x:Tm)(u y:Lev)(us:List Lev)(e:Int)(k:Nat)(hk:x.u[k]? = some u)(hl:(k:Int)<x.u.length)(hr:run prog ext (.call 84 [levV u,dV b] [])=some (.ret [levV y,iV e] []))(he:¬ e=0):H79a ext 0 (E79a b x us k) (O79a x us)=some (.ret [tmV zTm,iV e] []):=by
 have h0:(0:Int)≤k:=by omega
 unfold H79a
 cases us with
 | nil=>
  simp only[levV,levC,tmV,dA0,tmC,dV,iV,E79a,O79a,jL1 hl,List.map_nil,bZ0,bT0]at hr ⊢
  (rw[cN1];simp only[B79,K79a,sub,f79,↓reduceIte,zG])
  simp only[zS,zD,aB0,aA0,zT33,zT36,zT30,zT3,zT27,h0,hl,Int.toNat_natCast,hk,gG0 u,hr,dF0,he,simprocAttr]
  (refine .trans ?_ rfl;kernel_rfl)
 | cons a r=>
  simp only[levV,levC,tmV,dA0,tmC,dV,iV,E79a,O79a,jL1 hl,List.map_cons,cC0,bS0]at hr ⊢
  (rw[cN1];simp only[B79,K79a,sub,f79,↓reduceIte,zG])
  simp only[zS,zD,aB0,aA0,zT33,zT36,zT30,zT3,zT27,h0,hl,Int.toNat_natCast,hk,gG0 u,hr,dF0,he,simprocAttr]
  (refine .trans ?_ rfl;kernel_rfl)
def ixU (us:List Lev):Nat:=match us with | []=>2 | _::_=>3
def E79b (b:D)(x:Tm)(us:List Lev)(ls:List Tm)(k:Int):Env:=[(1,dV b),(2,.c (.ptr 0 0)),(4,.c (.ptr 1 0)),(6,mkV 2 (us.map levD)),(11,mkV (ixU us) (ls.map tmD)),(39,dV x.lD),(40,iV x.l.length),(41,iV k)]
def O79b (x:Tm)(us:List Lev)(ls:List Tm):List O:= .box (tmC x) :: .box (tmC zTm)::(mkO 2 (us.map levD)++mkO 5 (ls.map tmD))
theorem mid79 (b:D)(x:Tm)(us:List Lev)(out:Option Out)(h:H79b ext 0 (E79b b x us [] 0) (O79b x us [])=out):H79a ext 0 (E79a b x us x.u.length) (O79a x us)=out:=by
 unfold H79b at h
 unfold H79a
 cases us with
 | nil=>
  simp only[dA0,tmC,dV,iV,E79a,O79a,E79b,O79b,ixU,List.map_nil,bZ0,bT0,List.append_nil]at h ⊢
  (rw[cN1];simp only[B79,K79a,sub,f79,↓reduceIte,zG])
  simp only[zS,zD,aB0,aA0,zT33,zT31,zT3,bJ0,Int.lt_irrefl,simprocAttr]
  (refine(aC0 ?_).trans h;kernel_rfl)
 | cons a r=>
  simp only[dA0,tmC,dV,iV,E79a,O79a,E79b,O79b,ixU,List.map_nil,List.map_cons,bZ0,bT0,cC0,bS0,List.append_nil]at h ⊢
  (rw[cN1];simp only[B79,K79a,sub,f79,↓reduceIte,zG])
  simp only[zS,zD,aB0,aA0,zT33,zT31,zT3,bJ0,Int.lt_irrefl,simprocAttr]
  (refine(aC0 ?_).trans h;kernel_rfl)
theorem vO1 (b:D)(x t y:Tm)(us:List Lev)(ls:List Tm)(k:Nat)(hb:ls.length<2^29)(hk:x.l[k]? = some t)(hl:(k:Int)<x.l.length)(hr:run prog ext (.call 79 [tmV t,dV b] [])=some (.ret [tmV y,iV 0] []))(out:Option Out)
  (h:H79b ext 0 (E79b b x us (ls++[y]) (wr ((k:Int)+1))) (O79b x us (ls++[y]))=out):H79b ext 0 (E79b b x us ls k) (O79b x us ls)=out:=by
 have h0:(0:Int)≤k:=by omega
 unfold H79b at h ⊢
 cases us with
 | nil=>
  cases ls with
  | nil=>
   simp only[tmV,dA0,tmC,dV,iV,E79b,O79b,ixU,mV0 hl,List.map_append,List.map_cons,List.map_nil,dC0,cP0,bZ0,bT0,List.nil_append,aX0 y]at h hr ⊢
   (rw[cO1];simp only[B79,K79b,sub,f79,↓reduceIte,zG])
   simp only[zS,zD,aB0,aA0,zT33,zT31,zT3,h0,hl,Int.toNat_natCast,hk,aX0 t,hr,dF0,bsTm,no31,iK0,Nat.zero_le,simprocAttr]
   (refine(aC0 ?_).trans h;kernel_rfl)
  | cons a r=>
   have hb':r.length+1≤1000000000:=by simp only[List.length_cons]at hb;omega
   simp only[tmV,dA0,tmC,dV,iV,E79b,O79b,ixU,mV0 hl,List.map_append,List.map_cons,List.map_nil,dC0,cP0,bZ0,bT0,cC0,bS0,List.cons_append,List.nil_append,aX0 y]at h hr ⊢
   (rw[cO1];simp only[B79,K79b,sub,f79,↓reduceIte,zG])
   simp only[zS,zD,aB0,aA0,zT33,zT31,zT3,h0,hl,Int.toNat_natCast,hk,aX0 t,hr,dF0,bsTm,oo31,gD0,hb',simprocAttr]
   (refine(aC0 ?_).trans h;kernel_rfl)
 | cons c us=>
  cases ls with
  | nil=>
   simp only[tmV,dA0,tmC,dV,iV,E79b,O79b,ixU,mV0 hl,List.map_append,List.map_cons,List.map_nil,dC0,cP0,bZ0,bT0,cC0,bS0,List.cons_append,List.nil_append,aX0 y]at h hr ⊢
   (rw[cO1];simp only[B79,K79b,sub,f79,↓reduceIte,zG])
   simp only[zS,zD,aB0,aA0,zT33,zT31,zT3,h0,hl,Int.toNat_natCast,hk,aX0 t,hr,dF0,bsTm,no31,iK0,Nat.zero_le,simprocAttr]
   (refine(aC0 ?_).trans h;kernel_rfl)
  | cons a r=>
   have hb':r.length+1≤1000000000:=by simp only[List.length_cons]at hb;omega
   simp only[tmV,dA0,tmC,dV,iV,E79b,O79b,ixU,mV0 hl,List.map_append,List.map_cons,List.map_nil,dC0,cP0,cC0,bS0,List.cons_append,List.nil_append,aX0 y]at h hr ⊢
   (rw[cO1];simp only[B79,K79b,sub,f79,↓reduceIte,zG])
   simp only[zS,zD,aB0,aA0,zT33,zT31,zT3,h0,hl,Int.toNat_natCast,hk,aX0 t,hr,dF0,bsTm,oo31,gD0,hb',simprocAttr]
   (refine(aC0 ?_).trans h;kernel_rfl)
theorem bad79b (b:D)(x t y:Tm)(us:List Lev)(ls:List Tm)(e:Int)(k:Nat)(hk:x.l[k]? = some t)(hl:(k:Int)<x.l.length)(hr:run prog ext (.call 79 [tmV t,dV b] [])=some (.ret [tmV y,iV e] []))(he:¬ e=0):H79b ext 0 (E79b b x us ls k) (O79b x us ls)=some (.ret [tmV zTm,iV e] []):=by
 have h0:(0:Int)≤k:=by omega
 unfold H79b
 cases us <;> cases ls
 all_goals
  simp only[tmV,dA0,tmC,dV,iV,E79b,O79b,ixU,mV0 hl,List.map_cons,List.map_nil,bZ0,bT0,cC0,bS0,List.cons_append,List.nil_append]at hr ⊢
  (rw[cO1];simp only[B79,K79b,sub,f79,↓reduceIte,zG])
  simp only[zS,zD,aB0,aA0,zT33,zT31,zT3,zT27,h0,hl,Int.toNat_natCast,hk,aX0 t,hr,dF0,he,simprocAttr]
  (refine .trans ?_ rfl;kernel_rfl)
theorem rU1 (b:D)(x:Tm)(us:List Lev)(ls:List Tm):H79b ext 0 (E79b b x us ls x.l.length) (O79b x us ls)=some (.ret [tmV (.mk x.op x.n x.s us true ls true),iV 0] []):=by
 unfold H79b
 cases us <;> cases ls
 all_goals
  simp only[tmV,dA0,tmC,dV,iV,E79b,O79b,ixU,Tm.op,Tm.n,Tm.s,Tm.uD,Tm.lD,Tm.u,Tm.zu,Tm.l,Tm.zl,List.map_cons,List.map_nil,bZ0,bT0,cC0,bS0,List.cons_append,List.nil_append]
  (rw[cO1];simp only[B79,K79b,sub,f79,↓reduceIte,zG])
  simp only[zS,zD,aB0,aA0,zT33,zT31,zT30,zT3,Int.lt_irrefl,simprocAttr]
  (refine .trans ?_ rfl;kernel_rfl)
end
section
open Go
variable (ext:Ext)
def mkC (i:Nat):List (List D)→C
 | []=> .d (.v (.slice none 0 0))
 | _::_=> .own i
theorem yL0 (i:Nat):mkC i [] = .d (.v (.slice none 0 0)):=rfl
theorem aJ1 (i:Nat)(a:List D)(r:List (List D)):mkC i (a::r) = .own i:=rfl
theorem aK1 (i:Nat)(els:List (List D))(x:List D):mkC i (els++[x]) = .own i:=by cases els <;> rfl
theorem hI0 (a b:Int)(s:ByteArray)(u:List Lev)(zu:Bool)(l:List Tm)(zl:Bool):tmC (.mk a b s u zu l zl)=[.d (.v (.int .i64 a)),.d (.v (.int .i64 b)),.d (.v (.string s)),.d (listD zu 2 (u.map levD)),.d (listD zl 5 (l.map tmD))]:=rfl
end
section
open Go
variable (ext:Ext)
theorem set79 (hx:ext 79=none)(f:Lev→Lev × Int)(b:D)(hf:∀ u:Lev,run prog ext (.call 84 [levV u,dV b] [])=some (.ret [levV (f u).1,iV (f u).2] [])) :
  ∀ (N:Nat) (x:Tm),x.sz≤N→N<2^29→run prog ext (.call 79 [tmV x,dV b] [])=some (.ret [tmV (setL f x).1,iV (setL f x).2] [])
 | 0,x,h,_=>by have:=x.sz_pos;omega
 | N+1,x,h,hN=>by
  have hul:=x.ulen_lt
  have hll:=x.len_lt
  refine sA1 ext hx b x _ ?_
  have ha:=gH0 f x.u (fun k us=>H79a ext 0 (E79a b x us k) (O79a x us)) (fun e=>some (.ret [tmV zTm,iV e] [])) (fun us=>H79b ext 0 (E79b b x us [] 0) (O79b x us [])) (by omega) (fun k u us hk hl he=>by
    have hr:=hf u
    refine⟨fun h0 out ho=> ?_,fun h0=> ?_⟩
    ·rw[h0]at hr
     exact vN1 ext b x u _ us k (by omega) hk hl hr out ho
    ·exact bad79a ext b x u _ us _ k hk hl hr h0) (fun us _=>mid79 ext b x us _ rfl)
  rw[ha,yU0]
  cases mapE f x.u with
  | inr e=>rfl
  | inl us=>
   dsimp only
   have hb:=gH0 (setL f) x.l (fun k ls=>H79b ext 0 (E79b b x us ls k) (O79b x us ls)) (fun e=>some (.ret [tmV zTm,iV e] [])) (fun ls=>some (.ret [tmV (.mk x.op x.n x.s us true ls true),iV 0] [])) (by omega) (fun k t ls hk hl he=>by
     have hr:=set79 hx f b hf N t (by have:=Tm.sz_lt (List.mem_of_getElem? hk);omega) (by omega)
     refine⟨fun h0 out ho=> ?_,fun h0=> ?_⟩
     ·rw[h0]at hr
      exact vO1 ext b x t _ us ls k (by omega) hk hl hr out ho
     ·exact bad79b ext b x t _ us ls _ k hk hl hr h0) (fun ls _=>rU1 ext b x us ls)
   rw[hb]
   cases mapE (setL f) x.l <;> rfl
end
section
open Go
variable (ext:Ext)
def zL0 : Lev:=⟨0,[],true⟩
def zDc : Dc:=⟨⟨#[]⟩,0,0,zTm,zTm,zTm,zL0,zL0,[],true⟩
theorem aL0 (slot:Nat)(cs:List C)(x:Value)(h:cs.all lW0=true):bB0 [] [] slot (some (.ret [.agg cs,.c (.d (.v x))] []))=some ⟨.val (.tup [(true,cs),(false,[.d (.v x)])]),[],[]⟩:=by
 obtain⟨_,_,h3⟩:=eX0 (look:=fun _=>none) h
 simp only[bB0,cK0,mapO,renV,h3,renC,bK0,comp,List.length_nil,Nat.lt_irrefl,if_false]
 split <;> rfl
theorem nW0 (slot:Nat)(cs:List C)(x y:Value)(h:cs.all lW0=true):bB0 [] [] slot (some (.ret [.agg cs,.c (.d (.v x)),.c (.d (.v y))] []))=some ⟨.val (.tup [(true,cs),(false,[.d (.v x)]),(false,[.d (.v y)])]),[],[]⟩:=by
 obtain⟨_,_,h3⟩:=eX0 (look:=fun _=>none) h
 simp only[bB0,cK0,mapO,renV,h3,renC,bK0,comp,List.length_nil,Nat.lt_irrefl,if_false]
 split <;> rfl
def eN0 (x:Tb)(s:ByteArray):Dc × Bool:=match x.ds.find? (isNm s) with
 | none=>(zDc,false)
 | some d=>if d.kind=1∨d.kind=2∨d.kind=3 then(d,true) else(zDc,false)
theorem uU0 {x:Tb}{s:ByteArray} (h:x.ds.find? (isNm s)=none):find x s = -1:=by
 unfold find idxI
 have:x.ds.findIdx? (isNm s)=none:=by
  rw[List.findIdx?_eq_none_iff];rw[List.find?_eq_none]at h;intro y hy;simpa using h y hy
 rw[this]
theorem qA0 {x:Tb}{s:ByteArray}{d:Dc} (h:x.ds.find? (isNm s)=some d):∃ k:Nat,find x s=k∧x.ds[k]? = some d∧(k:Int)<x.ds.length:=by
 unfold find idxI
 cases hk:x.ds.findIdx? (isNm s) with
 | none=>
  rw[List.findIdx?_eq_none_iff]at hk
  have:=List.find?_some h
  rw[hk d (List.mem_of_find?_eq_some h)]at this;cases this
 | some k=>
  refine⟨k,rfl,?_,?_⟩
  ·have:=List.findIdx?_eq_some_iff_getElem.1 hk
   obtain⟨h1,h2,h3⟩:=this
   rw[List.find?_eq_some_iff_getElem]at h
   obtain⟨h4,i,h5,h6,h7⟩:=h
   have:i=k:=by
    rcases Nat.lt_trichotomy i k with hlt | heq | hgt
    ·have:=h3 i hlt;rw[h6]at this;exact absurd h4 this
    ·exact heq
    ·have:=h7 k hgt;simp[h2]at this
   subst this
   simp[h5,h6]
  ·have:=(List.findIdx?_eq_some_iff_getElem.1 hk).1;omega
theorem cB1 (hx:ext 78=none)(h22:ext 22=none)(h69:ext 69=none)(h70:ext 70=none)(x:Tb)(s:ByteArray)(hs:x.ds.length<2^50):run prog ext (.call 78 [tbV x,sV s] [])=some (.ret [dcV (eN0 x s).1,bV (eN0 x s).2] []):=by
 have hr:=pD1 ext h22 h69 h70 x s hs
 unfold eN0
 cases hf:x.ds.find? (isNm s) with
 | none=>
  rw[uU0 hf]at hr
  (rw[enT hx func78 rfl];simp only[f78,zR,Nat.zero_le,simprocAttr,zE])
  simp only[dcV,tbV,tbC,sV,iV,bV]at hr ⊢
  simp only[zS,zD,aB0,aA0,zT24,zT39,zT22,zT9,zT3,hr,simprocAttr]
  (refine .trans ?_ rfl;kernel_rfl)
 | some d=>
  obtain⟨k,e1,hk,hl⟩:=qA0 hf
  have h0:(0:Int)≤k:=by omega
  have h0':¬ ((k:Int)<0):=by omega
  rw[e1]at hr
  dsimp only
  by_cases c1:d.kind=1
  ·rw[if_pos (.inl c1)]
   (rw[enT hx func78 rfl];simp only[f78,zR,Nat.zero_le,simprocAttr,zE])
   simp only[dcV,dcC,tbV,tbC,sV,iV,bV,jV0 h0 hl]at hr ⊢
   simp only[zS,zD,aB0,aA0,zT24,zT39,zT22,zT9,zT3,hr,h0,h0',hl,Int.toNat_natCast,hk,iN0 d,c1,simprocAttr]
   (refine .trans ?_ rfl;kernel_rfl)
  by_cases c2:d.kind=2
  ·rw[if_pos (.inr (.inl c2))]
   (rw[enT hx func78 rfl];simp only[f78,zR,Nat.zero_le,simprocAttr,zE])
   simp only[dcV,dcC,tbV,tbC,sV,iV,bV,jV0 h0 hl]at hr ⊢
   simp only[zS,zD,aB0,aA0,zT24,zT39,zT22,zT9,zT3,hr,h0,h0',hl,Int.toNat_natCast,hk,iN0 d,c2,simprocAttr]
   (refine .trans ?_ rfl;kernel_rfl)
  by_cases c3:d.kind=3
  ·rw[if_pos (.inr (.inr c3))]
   (rw[enT hx func78 rfl];simp only[f78,zR,Nat.zero_le,simprocAttr,zE])
   simp only[dcV,dcC,tbV,tbC,sV,iV,bV,jV0 h0 hl]at hr ⊢
   simp only[zS,zD,aB0,aA0,zT24,zT39,zT22,zT9,zT3,hr,h0,h0',hl,Int.toNat_natCast,hk,iN0 d,c3,simprocAttr]
   (refine .trans ?_ rfl;kernel_rfl)
  rw[if_neg (by rintro(h | h | h) <;> contradiction)]
  (rw[enT hx func78 rfl];simp only[f78,zR,Nat.zero_le,simprocAttr,zE])
  simp only[dcV,tbV,tbC,sV,iV,bV,jV0 h0 hl]at hr ⊢
  simp only[zS,zD,aB0,aA0,zT24,zT39,zT22,zT9,zT3,hr,h0,h0',hl,Int.toNat_natCast,hk,iN0 d,c1,c2,c3,simprocAttr]
  (refine .trans ?_ rfl;kernel_rfl)
end
section
open Go
variable (ext:Ext)
def mR0 (f:Lev→Lev × Int)(x:Tb)(s:ByteArray)(n:Nat):Tm × Int:=
 if(eN0 x s).2=true then if(n:Int)=(eN0 x s).1.levels then setL f (eN0 x s).1.type else(zTm,42) else(zTm,3)
def kR0 (f:Lev→Lev × Int)(x:Tb)(s:ByteArray)(n:Nat):Tm × Bool × Int:=
 if(eN0 x s).2=true then if(n:Int)=(eN0 x s).1.levels then if(eN0 x s).1.kind=1 then((setL f (eN0 x s).1.body).1,(setL f (eN0 x s).1.body).2==0,(setL f (eN0 x s).1.body).2) else(zTm,false,0) else(zTm,false,42) else(zTm,false,3)
theorem type32 (hx:ext 32=none)(f:Lev→Lev × Int)(x:Tb)(s:ByteArray)(z:Fl)(l:List Lev)(ht:run prog ext (.call 78 [tbV x,sV s] [])=some (.ret [dcV (eN0 x s).1,bV (eN0 x s).2] []))
  (hr:run prog ext (.call 79 [tmV (eN0 x s).1.type,dV (listD z 2 (l.map levD))] [])=some (.ret [tmV (setL f (eN0 x s).1.type).1,iV (setL f (eN0 x s).1.type).2] [])) :
  run prog ext (.call 32 [tbV x,sV s,dV (listD z 2 (l.map levD))] [])=some (.ret [tmV (mR0 f x s l.length).1,iV (mR0 f x s l.length).2] []):=by
 unfold mR0
 generalize eN0 x s=p at ht hr ⊢
 obtain⟨d,b⟩:=p
 cases b with
 | false=>
  (rw[enT hx func32 rfl];simp only[f32,zR,Nat.zero_le,simprocAttr,zE])
  simp only[dcV,dcC,tbV,tbC,tmV,dA0,tmC,sV,iV,bV,dV]at ht ⊢
  simp only[zS,zD,aB0,aA0,zT24,zT39,zT33,zT30,zT27,zT9,zT3,ht,aL0,simprocAttr]
  (refine .trans ?_ rfl;kernel_rfl)
 | true=>
  rw[if_pos rfl]
  by_cases c:(l.length:Int)=d.levels
  ·rw[if_pos c]
   generalize setL f d.type=q at hr ⊢
   (rw[enT hx func32 rfl];simp only[f32,zR,Nat.zero_le,simprocAttr,zE])
   simp only[dcV,dcC,tbV,tbC,tmV,tmC,sV,iV,bV,dV]at ht hr ⊢
   simp only[zS,zD,aB0,aA0,zT24,zT39,zT33,zT30,zT27,zT9,zT3,ht,aL0,c,hr,simprocAttr]
   (refine .trans ?_ rfl;kernel_rfl)
  ·rw[if_neg c]
   (rw[enT hx func32 rfl];simp only[f32,zR,Nat.zero_le,simprocAttr,zE])
   simp only[dcV,dcC,tbV,tbC,tmV,dA0,tmC,sV,iV,bV,dV]at ht ⊢
   simp only[zS,zD,aB0,aA0,zT24,zT39,zT33,zT30,zT27,zT9,zT3,ht,aL0,c,simprocAttr]
   (refine .trans ?_ rfl;kernel_rfl)
theorem body34 (hx:ext 34=none)(f:Lev→Lev × Int)(x:Tb)(s:ByteArray)(z:Fl)(l:List Lev)(ht:run prog ext (.call 78 [tbV x,sV s] [])=some (.ret [dcV (eN0 x s).1,bV (eN0 x s).2] []))
  (hr:run prog ext (.call 79 [tmV (eN0 x s).1.body,dV (listD z 2 (l.map levD))] [])=some (.ret [tmV (setL f (eN0 x s).1.body).1,iV (setL f (eN0 x s).1.body).2] [])) :
  run prog ext (.call 34 [tbV x,sV s,dV (listD z 2 (l.map levD))] [])=some (.ret [tmV (kR0 f x s l.length).1,bV (kR0 f x s l.length).2.1,iV (kR0 f x s l.length).2.2] []):=by
 unfold kR0
 generalize eN0 x s=p at ht hr ⊢
 obtain⟨d,b⟩:=p
 cases b with
 | false=>
  (rw[enT hx func34 rfl];simp only[f34,zR,Nat.zero_le,simprocAttr,zE])
  simp only[dcV,dcC,tbV,tbC,tmV,dA0,tmC,sV,iV,bV,dV]at ht ⊢
  simp only[zS,zD,aB0,aA0,zT24,zT39,zT33,zT30,zT27,zT9,zT3,ht,aL0,simprocAttr]
  (refine .trans ?_ rfl;kernel_rfl)
 | true=>
  rw[if_pos rfl]
  by_cases c:(l.length:Int)=d.levels
  ·rw[if_pos c]
   by_cases e:d.kind=1
   ·rw[if_pos e]
    generalize setL f d.body=q at hr ⊢
    (rw[enT hx func34 rfl];simp only[f34,zR,Nat.zero_le,simprocAttr,zE])
    simp only[dcV,dcC,tbV,tbC,tmV,tmC,sV,iV,bV,dV]at ht hr ⊢
    simp only[zS,zD,aB0,aA0,zT24,zT39,zT33,zT30,zT27,zT9,zT3,ht,aL0,c,e,hr,simprocAttr]
    (refine .trans ?_ rfl;kernel_rfl)
   ·rw[if_neg e]
    (rw[enT hx func34 rfl];simp only[f34,zR,Nat.zero_le,simprocAttr,zE])
    simp only[dcV,dcC,tbV,tbC,tmV,dA0,tmC,sV,iV,bV,dV]at ht ⊢
    simp only[zS,zD,aB0,aA0,zT24,zT39,zT33,zT30,zT27,zT9,zT3,ht,aL0,c,e,simprocAttr]
    (refine .trans ?_ rfl;kernel_rfl)
  ·rw[if_neg c]
   (rw[enT hx func34 rfl];simp only[f34,zR,Nat.zero_le,simprocAttr,zE])
   simp only[dcV,dcC,tbV,tbC,tmV,dA0,tmC,sV,iV,bV,dV]at ht ⊢
   simp only[zS,zD,aB0,aA0,zT24,zT39,zT33,zT30,zT27,zT9,zT3,ht,aL0,c,simprocAttr]
   (refine .trans ?_ rfl;kernel_rfl)
end
end Go.Proofs.YteenjodhmppgjaaGreatDoor.Am
