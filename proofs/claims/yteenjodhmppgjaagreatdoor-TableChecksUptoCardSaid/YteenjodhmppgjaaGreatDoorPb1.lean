/- A part of the proof of a card. No conditions. -/
import Derived.Test.YteenjodhmppgjaaGreatDoorPa9
set_option linter.all false
set_option maxHeartbeats 16000000
set_option maxRecDepth 10000
namespace Go.Proofs.YteenjodhmppgjaaGreatDoor.Am
open Go.Proofs.Tryz
section
open Go
variable (ext:Ext)
def gX0 (x:Tb)(s:ByteArray):Dc × Bool:=match x.ds.find? (isNm s) with
 | none=>(zDc,false)
 | some d=>if d.kind=4 then(d,true) else(zDc,false)
theorem fam71 (hx:ext 71=none)(h22:ext 22=none)(h69:ext 69=none)(h70:ext 70=none)(x:Tb)(s:ByteArray)(hs:x.ds.length<2^50):run prog ext (.call 71 [tbV x,sV s] [])=some (.ret [dcV (gX0 x s).1,bV (gX0 x s).2] []):=by
 have hr:=dZ1 ext h22 h69 h70 x s hs
 unfold gX0
 cases hf:x.ds.find? (isNm s) with
 | none=>
  rw[pK0 hf]at hr
  (rw[enT hx func71 rfl];simp only[f71,zR,simprocAttr,zE])
  simp only[dcV,tbV,tbC,sV,iV,bV]at hr ⊢
  simp only[zS,zD,zT24,zT39,hr,simprocAttr]
  (refine .trans ?_ rfl;kernel_rfl)
 | some d=>
  obtain⟨k,e1,hk,hl⟩:=kC0 hf
  have h0:(0:Int)≤k:=by omega
  have h0':¬ ((k:Int)<0):=by omega
  rw[e1]at hr
  dsimp only
  by_cases c1:d.kind=4
  ·rw[if_pos c1]
   (rw[enT hx func71 rfl];simp only[f71,zR,simprocAttr,zE])
   simp only[dcV,dcC,tbV,tbC,sV,iV,bV,dW0 h0 hl]at hr ⊢
   simp only[zS,zD,zT24,zT39,zT22,zT3,hr,h0,h0',hl,Int.toNat_natCast,hk,dF0 d,c1,simprocAttr]
   (refine .trans ?_ rfl;kernel_rfl)
  ·rw[if_neg c1]
   (rw[enT hx func71 rfl];simp only[f71,zR,simprocAttr,zE])
   simp only[dcV,tbV,tbC,sV,iV,bV,dW0 h0 hl]at hr ⊢
   simp only[zS,zD,zT24,zT39,zT22,zT3,hr,h0,h0',hl,Int.toNat_natCast,hk,dF0 d,c1,simprocAttr]
   (refine .trans ?_ rfl;kernel_rfl)
theorem fam73 (hx:ext 73=none)(h37:ext 37=none)(x:Tb)(s:ByteArray)(hs:x.ds.length<2^50):run prog ext (.call 73 [tbV x,sV s] [])=some (.ret [dcV (gX0 x s).1,bV (gX0 x s).2] []):=by
 have hr:=uQ1 ext h37 x s hs
 unfold gX0
 cases hf:x.ds.find? (isNm s) with
 | none=>
  rw[pK0 hf]at hr
  (rw[enT hx func73 rfl];simp only[f73,zR,simprocAttr,zE])
  simp only[dcV,tbV,tbC,sV,iV,bV]at hr ⊢
  simp only[zS,zD,zT24,zT39,hr,simprocAttr]
  (refine .trans ?_ rfl;kernel_rfl)
 | some d=>
  obtain⟨k,e1,hk,hl⟩:=kC0 hf
  have h0:(0:Int)≤k:=by omega
  have h0':¬ ((k:Int)<0):=by omega
  rw[e1]at hr
  dsimp only
  by_cases c1:d.kind=4
  ·rw[if_pos c1]
   (rw[enT hx func73 rfl];simp only[f73,zR,simprocAttr,zE])
   simp only[dcV,dcC,tbV,tbC,sV,iV,bV,dW0 h0 hl]at hr ⊢
   simp only[zS,zD,zT24,zT39,zT22,zT3,hr,h0,h0',hl,Int.toNat_natCast,hk,dF0 d,c1,simprocAttr]
   (refine .trans ?_ rfl;kernel_rfl)
  ·rw[if_neg c1]
   (rw[enT hx func73 rfl];simp only[f73,zR,simprocAttr,zE])
   simp only[dcV,tbV,tbC,sV,iV,bV,dW0 h0 hl]at hr ⊢
   simp only[zS,zD,zT24,zT39,zT22,zT3,hr,h0,h0',hl,Int.toNat_natCast,hk,dF0 d,c1,simprocAttr]
   (refine .trans ?_ rfl;kernel_rfl)
end
section
open Go
variable (ext:Ext)
theorem xD1 (x:LV):lvD x=[.v (.int .i64 x.v),.v (.int .i64 x.p)]:=rfl
theorem vd_lt {u:Lev}{k:Nat} (h:(k:Int)<u.vs.length):u.d = .s 2 (u.vs.map lvD):=by unfold Lev.d;exact aM0 (b:=k) (by omega) (by simpa using h)
def gK0 (x:Tm):Bool:=decide (x.op=1)&&(decide (0≤x.n)&&decide (x.n≤2147483648))
theorem var202 (hx:ext 202=none)(x:Tm):run prog ext (.call 202 [tmV x] [])=some (.ret [bV (gK0 x)] []):=by
 unfold gK0
 by_cases a:x.op=1
 ·by_cases b:0≤x.n
  ·by_cases c:x.n≤2147483648
   ·(rw[enT hx func202 rfl];simp only[f202,zR,simprocAttr,zE])
    simp only[tmV,tmC,bV]
    simp only[zS,zD,zT33,zT3,ge_iff_le,a,b,c,simprocAttr]
    (refine .trans ?_ rfl;kernel_rfl)
   ·(rw[enT hx func202 rfl];simp only[f202,zR,simprocAttr,zE])
    simp only[tmV,tmC,bV]
    simp only[zS,zD,zT33,zT3,ge_iff_le,a,b,c,simprocAttr]
    (refine .trans ?_ rfl;kernel_rfl)
  ·(rw[enT hx func202 rfl];simp only[f202,zR,simprocAttr,zE])
   simp only[tmV,tmC,bV]
   simp only[zS,zD,zT33,zT3,ge_iff_le,a,b,simprocAttr]
   (refine .trans ?_ rfl;kernel_rfl)
 ·(rw[enT hx func202 rfl];simp only[f202,zR,simprocAttr,zE])
  simp only[tmV,tmC,bV]
  simp only[zS,zD,bJ0,zT3,a,simprocAttr]
  (refine .trans ?_ rfl;kernel_rfl)
theorem nS1 (hx:ext 200=none)(x:Tm):run prog ext (.call 200 [tmV x] [])=some (.ret [bV (gK0 x)] []):=by
 unfold gK0
 by_cases a:x.op=1
 ·by_cases b:0≤x.n
  ·by_cases c:x.n≤2147483648
   ·(rw[enT hx func200 rfl];simp only[f200,zR,simprocAttr,zE])
    simp only[tmV,tmC,bV]
    simp only[zS,zD,zT33,zT3,ge_iff_le,a,b,c,simprocAttr]
    (refine .trans ?_ rfl;kernel_rfl)
   ·(rw[enT hx func200 rfl];simp only[f200,zR,simprocAttr,zE])
    simp only[tmV,tmC,bV]
    simp only[zS,zD,zT33,zT3,ge_iff_le,a,b,c,simprocAttr]
    (refine .trans ?_ rfl;kernel_rfl)
  ·(rw[enT hx func200 rfl];simp only[f200,zR,simprocAttr,zE])
   simp only[tmV,tmC,bV]
   simp only[zS,zD,zT33,zT3,ge_iff_le,a,b,simprocAttr]
   (refine .trans ?_ rfl;kernel_rfl)
 ·(rw[enT hx func200 rfl];simp only[f200,zR,simprocAttr,zE])
  simp only[tmV,tmC,bV]
  simp only[zS,zD,bJ0,zT3,a,simprocAttr]
  (refine .trans ?_ rfl;kernel_rfl)
end
section
open Go
variable (ext:Ext)
def binds (op:Int)(len:Nat)(i:Int):Int:=
 if i<0∨i≥len then 0
 else if op=5∨op=6∨op=8∨op=9∨op=20 then if i=1 then 1 else 0
 else if op=23 then if i=1 then 2 else 0
 else if op=25 then if i=1∨i=2 then 1 else 0
 else if op=28 then if i=0 then 2 else if i<wr ((len:Int) - 2) then 3 else 0
 else 0
theorem kW1 (hx:ext 205=none)(x:Tm)(i:Int):run prog ext (.call 205 [tmV x,iV i] [])=some (.ret [iV (binds x.op x.l.length i)] []):=by
 by_cases a:i<0
 ·have e:binds x.op x.l.length i=0:=by unfold binds;simp[a]
  rw[e]
  (rw[enT hx func205 rfl];simp only[f205,zR,simprocAttr,zE])
  simp only[tmV,tmC,iV]
  simp only[zS,zD,a,simprocAttr]
  (refine .trans ?_ rfl;kernel_rfl)
 by_cases b:(x.l.length:Int)≤i
 ·have e:binds x.op x.l.length i=0:=by unfold binds;simp[a,b]
  rw[e]
  (rw[enT hx func205 rfl];simp only[f205,zR,simprocAttr,zE])
  simp only[tmV,tmC,iV]
  simp only[zS,zD,bD0,zT31,aI0,ge_iff_le,a,b,simprocAttr]
  (refine .trans ?_ rfl;kernel_rfl)
 by_cases o5:x.op=5
 ·by_cases c:i=1
  ·subst c
   have e:binds x.op x.l.length 1=1:=by unfold binds;simp[a,b,o5]
   rw[e]
   (rw[enT hx func205 rfl];simp only[f205,zR,simprocAttr,zE])
   simp only[tmV,tmC,iV]
   simp only[zS,zD,zT33,zT31,zT3,aI0,ge_iff_le,a,b,o5,simprocAttr]
   (refine .trans ?_ rfl;kernel_rfl)
  ·have e:binds x.op x.l.length i=0:=by unfold binds;simp[a,b,o5,c]
   rw[e]
   (rw[enT hx func205 rfl];simp only[f205,zR,simprocAttr,zE])
   simp only[tmV,tmC,iV]
   simp only[zS,zD,zT33,zT31,zT3,aI0,ge_iff_le,a,b,o5,c,simprocAttr]
   (refine .trans ?_ rfl;kernel_rfl)
 by_cases o6:x.op=6
 ·by_cases c:i=1
  ·subst c
   have e:binds x.op x.l.length 1=1:=by unfold binds;simp[a,b,o6]
   rw[e]
   (rw[enT hx func205 rfl];simp only[f205,zR,simprocAttr,zE])
   simp only[tmV,tmC,iV]
   simp only[zS,zD,zT33,zT31,zT3,aI0,ge_iff_le,a,b,o6,simprocAttr]
   (refine .trans ?_ rfl;kernel_rfl)
  ·have e:binds x.op x.l.length i=0:=by unfold binds;simp[a,b,o6,c]
   rw[e]
   (rw[enT hx func205 rfl];simp only[f205,zR,simprocAttr,zE])
   simp only[tmV,tmC,iV]
   simp only[zS,zD,zT33,zT31,zT3,aI0,ge_iff_le,a,b,o6,c,simprocAttr]
   (refine .trans ?_ rfl;kernel_rfl)
 by_cases o8:x.op=8
 ·by_cases c:i=1
  ·subst c
   have e:binds x.op x.l.length 1=1:=by unfold binds;simp[a,b,o8]
   rw[e]
   (rw[enT hx func205 rfl];simp only[f205,zR,simprocAttr,zE])
   simp only[tmV,tmC,iV]
   simp only[zS,zD,zT33,zT31,zT3,aI0,ge_iff_le,a,b,o8,simprocAttr]
   (refine .trans ?_ rfl;kernel_rfl)
  ·have e:binds x.op x.l.length i=0:=by unfold binds;simp[a,b,o8,c]
   rw[e]
   (rw[enT hx func205 rfl];simp only[f205,zR,simprocAttr,zE])
   simp only[tmV,tmC,iV]
   simp only[zS,zD,zT33,zT31,zT3,aI0,ge_iff_le,a,b,o8,c,simprocAttr]
   (refine .trans ?_ rfl;kernel_rfl)
 by_cases o9:x.op=9
 ·by_cases c:i=1
  ·subst c
   have e:binds x.op x.l.length 1=1:=by unfold binds;simp[a,b,o9]
   rw[e]
   (rw[enT hx func205 rfl];simp only[f205,zR,simprocAttr,zE])
   simp only[tmV,tmC,iV]
   simp only[zS,zD,zT33,zT31,zT3,aI0,ge_iff_le,a,b,o9,simprocAttr]
   (refine .trans ?_ rfl;kernel_rfl)
  ·have e:binds x.op x.l.length i=0:=by unfold binds;simp[a,b,o9,c]
   rw[e]
   (rw[enT hx func205 rfl];simp only[f205,zR,simprocAttr,zE])
   simp only[tmV,tmC,iV]
   simp only[zS,zD,zT33,zT31,zT3,aI0,ge_iff_le,a,b,o9,c,simprocAttr]
   (refine .trans ?_ rfl;kernel_rfl)
 by_cases o20:x.op=20
 ·by_cases c:i=1
  ·subst c
   have e:binds x.op x.l.length 1=1:=by unfold binds;simp[a,b,o20]
   rw[e]
   (rw[enT hx func205 rfl];simp only[f205,zR,simprocAttr,zE])
   simp only[tmV,tmC,iV]
   simp only[zS,zD,zT33,zT31,zT3,aI0,ge_iff_le,a,b,o20,simprocAttr]
   (refine .trans ?_ rfl;kernel_rfl)
  ·have e:binds x.op x.l.length i=0:=by unfold binds;simp[a,b,o20,c]
   rw[e]
   (rw[enT hx func205 rfl];simp only[f205,zR,simprocAttr,zE])
   simp only[tmV,tmC,iV]
   simp only[zS,zD,zT33,zT31,zT3,aI0,ge_iff_le,a,b,o20,c,simprocAttr]
   (refine .trans ?_ rfl;kernel_rfl)
 by_cases o23:x.op=23
 ·by_cases c:i=1
  ·subst c
   have e:binds x.op x.l.length 1=2:=by unfold binds;simp[a,b,o23]
   rw[e]
   (rw[enT hx func205 rfl];simp only[f205,zR,simprocAttr,zE])
   simp only[tmV,tmC,iV]
   simp only[zS,zD,zT33,zT31,zT3,aI0,ge_iff_le,a,b,o23,simprocAttr]
   (refine .trans ?_ rfl;kernel_rfl)
  ·have e:binds x.op x.l.length i=0:=by unfold binds;simp[a,b,o23,c]
   rw[e]
   (rw[enT hx func205 rfl];simp only[f205,zR,simprocAttr,zE])
   simp only[tmV,tmC,iV]
   simp only[zS,zD,zT33,zT31,zT3,aI0,ge_iff_le,a,b,o23,c,simprocAttr]
   (refine .trans ?_ rfl;kernel_rfl)
 by_cases o25:x.op=25
 ·by_cases c:i=1
  ·subst c
   have e:binds x.op x.l.length 1=1:=by unfold binds;simp[a,b,o25]
   rw[e]
   (rw[enT hx func205 rfl];simp only[f205,zR,simprocAttr,zE])
   simp only[tmV,tmC,iV]
   simp only[zS,zD,zT33,zT31,zT3,aI0,ge_iff_le,a,b,o25,simprocAttr]
   (refine .trans ?_ rfl;kernel_rfl)
  by_cases d:i=2
  ·subst d
   have e:binds x.op x.l.length 2=1:=by unfold binds;simp[a,b,o25]
   rw[e]
   (rw[enT hx func205 rfl];simp only[f205,zR,simprocAttr,zE])
   simp only[tmV,tmC,iV]
   simp only[zS,zD,zT33,zT31,zT3,aI0,ge_iff_le,a,b,o25,simprocAttr]
   (refine .trans ?_ rfl;kernel_rfl)
  have e:binds x.op x.l.length i=0:=by unfold binds;simp[a,b,o25,c,d]
  rw[e]
  (rw[enT hx func205 rfl];simp only[f205,zR,simprocAttr,zE])
  simp only[tmV,tmC,iV]
  simp only[zS,zD,zT33,zT31,zT3,aI0,ge_iff_le,a,b,o25,c,d,simprocAttr]
  (refine .trans ?_ rfl;kernel_rfl)
 by_cases o28:x.op=28
 ·by_cases c:i=0
  ·subst c
   have e:binds x.op x.l.length 0=2:=by unfold binds;rw[if_neg (by omega)];simp[o28]
   rw[e]
   (rw[enT hx func205 rfl];simp only[f205,zR,simprocAttr,zE])
   simp only[tmV,tmC,iV]
   simp only[zS,zD,zT33,zT31,zT3,aI0,ge_iff_le,a,b,o28,simprocAttr]
   (refine .trans ?_ rfl;kernel_rfl)
  by_cases d:i<wr ((x.l.length:Int) - 2)
  ·have e:binds x.op x.l.length i=3:=by unfold binds;simp[a,b,o28,c,d]
   rw[e]
   (rw[enT hx func205 rfl];simp only[f205,zR,simprocAttr,zE])
   simp only[tmV,tmC,iV]
   simp only[zS,zD,zT33,zT31,zT3,aI0,ge_iff_le,a,b,o28,c,d,simprocAttr]
   (refine .trans ?_ rfl;kernel_rfl)
  have e:binds x.op x.l.length i=0:=by unfold binds;simp[a,b,o28,c,d]
  rw[e]
  (rw[enT hx func205 rfl];simp only[f205,zR,simprocAttr,zE])
  simp only[tmV,tmC,iV]
  simp only[zS,zD,zT33,zT31,zT3,aI0,ge_iff_le,a,b,o28,c,d,simprocAttr]
  (refine .trans ?_ rfl;kernel_rfl)
 have e:binds x.op x.l.length i=0:=by unfold binds;simp[a,b,o5,o6,o8,o9,o20,o23,o25,o28]
 rw[e]
 (rw[enT hx func205 rfl];simp only[f205,zR,simprocAttr,zE])
 simp only[tmV,tmC,iV]
 simp only[zS,zD,zT33,zT31,zT3,aI0,ge_iff_le,a,b,o5,o6,o8,o9,o20,o23,o25,o28,simprocAttr]
 (refine .trans ?_ rfl;kernel_rfl)
theorem kV1 (hx:ext 199=none)(x:Tm)(i:Int):run prog ext (.call 199 [tmV x,iV i] [])=some (.ret [iV (binds x.op x.l.length i)] []):=by
 by_cases a:i<0
 ·have e:binds x.op x.l.length i=0:=by unfold binds;simp[a]
  rw[e]
  (rw[enT hx func199 rfl];simp only[f199,zR,simprocAttr,zE])
  simp only[tmV,tmC,iV]
  simp only[zS,zD,a,simprocAttr]
  (refine .trans ?_ rfl;kernel_rfl)
 by_cases b:(x.l.length:Int)≤i
 ·have e:binds x.op x.l.length i=0:=by unfold binds;simp[a,b]
  rw[e]
  (rw[enT hx func199 rfl];simp only[f199,zR,simprocAttr,zE])
  simp only[tmV,tmC,iV]
  simp only[zS,zD,bD0,zT31,aI0,ge_iff_le,a,b,simprocAttr]
  (refine .trans ?_ rfl;kernel_rfl)
 by_cases o5:x.op=5
 ·by_cases c:i=1
  ·subst c
   have e:binds x.op x.l.length 1=1:=by unfold binds;simp[a,b,o5]
   rw[e]
   (rw[enT hx func199 rfl];simp only[f199,zR,simprocAttr,zE])
   simp only[tmV,tmC,iV]
   simp only[zS,zD,zT33,zT31,zT3,aI0,ge_iff_le,a,b,o5,simprocAttr]
   (refine .trans ?_ rfl;kernel_rfl)
  ·have e:binds x.op x.l.length i=0:=by unfold binds;simp[a,b,o5,c]
   rw[e]
   (rw[enT hx func199 rfl];simp only[f199,zR,simprocAttr,zE])
   simp only[tmV,tmC,iV]
   simp only[zS,zD,zT33,zT31,zT3,aI0,ge_iff_le,a,b,o5,c,simprocAttr]
   (refine .trans ?_ rfl;kernel_rfl)
 by_cases o6:x.op=6
 ·by_cases c:i=1
  ·subst c
   have e:binds x.op x.l.length 1=1:=by unfold binds;simp[a,b,o6]
   rw[e]
   (rw[enT hx func199 rfl];simp only[f199,zR,simprocAttr,zE])
   simp only[tmV,tmC,iV]
   simp only[zS,zD,zT33,zT31,zT3,aI0,ge_iff_le,a,b,o6,simprocAttr]
   (refine .trans ?_ rfl;kernel_rfl)
  ·have e:binds x.op x.l.length i=0:=by unfold binds;simp[a,b,o6,c]
   rw[e]
   (rw[enT hx func199 rfl];simp only[f199,zR,simprocAttr,zE])
   simp only[tmV,tmC,iV]
   simp only[zS,zD,zT33,zT31,zT3,aI0,ge_iff_le,a,b,o6,c,simprocAttr]
   (refine .trans ?_ rfl;kernel_rfl)
 by_cases o8:x.op=8
 ·by_cases c:i=1
  ·subst c
   have e:binds x.op x.l.length 1=1:=by unfold binds;simp[a,b,o8]
   rw[e]
   (rw[enT hx func199 rfl];simp only[f199,zR,simprocAttr,zE])
   simp only[tmV,tmC,iV]
   simp only[zS,zD,zT33,zT31,zT3,aI0,ge_iff_le,a,b,o8,simprocAttr]
   (refine .trans ?_ rfl;kernel_rfl)
  ·have e:binds x.op x.l.length i=0:=by unfold binds;simp[a,b,o8,c]
   rw[e]
   (rw[enT hx func199 rfl];simp only[f199,zR,simprocAttr,zE])
   simp only[tmV,tmC,iV]
   simp only[zS,zD,zT33,zT31,zT3,aI0,ge_iff_le,a,b,o8,c,simprocAttr]
   (refine .trans ?_ rfl;kernel_rfl)
 by_cases o9:x.op=9
 ·by_cases c:i=1
  ·subst c
   have e:binds x.op x.l.length 1=1:=by unfold binds;simp[a,b,o9]
   rw[e]
   (rw[enT hx func199 rfl];simp only[f199,zR,simprocAttr,zE])
   simp only[tmV,tmC,iV]
   simp only[zS,zD,zT33,zT31,zT3,aI0,ge_iff_le,a,b,o9,simprocAttr]
   (refine .trans ?_ rfl;kernel_rfl)
  ·have e:binds x.op x.l.length i=0:=by unfold binds;simp[a,b,o9,c]
   rw[e]
   (rw[enT hx func199 rfl];simp only[f199,zR,simprocAttr,zE])
   simp only[tmV,tmC,iV]
   simp only[zS,zD,zT33,zT31,zT3,aI0,ge_iff_le,a,b,o9,c,simprocAttr]
   (refine .trans ?_ rfl;kernel_rfl)
 by_cases o20:x.op=20
 ·by_cases c:i=1
  ·subst c
   have e:binds x.op x.l.length 1=1:=by unfold binds;simp[a,b,o20]
   rw[e]
   (rw[enT hx func199 rfl];simp only[f199,zR,simprocAttr,zE])
   simp only[tmV,tmC,iV]
   simp only[zS,zD,zT33,zT31,zT3,aI0,ge_iff_le,a,b,o20,simprocAttr]
   (refine .trans ?_ rfl;kernel_rfl)
  ·have e:binds x.op x.l.length i=0:=by unfold binds;simp[a,b,o20,c]
   rw[e]
   (rw[enT hx func199 rfl];simp only[f199,zR,simprocAttr,zE])
   simp only[tmV,tmC,iV]
   simp only[zS,zD,zT33,zT31,zT3,aI0,ge_iff_le,a,b,o20,c,simprocAttr]
   (refine .trans ?_ rfl;kernel_rfl)
 by_cases o23:x.op=23
 ·by_cases c:i=1
  ·subst c
   have e:binds x.op x.l.length 1=2:=by unfold binds;simp[a,b,o23]
   rw[e]
   (rw[enT hx func199 rfl];simp only[f199,zR,simprocAttr,zE])
   simp only[tmV,tmC,iV]
   simp only[zS,zD,zT33,zT31,zT3,aI0,ge_iff_le,a,b,o23,simprocAttr]
   (refine .trans ?_ rfl;kernel_rfl)
  ·have e:binds x.op x.l.length i=0:=by unfold binds;simp[a,b,o23,c]
   rw[e]
   (rw[enT hx func199 rfl];simp only[f199,zR,simprocAttr,zE])
   simp only[tmV,tmC,iV]
   simp only[zS,zD,zT33,zT31,zT3,aI0,ge_iff_le,a,b,o23,c,simprocAttr]
   (refine .trans ?_ rfl;kernel_rfl)
 by_cases o25:x.op=25
 ·by_cases c:i=1
  ·subst c
   have e:binds x.op x.l.length 1=1:=by unfold binds;simp[a,b,o25]
   rw[e]
   (rw[enT hx func199 rfl];simp only[f199,zR,simprocAttr,zE])
   simp only[tmV,tmC,iV]
   simp only[zS,zD,zT33,zT31,zT3,aI0,ge_iff_le,a,b,o25,simprocAttr]
   (refine .trans ?_ rfl;kernel_rfl)
  by_cases d:i=2
  ·subst d
   have e:binds x.op x.l.length 2=1:=by unfold binds;simp[a,b,o25]
   rw[e]
   (rw[enT hx func199 rfl];simp only[f199,zR,simprocAttr,zE])
   simp only[tmV,tmC,iV]
   simp only[zS,zD,zT33,zT31,zT3,aI0,ge_iff_le,a,b,o25,simprocAttr]
   (refine .trans ?_ rfl;kernel_rfl)
  have e:binds x.op x.l.length i=0:=by unfold binds;simp[a,b,o25,c,d]
  rw[e]
  (rw[enT hx func199 rfl];simp only[f199,zR,simprocAttr,zE])
  simp only[tmV,tmC,iV]
  simp only[zS,zD,zT33,zT31,zT3,aI0,ge_iff_le,a,b,o25,c,d,simprocAttr]
  (refine .trans ?_ rfl;kernel_rfl)
 by_cases o28:x.op=28
 ·by_cases c:i=0
  ·subst c
   have e:binds x.op x.l.length 0=2:=by unfold binds;rw[if_neg (by omega)];simp[o28]
   rw[e]
   (rw[enT hx func199 rfl];simp only[f199,zR,simprocAttr,zE])
   simp only[tmV,tmC,iV]
   simp only[zS,zD,zT33,zT31,zT3,aI0,ge_iff_le,a,b,o28,simprocAttr]
   (refine .trans ?_ rfl;kernel_rfl)
  by_cases d:i<wr ((x.l.length:Int) - 2)
  ·have e:binds x.op x.l.length i=3:=by unfold binds;simp[a,b,o28,c,d]
   rw[e]
   (rw[enT hx func199 rfl];simp only[f199,zR,simprocAttr,zE])
   simp only[tmV,tmC,iV]
   simp only[zS,zD,zT33,zT31,zT3,aI0,ge_iff_le,a,b,o28,c,d,simprocAttr]
   (refine .trans ?_ rfl;kernel_rfl)
  have e:binds x.op x.l.length i=0:=by unfold binds;simp[a,b,o28,c,d]
  rw[e]
  (rw[enT hx func199 rfl];simp only[f199,zR,simprocAttr,zE])
  simp only[tmV,tmC,iV]
  simp only[zS,zD,zT33,zT31,zT3,aI0,ge_iff_le,a,b,o28,c,d,simprocAttr]
  (refine .trans ?_ rfl;kernel_rfl)
 have e:binds x.op x.l.length i=0:=by unfold binds;simp[a,b,o5,o6,o8,o9,o20,o23,o25,o28]
 rw[e]
 (rw[enT hx func199 rfl];simp only[f199,zR,simprocAttr,zE])
 simp only[tmV,tmC,iV]
 simp only[zS,zD,zT33,zT31,zT3,aI0,ge_iff_le,a,b,o5,o6,o8,o9,o20,o23,o25,o28,simprocAttr]
 (refine .trans ?_ rfl;kernel_rfl)
end
section
open Go
variable (ext:Ext)
end
section
open Go
variable (ext:Ext)
theorem zF0 (op:Int)(len:Nat)(i:Int):0≤binds op len i∧binds op len i≤3:=by
 unfold binds
 repeat' split
 all_goals omega
end
section
open Go
variable (ext:Ext)
end
end Go.Proofs.YteenjodhmppgjaaGreatDoor.Am
