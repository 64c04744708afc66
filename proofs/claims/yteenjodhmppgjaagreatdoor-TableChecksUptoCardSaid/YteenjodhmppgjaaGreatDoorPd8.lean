/- A part of the proof of a card. No conditions. -/
import Derived.Test.YteenjodhmppgjaaGreatDoorPd6
import Derived.Test.YteenjodhmppgjaaGreatDoorPc7
set_option linter.all false
set_option maxHeartbeats 16000000
set_option maxRecDepth 10000
namespace Go.Proofs.YteenjodhmppgjaaGreatDoor.Am
open Go.Proofs.Tryz
section
open Go
variable (ext:Ext)
section
variable (o:Dc) (t:Tm) (p:D)
theorem bj0 (hx:ext 168=none)(r74:run prog ext (.call 74 [sV o.name,tmV t] [])=some (.ret [bV false] []))  : run prog ext (.call 168 [dcV o,tmV t,dV p] [])=some (.ret [.agg [.d (.v (.int .i64 0)),.d (.v (.slice none 0 0))]] []):=by
 (rw[enT hx func168 rfl];simp only[f168,zR,simprocAttr,zE])
 simp only[dcV,dcC,tmV,tmC,dV,sV,bV]at r74  ⊢
 simp only[zS,zD,aE0,zT33,zT9,zT45,List.length,r74,simprocAttr]
 (refine .trans ?_ rfl;kernel_rfl)
theorem bj1f (hx:ext 168=none)(r74:run prog ext (.call 74 [sV o.name,tmV t] [])=some (.ret [bV true] []))(e26:(t.op==26)=true)(en:(t.s.toList==o.name.toList)=true)(r231:run prog ext (.call 231 [dcV o,tmV t] [])=some (.ret [bV false] [])):run prog ext (.call 168 [dcV o,tmV t,dV p] [])=some (.ret [.agg [.d (.v (.int .i64 43)),.d p]] []):=by
 (rw[enT hx func168 rfl];simp only[f168,zR,simprocAttr,zE])
 simp only[dcV,dcC,tmV,tmC,dV,sV,bV]at r74 r231 ⊢
 simp only[zS,zD,zT39,zT33,zT9,zT3,zT45,Array.size,List.length,r74,r231,e26,en,simprocAttr]
 (refine .trans ?_ rfl;kernel_rfl)
theorem bj1t (hx:ext 168=none)(r74:run prog ext (.call 74 [sV o.name,tmV t] [])=some (.ret [bV true] []))(e26:(t.op==26)=true)(en:(t.s.toList==o.name.toList)=true)(r231:run prog ext (.call 231 [dcV o,tmV t] [])=some (.ret [bV true] [])):run prog ext (.call 168 [dcV o,tmV t,dV p] [])=some (.ret [.agg [.d (.v (.int .i64 0)),.d (.v (.slice none 0 0))]] []):=by
 (rw[enT hx func168 rfl];simp only[f168,zR,simprocAttr,zE])
 simp only[dcV,dcC,tmV,tmC,dV,sV,bV]at r74 r231 ⊢
 simp only[zS,zD,zT39,zT33,zT9,zT3,zT45,Array.size,List.length,r74,r231,e26,en,simprocAttr]
 (refine .trans ?_ rfl;kernel_rfl)
theorem bj3a (hx:ext 168=none)(r74:run prog ext (.call 74 [sV o.name,tmV t] [])=some (.ret [bV true] []))(e26:(t.op==26)=false)(e5:(t.op==5)=false)(e8:(t.op==8)=false):run prog ext (.call 168 [dcV o,tmV t,dV p] [])=some (.ret [.agg [.d (.v (.int .i64 43)),.d p]] []):=by
 (rw[enT hx func168 rfl];simp only[f168,zR,simprocAttr,zE])
 simp only[dcV,dcC,tmV,tmC,dV,sV,bV]at r74  ⊢
 simp only[zS,zD,aE0,zT33,zT9,zT3,zT45,Array.size,List.length,r74,e26,e5,e8,simprocAttr]
 (refine .trans ?_ rfl;kernel_rfl)
theorem bj3b (hx:ext 168=none)(r74:run prog ext (.call 74 [sV o.name,tmV t] [])=some (.ret [bV true] []))(e26:(t.op==26)=true)(en:(t.s.toList==o.name.toList)=false)(e5:(t.op==5)=false)(e8:(t.op==8)=false):run prog ext (.call 168 [dcV o,tmV t,dV p] [])=some (.ret [.agg [.d (.v (.int .i64 43)),.d p]] []):=by
 (rw[enT hx func168 rfl];simp only[f168,zR,simprocAttr,zE])
 simp only[dcV,dcC,tmV,tmC,dV,sV,bV]at r74  ⊢
 simp only[zS,zD,aE0,zT33,zT9,zT3,zT45,Array.size,List.length,r74,e26,en,e5,e8,simprocAttr]
 (refine .trans ?_ rfl;kernel_rfl)
theorem bj3c (hx:ext 168=none)(r74:run prog ext (.call 74 [sV o.name,tmV t] [])=some (.ret [bV true] []))(e26:(t.op==26)=false)(e5:(t.op==5)=true)(e8:(t.op==8)=false)(c:((t.l.length:Int)==2)=false):run prog ext (.call 168 [dcV o,tmV t,dV p] [])=some (.ret [.agg [.d (.v (.int .i64 43)),.d p]] []):=by
 (rw[enT hx func168 rfl];simp only[f168,zR,simprocAttr,zE])
 simp only[dcV,dcC,tmV,tmC,dV,sV,bV]at r74  ⊢
 simp only[zS,zD,aE0,zT33,zT31,zT9,zT3,zT45,Array.size,List.length,r74,e26,e5,e8,c,aI0,simprocAttr]
 (refine .trans ?_ rfl;kernel_rfl)
theorem bj3d (hx:ext 168=none)(r74:run prog ext (.call 74 [sV o.name,tmV t] [])=some (.ret [bV true] []))(e26:(t.op==26)=false)(e5:(t.op==5)=false)(e8:(t.op==8)=true)(c:((t.l.length:Int)==2)=false):run prog ext (.call 168 [dcV o,tmV t,dV p] [])=some (.ret [.agg [.d (.v (.int .i64 43)),.d p]] []):=by
 (rw[enT hx func168 rfl];simp only[f168,zR,simprocAttr,zE])
 simp only[dcV,dcC,tmV,tmC,dV,sV,bV]at r74  ⊢
 simp only[zS,zD,aE0,zT33,zT31,zT9,zT3,zT45,Array.size,List.length,r74,e26,e5,e8,c,aI0,simprocAttr]
 (refine .trans ?_ rfl;kernel_rfl)
theorem bj4 (hx:ext 168=none)(r74:run prog ext (.call 74 [sV o.name,tmV t] [])=some (.ret [bV true] []))(e26:(t.op==26)=false)(a b:Tm)(ha:t.l[0]? = some a)(hb:t.l[1]? = some b)(c:((t.l.length:Int)==2)=true)(e5:(t.op==5)=true)(m2:mkB t.n 2=true):run prog ext (.call 168 [dcV o,tmV t,dV p] [])=some (.ret [.agg [.d (.v (.int .i64 43)),.d p]] []):=by
 have hlen:(t.l.length:Int)=2:=by simpa using c
 have hl0:(0:Int)<t.l.length:=by omega
 have hl1:(1:Int)<t.l.length:=by omega
 have h00:(0:Int)≤0:=by omega
 have h01:(0:Int)≤1:=by omega
 have hD:t.lD = .s 5 (t.l.map tmD):=bC0 (k:=1) (by omega)
 unfold mkB at m2
 (rw[enT hx func168 rfl];simp only[f168,zR,simprocAttr,zE])
 simp only[dcV,dcC,tmV,tmC,dV,sV,bV,hD]at r74  ⊢
 simp only[zS,zD,aE0,zT33,zT31,zT9,zT3,zT45,aK0,aC0,aD0,Array.size,List.length,r74,e26,e5,m2,c,simprocAttr]
 rw[aB0 _ _ _ _ (by kernel_rfl)]
 simp only[zS,zD,zT45,List.length,simprocAttr]
 (refine .trans ?_ rfl;kernel_rfl)
theorem bj5 (hx:ext 168=none)(r74:run prog ext (.call 74 [sV o.name,tmV t] [])=some (.ret [bV true] []))(e26:(t.op==26)=false)(a b:Tm)(ha:t.l[0]? = some a)(hb:t.l[1]? = some b)(c:((t.l.length:Int)==2)=true)(e5:(t.op==5)=true)(m2:mkB t.n 2=false)(ra:run prog ext (.call 74 [sV o.name,tmV a] [])=some (.ret [bV true] []))  : run prog ext (.call 168 [dcV o,tmV t,dV p] [])=some (.ret [.agg [.d (.v (.int .i64 43)),.d p]] []):=by
 have hlen:(t.l.length:Int)=2:=by simpa using c
 have hl0:(0:Int)<t.l.length:=by omega
 have hl1:(1:Int)<t.l.length:=by omega
 have h00:(0:Int)≤0:=by omega
 have h01:(0:Int)≤1:=by omega
 have hD:t.lD = .s 5 (t.l.map tmD):=bC0 (k:=1) (by omega)
 unfold mkB at m2
 (rw[enT hx func168 rfl];simp only[f168,zR,simprocAttr,zE])
 simp only[dcV,dcC,tmV,tmC,dV,sV,bV,hD]at r74 ra ⊢
 simp only[zS,zD,aE0,zT33,zT31,zT9,zT3,zT45,aK0,aC0,aD0,Array.size,List.length,(id rfl:Int.toNat 0=0),r74,ra,e26,e5,m2,c,hl0,h00,ha,aH0 a,simprocAttr]
 rw[aB0 _ _ _ _ (by kernel_rfl)]
 simp only[zS,zD,zT45,List.length,simprocAttr]
 (refine .trans ?_ rfl;kernel_rfl)
theorem bj6 (hx:ext 168=none)(r74:run prog ext (.call 74 [sV o.name,tmV t] [])=some (.ret [bV true] []))(c1:Int)(F1:D)(e26:(t.op==26)=false)(a b:Tm)(ha:t.l[0]? = some a)(hb:t.l[1]? = some b)(c:((t.l.length:Int)==2)=true)(e5:(t.op==5)=true)(m2:mkB t.n 2=false)(ra:run prog ext (.call 74 [sV o.name,tmV a] [])=some (.ret [bV false] []))(p1:D)(q1:run prog ext (.call 112 [dV p,iV 1] [])=some (.ret [dV p1] []))(s1:run prog ext (.call 168 [dcV o,tmV b,dV p1] [])=some (.ret [.agg [.d (.v (.int .i64 c1)),.d F1]] []))  : run prog ext (.call 168 [dcV o,tmV t,dV p] [])=some (.ret [.agg [.d (.v (.int .i64 c1)),.d F1]] []):=by
 have hlen:(t.l.length:Int)=2:=by simpa using c
 have hl0:(0:Int)<t.l.length:=by omega
 have hl1:(1:Int)<t.l.length:=by omega
 have h00:(0:Int)≤0:=by omega
 have h01:(0:Int)≤1:=by omega
 have hD:t.lD = .s 5 (t.l.map tmD):=bC0 (k:=1) (by omega)
 unfold mkB at m2
 (rw[enT hx func168 rfl];simp only[f168,zR,simprocAttr,zE])
 simp only[dcV,dcC,tmV,tmC,dV,sV,iV,bV,hD]at r74 ra q1 s1 ⊢
 simp only[zS,zD,aE0,zT33,zT31,zT9,zT3,zT45,aK0,aC0,aD0,Array.size,List.length,(id rfl:Int.toNat 0=0),r74,ra,e26,e5,m2,c,hl0,h00,ha,aH0 a,simprocAttr]
 rw[aB0 _ _ _ _ (by kernel_rfl)]
 simp only[zS,zD,zT39,zT33,zT31,jH0,aK0,aC0,aD0,Array.size,List.length,(id rfl:Int.toNat 1=1),q1,s1,hl1,h01,hb,aH0 b,simprocAttr]
 rw[aB0 _ _ _ _ (by kernel_rfl)]
 simp only[zS]
 (refine .trans ?_ rfl;kernel_rfl)
theorem bj8x (hx:ext 168=none)(r74:run prog ext (.call 74 [sV o.name,tmV t] [])=some (.ret [bV true] []))(e26:(t.op==26)=false)(a b:Tm)(ha:t.l[0]? = some a)(hb:t.l[1]? = some b)(c:((t.l.length:Int)==2)=true)(e5:(t.op==5)=false)(e8:(t.op==8)=true)(m1:mkB t.n 1=true)(ra:run prog ext (.call 74 [sV o.name,tmV a] [])=some (.ret [bV true] []))  : run prog ext (.call 168 [dcV o,tmV t,dV p] [])=some (.ret [.agg [.d (.v (.int .i64 43)),.d p]] []):=by
 have hlen:(t.l.length:Int)=2:=by simpa using c
 have hl0:(0:Int)<t.l.length:=by omega
 have hl1:(1:Int)<t.l.length:=by omega
 have h00:(0:Int)≤0:=by omega
 have h01:(0:Int)≤1:=by omega
 have hD:t.lD = .s 5 (t.l.map tmD):=bC0 (k:=1) (by omega)
 unfold mkB at m1
 (rw[enT hx func168 rfl];simp only[f168,zR,simprocAttr,zE])
 simp only[dcV,dcC,tmV,tmC,dV,sV,bV,hD]at r74 ra ⊢
 simp only[zS,zD,aE0,zT33,zT31,zT9,zT3,zT45,aK0,aC0,aD0,Array.size,List.length,(id rfl:Int.toNat 0=0),r74,ra,e26,e5,e8,m1,c,hl0,h00,ha,aH0 a,simprocAttr]
 rw[aB0 _ _ _ _ (by kernel_rfl)]
 simp only[zS,zD,zT45,List.length,simprocAttr]
 (refine .trans ?_ rfl;kernel_rfl)
theorem bj8y0 (hx:ext 168=none)(r74:run prog ext (.call 74 [sV o.name,tmV t] [])=some (.ret [bV true] []))(e26:(t.op==26)=false)(a b:Tm)(ha:t.l[0]? = some a)(hb:t.l[1]? = some b)(c:((t.l.length:Int)==2)=true)(e5:(t.op==5)=false)(e8:(t.op==8)=true)(m1:mkB t.n 1=false)(ra:run prog ext (.call 74 [sV o.name,tmV a] [])=some (.ret [bV false] []))(m2:mkB t.n 2=true)(rb:run prog ext (.call 74 [sV o.name,tmV b] [])=some (.ret [bV true] []))  : run prog ext (.call 168 [dcV o,tmV t,dV p] [])=some (.ret [.agg [.d (.v (.int .i64 43)),.d p]] []):=by
 have hlen:(t.l.length:Int)=2:=by simpa using c
 have hl0:(0:Int)<t.l.length:=by omega
 have hl1:(1:Int)<t.l.length:=by omega
 have h00:(0:Int)≤0:=by omega
 have h01:(0:Int)≤1:=by omega
 have hD:t.lD = .s 5 (t.l.map tmD):=bC0 (k:=1) (by omega)
 unfold mkB at m1
 unfold mkB at m2
 (rw[enT hx func168 rfl];simp only[f168,zR,simprocAttr,zE])
 simp only[dcV,dcC,tmV,tmC,dV,sV,bV,hD]at r74 ra rb ⊢
 simp only[zS,zD,aE0,zT33,zT31,zT9,zT3,zT45,aK0,aC0,aD0,Array.size,List.length,(id rfl:Int.toNat 1=1),r74,rb,e26,e5,e8,m1,m2,c,hl1,h01,hb,aH0 b,simprocAttr]
 rw[aB0 _ _ _ _ (by kernel_rfl)]
 simp only[zS,zD,zT45,List.length,simprocAttr]
 (refine .trans ?_ rfl;kernel_rfl)
theorem bj8E00 (hx:ext 168=none)(r74:run prog ext (.call 74 [sV o.name,tmV t] [])=some (.ret [bV true] []))(c0:Int)(F0:D)(hc0:¬ c0=0)(e26:(t.op==26)=false)(a b:Tm)(ha:t.l[0]? = some a)(hb:t.l[1]? = some b)(c:((t.l.length:Int)==2)=true)(e5:(t.op==5)=false)(e8:(t.op==8)=true)(m1:mkB t.n 1=false)(ra:run prog ext (.call 74 [sV o.name,tmV a] [])=some (.ret [bV false] []))(m2:mkB t.n 2=false)(p0:D)(q0:run prog ext (.call 112 [dV p,iV 0] [])=some (.ret [dV p0] []))(s0:run prog ext (.call 168 [dcV o,tmV a,dV p0] [])=some (.ret [.agg [.d (.v (.int .i64 c0)),.d F0]] []))  : run prog ext (.call 168 [dcV o,tmV t,dV p] [])=some (.ret [.agg [.d (.v (.int .i64 c0)),.d F0]] []):=by
 have hlen:(t.l.length:Int)=2:=by simpa using c
 have hl0:(0:Int)<t.l.length:=by omega
 have hl1:(1:Int)<t.l.length:=by omega
 have h00:(0:Int)≤0:=by omega
 have h01:(0:Int)≤1:=by omega
 have hD:t.lD = .s 5 (t.l.map tmD):=bC0 (k:=1) (by omega)
 unfold mkB at m1
 unfold mkB at m2
 (rw[enT hx func168 rfl];simp only[f168,zR,simprocAttr,zE])
 simp only[dcV,dcC,tmV,tmC,dV,sV,iV,bV,hD]at r74 ra q0 s0 ⊢
 simp only[zS,zD,aE0,zT33,zT31,zT9,zT3,zT45,aK0,aC0,aD0,Array.size,List.length,r74,e26,e5,e8,m1,m2,c,simprocAttr]
 rw[aB0 _ _ _ _ (by kernel_rfl)]
 simp only[zS,zD,zT39,zT33,zT31,zT45,aK0,aC0,aD0,Array.size,List.length,(id rfl:Int.toNat 0=0),q0,s0,hl0,h00,ha,aH0 a,simprocAttr]
 rw[aB0 _ _ _ _ (by kernel_rfl)]
 simp only[zS,zD,zT45,zT27,List.length,hc0,simprocAttr]
 (refine .trans ?_ rfl;kernel_rfl)
theorem bj8F00 (hx:ext 168=none)(r74:run prog ext (.call 74 [sV o.name,tmV t] [])=some (.ret [bV true] []))(c1:Int)(F1:D)(e26:(t.op==26)=false)(a b:Tm)(ha:t.l[0]? = some a)(hb:t.l[1]? = some b)(c:((t.l.length:Int)==2)=true)(e5:(t.op==5)=false)(e8:(t.op==8)=true)(m1:mkB t.n 1=false)(ra:run prog ext (.call 74 [sV o.name,tmV a] [])=some (.ret [bV false] []))(m2:mkB t.n 2=false)(p0:D)(q0:run prog ext (.call 112 [dV p,iV 0] [])=some (.ret [dV p0] []))(s0:run prog ext (.call 168 [dcV o,tmV a,dV p0] [])=some (.ret [.agg [.d (.v (.int .i64 0)),.d (.v (.slice none 0 0))]] []))(p1:D)(q1:run prog ext (.call 112 [dV p,iV 1] [])=some (.ret [dV p1] []))(s1:run prog ext (.call 168 [dcV o,tmV b,dV p1] [])=some (.ret [.agg [.d (.v (.int .i64 c1)),.d F1]] []))  : run prog ext (.call 168 [dcV o,tmV t,dV p] [])=some (.ret [.agg [.d (.v (.int .i64 c1)),.d F1]] []):=by
 have hlen:(t.l.length:Int)=2:=by simpa using c
 have hl0:(0:Int)<t.l.length:=by omega
 have hl1:(1:Int)<t.l.length:=by omega
 have h00:(0:Int)≤0:=by omega
 have h01:(0:Int)≤1:=by omega
 have hD:t.lD = .s 5 (t.l.map tmD):=bC0 (k:=1) (by omega)
 unfold mkB at m1
 unfold mkB at m2
 (rw[enT hx func168 rfl];simp only[f168,zR,simprocAttr,zE])
 simp only[dcV,dcC,tmV,tmC,dV,sV,iV,bV,hD]at r74 ra q0 s0 q1 s1 ⊢
 simp only[zS,zD,aE0,zT33,zT31,zT9,zT3,zT45,aK0,aC0,aD0,Array.size,List.length,r74,e26,e5,e8,m1,m2,c,simprocAttr]
 rw[aB0 _ _ _ _ (by kernel_rfl)]
 simp only[zS,zD,zT39,zT33,zT31,zT45,aK0,aC0,aD0,Array.size,List.length,(id rfl:Int.toNat 0=0),q0,s0,hl0,h00,ha,aH0 a,simprocAttr]
 rw[aB0 _ _ _ _ (by kernel_rfl)]
 simp only[zS,zD,aE0,zT33,zT31,zT9,bP0,zT27,aK0,aC0,aD0,Array.size,List.length,(id rfl:Int.toNat 0=0),ra,hl0,h00,ha,aH0 a,simprocAttr]
 rw[aB0 _ _ _ _ (by kernel_rfl)]
 simp only[zS,zD,zT39,zT33,zT31,jH0,aK0,aC0,aD0,Array.size,List.length,(id rfl:Int.toNat 1=1),q1,s1,hl1,h01,hb,aH0 b,simprocAttr]
 rw[aB0 _ _ _ _ (by kernel_rfl)]
 simp only[zS]
 (refine .trans ?_ rfl;kernel_rfl)
theorem bj8E01 (hx:ext 168=none)(r74:run prog ext (.call 74 [sV o.name,tmV t] [])=some (.ret [bV true] []))(c0:Int)(F0:D)(hc0:¬ c0=0)(e26:(t.op==26)=false)(a b:Tm)(ha:t.l[0]? = some a)(hb:t.l[1]? = some b)(c:((t.l.length:Int)==2)=true)(e5:(t.op==5)=false)(e8:(t.op==8)=true)(m1:mkB t.n 1=false)(ra:run prog ext (.call 74 [sV o.name,tmV a] [])=some (.ret [bV false] []))(m2:mkB t.n 2=true)(rb:run prog ext (.call 74 [sV o.name,tmV b] [])=some (.ret [bV false] []))(p0:D)(q0:run prog ext (.call 112 [dV p,iV 0] [])=some (.ret [dV p0] []))(s0:run prog ext (.call 168 [dcV o,tmV a,dV p0] [])=some (.ret [.agg [.d (.v (.int .i64 c0)),.d F0]] []))  : run prog ext (.call 168 [dcV o,tmV t,dV p] [])=some (.ret [.agg [.d (.v (.int .i64 c0)),.d F0]] []):=by
 have hlen:(t.l.length:Int)=2:=by simpa using c
 have hl0:(0:Int)<t.l.length:=by omega
 have hl1:(1:Int)<t.l.length:=by omega
 have h00:(0:Int)≤0:=by omega
 have h01:(0:Int)≤1:=by omega
 have hD:t.lD = .s 5 (t.l.map tmD):=bC0 (k:=1) (by omega)
 unfold mkB at m1
 unfold mkB at m2
 (rw[enT hx func168 rfl];simp only[f168,zR,simprocAttr,zE])
 simp only[dcV,dcC,tmV,tmC,dV,sV,iV,bV,hD]at r74 ra rb q0 s0 ⊢
 simp only[zS,zD,aE0,zT33,zT31,zT9,zT3,zT45,aK0,aC0,aD0,Array.size,List.length,(id rfl:Int.toNat 1=1),r74,rb,e26,e5,e8,m1,m2,c,hl1,h01,hb,aH0 b,simprocAttr]
 rw[aB0 _ _ _ _ (by kernel_rfl)]
 simp only[zS,zD,zT39,zT33,zT31,zT45,aK0,aC0,aD0,Array.size,List.length,(id rfl:Int.toNat 0=0),q0,s0,hl0,h00,ha,aH0 a,simprocAttr]
 rw[aB0 _ _ _ _ (by kernel_rfl)]
 simp only[zS,zD,zT45,zT27,List.length,hc0,simprocAttr]
 (refine .trans ?_ rfl;kernel_rfl)
theorem bj8F01 (hx:ext 168=none)(r74:run prog ext (.call 74 [sV o.name,tmV t] [])=some (.ret [bV true] []))(c1:Int)(F1:D)(e26:(t.op==26)=false)(a b:Tm)(ha:t.l[0]? = some a)(hb:t.l[1]? = some b)(c:((t.l.length:Int)==2)=true)(e5:(t.op==5)=false)(e8:(t.op==8)=true)(m1:mkB t.n 1=false)(ra:run prog ext (.call 74 [sV o.name,tmV a] [])=some (.ret [bV false] []))(m2:mkB t.n 2=true)(rb:run prog ext (.call 74 [sV o.name,tmV b] [])=some (.ret [bV false] []))(p0:D)(q0:run prog ext (.call 112 [dV p,iV 0] [])=some (.ret [dV p0] []))(s0:run prog ext (.call 168 [dcV o,tmV a,dV p0] [])=some (.ret [.agg [.d (.v (.int .i64 0)),.d (.v (.slice none 0 0))]] []))(p1:D)(q1:run prog ext (.call 112 [dV p,iV 1] [])=some (.ret [dV p1] []))(s1:run prog ext (.call 168 [dcV o,tmV b,dV p1] [])=some (.ret [.agg [.d (.v (.int .i64 c1)),.d F1]] []))  : run prog ext (.call 168 [dcV o,tmV t,dV p] [])=some (.ret [.agg [.d (.v (.int .i64 c1)),.d F1]] []):=by
 have hlen:(t.l.length:Int)=2:=by simpa using c
 have hl0:(0:Int)<t.l.length:=by omega
 have hl1:(1:Int)<t.l.length:=by omega
 have h00:(0:Int)≤0:=by omega
 have h01:(0:Int)≤1:=by omega
 have hD:t.lD = .s 5 (t.l.map tmD):=bC0 (k:=1) (by omega)
 unfold mkB at m1
 unfold mkB at m2
 (rw[enT hx func168 rfl];simp only[f168,zR,simprocAttr,zE])
 simp only[dcV,dcC,tmV,tmC,dV,sV,iV,bV,hD]at r74 ra rb q0 s0 q1 s1 ⊢
 simp only[zS,zD,aE0,zT33,zT31,zT9,zT3,zT45,aK0,aC0,aD0,Array.size,List.length,(id rfl:Int.toNat 1=1),r74,rb,e26,e5,e8,m1,m2,c,hl1,h01,hb,aH0 b,simprocAttr]
 rw[aB0 _ _ _ _ (by kernel_rfl)]
 simp only[zS,zD,zT39,zT33,zT31,zT45,aK0,aC0,aD0,Array.size,List.length,(id rfl:Int.toNat 0=0),q0,s0,hl0,h00,ha,aH0 a,simprocAttr]
 rw[aB0 _ _ _ _ (by kernel_rfl)]
 simp only[zS,zD,aE0,zT33,zT31,zT9,bP0,zT27,aK0,aC0,aD0,Array.size,List.length,(id rfl:Int.toNat 0=0),ra,hl0,h00,ha,aH0 a,simprocAttr]
 rw[aB0 _ _ _ _ (by kernel_rfl)]
 simp only[zS,zD,zT39,zT33,zT31,jH0,aK0,aC0,aD0,Array.size,List.length,(id rfl:Int.toNat 1=1),q1,s1,hl1,h01,hb,aH0 b,simprocAttr]
 rw[aB0 _ _ _ _ (by kernel_rfl)]
 simp only[zS]
 (refine .trans ?_ rfl;kernel_rfl)
theorem bj8y1 (hx:ext 168=none)(r74:run prog ext (.call 74 [sV o.name,tmV t] [])=some (.ret [bV true] []))(e26:(t.op==26)=false)(a b:Tm)(ha:t.l[0]? = some a)(hb:t.l[1]? = some b)(c:((t.l.length:Int)==2)=true)(e5:(t.op==5)=false)(e8:(t.op==8)=true)(m1:mkB t.n 1=false)(ra:run prog ext (.call 74 [sV o.name,tmV a] [])=some (.ret [bV true] []))(m2:mkB t.n 2=true)(rb:run prog ext (.call 74 [sV o.name,tmV b] [])=some (.ret [bV true] []))  : run prog ext (.call 168 [dcV o,tmV t,dV p] [])=some (.ret [.agg [.d (.v (.int .i64 43)),.d p]] []):=by
 have hlen:(t.l.length:Int)=2:=by simpa using c
 have hl0:(0:Int)<t.l.length:=by omega
 have hl1:(1:Int)<t.l.length:=by omega
 have h00:(0:Int)≤0:=by omega
 have h01:(0:Int)≤1:=by omega
 have hD:t.lD = .s 5 (t.l.map tmD):=bC0 (k:=1) (by omega)
 unfold mkB at m1
 unfold mkB at m2
 (rw[enT hx func168 rfl];simp only[f168,zR,simprocAttr,zE])
 simp only[dcV,dcC,tmV,tmC,dV,sV,bV,hD]at r74 ra rb ⊢
 simp only[zS,zD,aE0,zT33,zT31,zT9,zT3,zT45,aK0,aC0,aD0,Array.size,List.length,(id rfl:Int.toNat 1=1),r74,rb,e26,e5,e8,m1,m2,c,hl1,h01,hb,aH0 b,simprocAttr]
 rw[aB0 _ _ _ _ (by kernel_rfl)]
 simp only[zS,zD,zT45,List.length,simprocAttr]
 (refine .trans ?_ rfl;kernel_rfl)
theorem bj8E10 (hx:ext 168=none)(r74:run prog ext (.call 74 [sV o.name,tmV t] [])=some (.ret [bV true] []))(c0:Int)(F0:D)(hc0:¬ c0=0)(e26:(t.op==26)=false)(a b:Tm)(ha:t.l[0]? = some a)(hb:t.l[1]? = some b)(c:((t.l.length:Int)==2)=true)(e5:(t.op==5)=false)(e8:(t.op==8)=true)(m1:mkB t.n 1=false)(ra:run prog ext (.call 74 [sV o.name,tmV a] [])=some (.ret [bV true] []))(m2:mkB t.n 2=false)(p0:D)(q0:run prog ext (.call 112 [dV p,iV 0] [])=some (.ret [dV p0] []))(s0:run prog ext (.call 168 [dcV o,tmV a,dV p0] [])=some (.ret [.agg [.d (.v (.int .i64 c0)),.d F0]] []))  : run prog ext (.call 168 [dcV o,tmV t,dV p] [])=some (.ret [.agg [.d (.v (.int .i64 c0)),.d F0]] []):=by
 have hlen:(t.l.length:Int)=2:=by simpa using c
 have hl0:(0:Int)<t.l.length:=by omega
 have hl1:(1:Int)<t.l.length:=by omega
 have h00:(0:Int)≤0:=by omega
 have h01:(0:Int)≤1:=by omega
 have hD:t.lD = .s 5 (t.l.map tmD):=bC0 (k:=1) (by omega)
 unfold mkB at m1
 unfold mkB at m2
 (rw[enT hx func168 rfl];simp only[f168,zR,simprocAttr,zE])
 simp only[dcV,dcC,tmV,tmC,dV,sV,iV,bV,hD]at r74 ra q0 s0 ⊢
 simp only[zS,zD,aE0,zT33,zT31,zT9,zT3,zT45,aK0,aC0,aD0,Array.size,List.length,r74,e26,e5,e8,m1,m2,c,simprocAttr]
 rw[aB0 _ _ _ _ (by kernel_rfl)]
 simp only[zS,zD,zT39,zT33,zT31,zT45,aK0,aC0,aD0,Array.size,List.length,(id rfl:Int.toNat 0=0),q0,s0,hl0,h00,ha,aH0 a,simprocAttr]
 rw[aB0 _ _ _ _ (by kernel_rfl)]
 simp only[zS,zD,zT45,zT27,List.length,hc0,simprocAttr]
 (refine .trans ?_ rfl;kernel_rfl)
theorem bj8X10 (hx:ext 168=none)(r74:run prog ext (.call 74 [sV o.name,tmV t] [])=some (.ret [bV true] []))(e26:(t.op==26)=false)(a b:Tm)(ha:t.l[0]? = some a)(hb:t.l[1]? = some b)(c:((t.l.length:Int)==2)=true)(e5:(t.op==5)=false)(e8:(t.op==8)=true)(m1:mkB t.n 1=false)(ra:run prog ext (.call 74 [sV o.name,tmV a] [])=some (.ret [bV true] []))(m2:mkB t.n 2=false)(p0:D)(q0:run prog ext (.call 112 [dV p,iV 0] [])=some (.ret [dV p0] []))(s0:run prog ext (.call 168 [dcV o,tmV a,dV p0] [])=some (.ret [.agg [.d (.v (.int .i64 0)),.d (.v (.slice none 0 0))]] []))(r232:run prog ext (.call 232 [tmV b,iV 0] [])=some (.ret [bV true] []))  : run prog ext (.call 168 [dcV o,tmV t,dV p] [])=some (.ret [.agg [.d (.v (.int .i64 43)),.d p]] []):=by
 have hlen:(t.l.length:Int)=2:=by simpa using c
 have hl0:(0:Int)<t.l.length:=by omega
 have hl1:(1:Int)<t.l.length:=by omega
 have h00:(0:Int)≤0:=by omega
 have h01:(0:Int)≤1:=by omega
 have hD:t.lD = .s 5 (t.l.map tmD):=bC0 (k:=1) (by omega)
 unfold mkB at m1
 unfold mkB at m2
 (rw[enT hx func168 rfl];simp only[f168,zR,simprocAttr,zE])
 simp only[dcV,dcC,tmV,tmC,dV,sV,iV,bV,hD]at r74 ra q0 s0 r232 ⊢
 simp only[zS,zD,aE0,zT33,zT31,zT9,zT3,zT45,aK0,aC0,aD0,Array.size,List.length,r74,e26,e5,e8,m1,m2,c,simprocAttr]
 rw[aB0 _ _ _ _ (by kernel_rfl)]
 simp only[zS,zD,zT39,zT33,zT31,zT45,aK0,aC0,aD0,Array.size,List.length,(id rfl:Int.toNat 0=0),q0,s0,hl0,h00,ha,aH0 a,simprocAttr]
 rw[aB0 _ _ _ _ (by kernel_rfl)]
 simp only[zS,zD,aE0,zT33,zT31,zT9,bP0,zT27,aK0,aC0,aD0,Array.size,List.length,(id rfl:Int.toNat 0=0),(id rfl:Int.toNat 1=1),ra,r232,hl0,hl1,h00,h01,ha,hb,aH0 a,aH0 b,simprocAttr]
 rw[aB0 _ _ _ _ (by kernel_rfl)]
 simp only[zS,zD,zT45,List.length,simprocAttr]
 (refine .trans ?_ rfl;kernel_rfl)
theorem bj8G10 (hx:ext 168=none)(r74:run prog ext (.call 74 [sV o.name,tmV t] [])=some (.ret [bV true] []))(c1:Int)(F1:D)(e26:(t.op==26)=false)(a b:Tm)(ha:t.l[0]? = some a)(hb:t.l[1]? = some b)(c:((t.l.length:Int)==2)=true)(e5:(t.op==5)=false)(e8:(t.op==8)=true)(m1:mkB t.n 1=false)(ra:run prog ext (.call 74 [sV o.name,tmV a] [])=some (.ret [bV true] []))(m2:mkB t.n 2=false)(p0:D)(q0:run prog ext (.call 112 [dV p,iV 0] [])=some (.ret [dV p0] []))(s0:run prog ext (.call 168 [dcV o,tmV a,dV p0] [])=some (.ret [.agg [.d (.v (.int .i64 0)),.d (.v (.slice none 0 0))]] []))(r232:run prog ext (.call 232 [tmV b,iV 0] [])=some (.ret [bV false] []))(p1:D)(q1:run prog ext (.call 112 [dV p,iV 1] [])=some (.ret [dV p1] []))(s1:run prog ext (.call 168 [dcV o,tmV b,dV p1] [])=some (.ret [.agg [.d (.v (.int .i64 c1)),.d F1]] []))  : run prog ext (.call 168 [dcV o,tmV t,dV p] [])=some (.ret [.agg [.d (.v (.int .i64 c1)),.d F1]] []):=by
 have hlen:(t.l.length:Int)=2:=by simpa using c
 have hl0:(0:Int)<t.l.length:=by omega
 have hl1:(1:Int)<t.l.length:=by omega
 have h00:(0:Int)≤0:=by omega
 have h01:(0:Int)≤1:=by omega
 have hD:t.lD = .s 5 (t.l.map tmD):=bC0 (k:=1) (by omega)
 unfold mkB at m1
 unfold mkB at m2
 (rw[enT hx func168 rfl];simp only[f168,zR,simprocAttr,zE])
 simp only[dcV,dcC,tmV,tmC,dV,sV,iV,bV,hD]at r74 ra q0 s0 r232 q1 s1 ⊢
 simp only[zS,zD,aE0,zT33,zT31,zT9,zT3,zT45,aK0,aC0,aD0,Array.size,List.length,r74,e26,e5,e8,m1,m2,c,simprocAttr]
 rw[aB0 _ _ _ _ (by kernel_rfl)]
 simp only[zS,zD,zT39,zT33,zT31,zT45,aK0,aC0,aD0,Array.size,List.length,(id rfl:Int.toNat 0=0),q0,s0,hl0,h00,ha,aH0 a,simprocAttr]
 rw[aB0 _ _ _ _ (by kernel_rfl)]
 simp only[zS,zD,aE0,zT33,zT31,zT9,bP0,zT27,aK0,aC0,aD0,Array.size,List.length,(id rfl:Int.toNat 0=0),(id rfl:Int.toNat 1=1),ra,r232,hl0,hl1,h00,h01,ha,hb,aH0 a,aH0 b,simprocAttr]
 rw[aB0 _ _ _ _ (by kernel_rfl)]
 simp only[zS,zD,zT39,zT33,zT31,jH0,aK0,aC0,aD0,Array.size,List.length,(id rfl:Int.toNat 1=1),q1,s1,hl1,h01,hb,aH0 b,simprocAttr]
 rw[aB0 _ _ _ _ (by kernel_rfl)]
 simp only[zS]
 (refine .trans ?_ rfl;kernel_rfl)
theorem bj8E11 (hx:ext 168=none)(r74:run prog ext (.call 74 [sV o.name,tmV t] [])=some (.ret [bV true] []))(c0:Int)(F0:D)(hc0:¬ c0=0)(e26:(t.op==26)=false)(a b:Tm)(ha:t.l[0]? = some a)(hb:t.l[1]? = some b)(c:((t.l.length:Int)==2)=true)(e5:(t.op==5)=false)(e8:(t.op==8)=true)(m1:mkB t.n 1=false)(ra:run prog ext (.call 74 [sV o.name,tmV a] [])=some (.ret [bV true] []))(m2:mkB t.n 2=true)(rb:run prog ext (.call 74 [sV o.name,tmV b] [])=some (.ret [bV false] []))(p0:D)(q0:run prog ext (.call 112 [dV p,iV 0] [])=some (.ret [dV p0] []))(s0:run prog ext (.call 168 [dcV o,tmV a,dV p0] [])=some (.ret [.agg [.d (.v (.int .i64 c0)),.d F0]] []))  : run prog ext (.call 168 [dcV o,tmV t,dV p] [])=some (.ret [.agg [.d (.v (.int .i64 c0)),.d F0]] []):=by
 have hlen:(t.l.length:Int)=2:=by simpa using c
 have hl0:(0:Int)<t.l.length:=by omega
 have hl1:(1:Int)<t.l.length:=by omega
 have h00:(0:Int)≤0:=by omega
 have h01:(0:Int)≤1:=by omega
 have hD:t.lD = .s 5 (t.l.map tmD):=bC0 (k:=1) (by omega)
 unfold mkB at m1
 unfold mkB at m2
 (rw[enT hx func168 rfl];simp only[f168,zR,simprocAttr,zE])
 simp only[dcV,dcC,tmV,tmC,dV,sV,iV,bV,hD]at r74 ra rb q0 s0 ⊢
 simp only[zS,zD,aE0,zT33,zT31,zT9,zT3,zT45,aK0,aC0,aD0,Array.size,List.length,(id rfl:Int.toNat 1=1),r74,rb,e26,e5,e8,m1,m2,c,hl1,h01,hb,aH0 b,simprocAttr]
 rw[aB0 _ _ _ _ (by kernel_rfl)]
 simp only[zS,zD,zT39,zT33,zT31,zT45,aK0,aC0,aD0,Array.size,List.length,(id rfl:Int.toNat 0=0),q0,s0,hl0,h00,ha,aH0 a,simprocAttr]
 rw[aB0 _ _ _ _ (by kernel_rfl)]
 simp only[zS,zD,zT45,zT27,List.length,hc0,simprocAttr]
 (refine .trans ?_ rfl;kernel_rfl)
theorem bj8X11 (hx:ext 168=none)(r74:run prog ext (.call 74 [sV o.name,tmV t] [])=some (.ret [bV true] []))(e26:(t.op==26)=false)(a b:Tm)(ha:t.l[0]? = some a)(hb:t.l[1]? = some b)(c:((t.l.length:Int)==2)=true)(e5:(t.op==5)=false)(e8:(t.op==8)=true)(m1:mkB t.n 1=false)(ra:run prog ext (.call 74 [sV o.name,tmV a] [])=some (.ret [bV true] []))(m2:mkB t.n 2=true)(rb:run prog ext (.call 74 [sV o.name,tmV b] [])=some (.ret [bV false] []))(p0:D)(q0:run prog ext (.call 112 [dV p,iV 0] [])=some (.ret [dV p0] []))(s0:run prog ext (.call 168 [dcV o,tmV a,dV p0] [])=some (.ret [.agg [.d (.v (.int .i64 0)),.d (.v (.slice none 0 0))]] []))(r232:run prog ext (.call 232 [tmV b,iV 0] [])=some (.ret [bV true] []))  : run prog ext (.call 168 [dcV o,tmV t,dV p] [])=some (.ret [.agg [.d (.v (.int .i64 43)),.d p]] []):=by
 have hlen:(t.l.length:Int)=2:=by simpa using c
 have hl0:(0:Int)<t.l.length:=by omega
 have hl1:(1:Int)<t.l.length:=by omega
 have h00:(0:Int)≤0:=by omega
 have h01:(0:Int)≤1:=by omega
 have hD:t.lD = .s 5 (t.l.map tmD):=bC0 (k:=1) (by omega)
 unfold mkB at m1
 unfold mkB at m2
 (rw[enT hx func168 rfl];simp only[f168,zR,simprocAttr,zE])
 simp only[dcV,dcC,tmV,tmC,dV,sV,iV,bV,hD]at r74 ra rb q0 s0 r232 ⊢
 simp only[zS,zD,aE0,zT33,zT31,zT9,zT3,zT45,aK0,aC0,aD0,Array.size,List.length,(id rfl:Int.toNat 1=1),r74,rb,e26,e5,e8,m1,m2,c,hl1,h01,hb,aH0 b,simprocAttr]
 rw[aB0 _ _ _ _ (by kernel_rfl)]
 simp only[zS,zD,zT39,zT33,zT31,zT45,aK0,aC0,aD0,Array.size,List.length,(id rfl:Int.toNat 0=0),q0,s0,hl0,h00,ha,aH0 a,simprocAttr]
 rw[aB0 _ _ _ _ (by kernel_rfl)]
 simp only[zS,zD,aE0,zT33,zT31,zT9,bP0,zT27,aK0,aC0,aD0,Array.size,List.length,(id rfl:Int.toNat 0=0),(id rfl:Int.toNat 1=1),ra,r232,hl0,hl1,h00,h01,ha,hb,aH0 a,aH0 b,simprocAttr]
 rw[aB0 _ _ _ _ (by kernel_rfl)]
 simp only[zS,zD,zT45,List.length,simprocAttr]
 (refine .trans ?_ rfl;kernel_rfl)
theorem bj8G11 (hx:ext 168=none)(r74:run prog ext (.call 74 [sV o.name,tmV t] [])=some (.ret [bV true] []))(c1:Int)(F1:D)(e26:(t.op==26)=false)(a b:Tm)(ha:t.l[0]? = some a)(hb:t.l[1]? = some b)(c:((t.l.length:Int)==2)=true)(e5:(t.op==5)=false)(e8:(t.op==8)=true)(m1:mkB t.n 1=false)(ra:run prog ext (.call 74 [sV o.name,tmV a] [])=some (.ret [bV true] []))(m2:mkB t.n 2=true)(rb:run prog ext (.call 74 [sV o.name,tmV b] [])=some (.ret [bV false] []))(p0:D)(q0:run prog ext (.call 112 [dV p,iV 0] [])=some (.ret [dV p0] []))(s0:run prog ext (.call 168 [dcV o,tmV a,dV p0] [])=some (.ret [.agg [.d (.v (.int .i64 0)),.d (.v (.slice none 0 0))]] []))(r232:run prog ext (.call 232 [tmV b,iV 0] [])=some (.ret [bV false] []))(p1:D)(q1:run prog ext (.call 112 [dV p,iV 1] [])=some (.ret [dV p1] []))(s1:run prog ext (.call 168 [dcV o,tmV b,dV p1] [])=some (.ret [.agg [.d (.v (.int .i64 c1)),.d F1]] []))  : run prog ext (.call 168 [dcV o,tmV t,dV p] [])=some (.ret [.agg [.d (.v (.int .i64 c1)),.d F1]] []):=by
 have hlen:(t.l.length:Int)=2:=by simpa using c
 have hl0:(0:Int)<t.l.length:=by omega
 have hl1:(1:Int)<t.l.length:=by omega
 have h00:(0:Int)≤0:=by omega
 have h01:(0:Int)≤1:=by omega
 have hD:t.lD = .s 5 (t.l.map tmD):=bC0 (k:=1) (by omega)
 unfold mkB at m1
 unfold mkB at m2
 (rw[enT hx func168 rfl];simp only[f168,zR,simprocAttr,zE])
 simp only[dcV,dcC,tmV,tmC,dV,sV,iV,bV,hD]at r74 ra rb q0 s0 r232 q1 s1 ⊢
 simp only[zS,zD,aE0,zT33,zT31,zT9,zT3,zT45,aK0,aC0,aD0,Array.size,List.length,(id rfl:Int.toNat 1=1),r74,rb,e26,e5,e8,m1,m2,c,hl1,h01,hb,aH0 b,simprocAttr]
 rw[aB0 _ _ _ _ (by kernel_rfl)]
 simp only[zS,zD,zT39,zT33,zT31,zT45,aK0,aC0,aD0,Array.size,List.length,(id rfl:Int.toNat 0=0),q0,s0,hl0,h00,ha,aH0 a,simprocAttr]
 rw[aB0 _ _ _ _ (by kernel_rfl)]
 simp only[zS,zD,aE0,zT33,zT31,zT9,bP0,zT27,aK0,aC0,aD0,Array.size,List.length,(id rfl:Int.toNat 0=0),(id rfl:Int.toNat 1=1),ra,r232,hl0,hl1,h00,h01,ha,hb,aH0 a,aH0 b,simprocAttr]
 rw[aB0 _ _ _ _ (by kernel_rfl)]
 simp only[zS,zD,zT39,zT33,zT31,jH0,aK0,aC0,aD0,Array.size,List.length,(id rfl:Int.toNat 1=1),q1,s1,hl1,h01,hb,aH0 b,simprocAttr]
 rw[aB0 _ _ _ _ (by kernel_rfl)]
 simp only[zS]
 (refine .trans ?_ rfl;kernel_rfl)
theorem bj8y2 (hx:ext 168=none)(r74:run prog ext (.call 74 [sV o.name,tmV t] [])=some (.ret [bV true] []))(e26:(t.op==26)=false)(a b:Tm)(ha:t.l[0]? = some a)(hb:t.l[1]? = some b)(c:((t.l.length:Int)==2)=true)(e5:(t.op==5)=false)(e8:(t.op==8)=true)(m1:mkB t.n 1=true)(ra:run prog ext (.call 74 [sV o.name,tmV a] [])=some (.ret [bV false] []))(m2:mkB t.n 2=true)(rb:run prog ext (.call 74 [sV o.name,tmV b] [])=some (.ret [bV true] []))  : run prog ext (.call 168 [dcV o,tmV t,dV p] [])=some (.ret [.agg [.d (.v (.int .i64 43)),.d p]] []):=by
 have hlen:(t.l.length:Int)=2:=by simpa using c
 have hl0:(0:Int)<t.l.length:=by omega
 have hl1:(1:Int)<t.l.length:=by omega
 have h00:(0:Int)≤0:=by omega
 have h01:(0:Int)≤1:=by omega
 have hD:t.lD = .s 5 (t.l.map tmD):=bC0 (k:=1) (by omega)
 unfold mkB at m1
 unfold mkB at m2
 (rw[enT hx func168 rfl];simp only[f168,zR,simprocAttr,zE])
 simp only[dcV,dcC,tmV,tmC,dV,sV,bV,hD]at r74 ra rb ⊢
 simp only[zS,zD,aE0,zT33,zT31,zT9,zT3,zT45,aK0,aC0,aD0,Array.size,List.length,(id rfl:Int.toNat 0=0),(id rfl:Int.toNat 1=1),r74,ra,rb,e26,e5,e8,m1,m2,c,hl0,hl1,h00,h01,ha,hb,aH0 a,aH0 b,simprocAttr]
 rw[aB0 _ _ _ _ (by kernel_rfl)]
 simp only[zS,zD,zT45,List.length,simprocAttr]
 (refine .trans ?_ rfl;kernel_rfl)
theorem bj8E20 (hx:ext 168=none)(r74:run prog ext (.call 74 [sV o.name,tmV t] [])=some (.ret [bV true] []))(c0:Int)(F0:D)(hc0:¬ c0=0)(e26:(t.op==26)=false)(a b:Tm)(ha:t.l[0]? = some a)(hb:t.l[1]? = some b)(c:((t.l.length:Int)==2)=true)(e5:(t.op==5)=false)(e8:(t.op==8)=true)(m1:mkB t.n 1=true)(ra:run prog ext (.call 74 [sV o.name,tmV a] [])=some (.ret [bV false] []))(m2:mkB t.n 2=false)(p0:D)(q0:run prog ext (.call 112 [dV p,iV 0] [])=some (.ret [dV p0] []))(s0:run prog ext (.call 168 [dcV o,tmV a,dV p0] [])=some (.ret [.agg [.d (.v (.int .i64 c0)),.d F0]] []))  : run prog ext (.call 168 [dcV o,tmV t,dV p] [])=some (.ret [.agg [.d (.v (.int .i64 c0)),.d F0]] []):=by
 have hlen:(t.l.length:Int)=2:=by simpa using c
 have hl0:(0:Int)<t.l.length:=by omega
 have hl1:(1:Int)<t.l.length:=by omega
 have h00:(0:Int)≤0:=by omega
 have h01:(0:Int)≤1:=by omega
 have hD:t.lD = .s 5 (t.l.map tmD):=bC0 (k:=1) (by omega)
 unfold mkB at m1
 unfold mkB at m2
 (rw[enT hx func168 rfl];simp only[f168,zR,simprocAttr,zE])
 simp only[dcV,dcC,tmV,tmC,dV,sV,iV,bV,hD]at r74 ra q0 s0 ⊢
 simp only[zS,zD,aE0,zT33,zT31,zT9,zT3,zT45,aK0,aC0,aD0,Array.size,List.length,(id rfl:Int.toNat 0=0),r74,ra,e26,e5,e8,m1,m2,c,hl0,h00,ha,aH0 a,simprocAttr]
 rw[aB0 _ _ _ _ (by kernel_rfl)]
 simp only[zS,zD,zT39,zT33,zT31,zT45,aK0,aC0,aD0,Array.size,List.length,(id rfl:Int.toNat 0=0),q0,s0,hl0,h00,ha,aH0 a,simprocAttr]
 rw[aB0 _ _ _ _ (by kernel_rfl)]
 simp only[zS,zD,zT45,zT27,List.length,hc0,simprocAttr]
 (refine .trans ?_ rfl;kernel_rfl)
theorem bj8F20 (hx:ext 168=none)(r74:run prog ext (.call 74 [sV o.name,tmV t] [])=some (.ret [bV true] []))(c1:Int)(F1:D)(e26:(t.op==26)=false)(a b:Tm)(ha:t.l[0]? = some a)(hb:t.l[1]? = some b)(c:((t.l.length:Int)==2)=true)(e5:(t.op==5)=false)(e8:(t.op==8)=true)(m1:mkB t.n 1=true)(ra:run prog ext (.call 74 [sV o.name,tmV a] [])=some (.ret [bV false] []))(m2:mkB t.n 2=false)(p0:D)(q0:run prog ext (.call 112 [dV p,iV 0] [])=some (.ret [dV p0] []))(s0:run prog ext (.call 168 [dcV o,tmV a,dV p0] [])=some (.ret [.agg [.d (.v (.int .i64 0)),.d (.v (.slice none 0 0))]] []))(p1:D)(q1:run prog ext (.call 112 [dV p,iV 1] [])=some (.ret [dV p1] []))(s1:run prog ext (.call 168 [dcV o,tmV b,dV p1] [])=some (.ret [.agg [.d (.v (.int .i64 c1)),.d F1]] []))  : run prog ext (.call 168 [dcV o,tmV t,dV p] [])=some (.ret [.agg [.d (.v (.int .i64 c1)),.d F1]] []):=by
 have hlen:(t.l.length:Int)=2:=by simpa using c
 have hl0:(0:Int)<t.l.length:=by omega
 have hl1:(1:Int)<t.l.length:=by omega
 have h00:(0:Int)≤0:=by omega
 have h01:(0:Int)≤1:=by omega
 have hD:t.lD = .s 5 (t.l.map tmD):=bC0 (k:=1) (by omega)
 unfold mkB at m1
 unfold mkB at m2
 (rw[enT hx func168 rfl];simp only[f168,zR,simprocAttr,zE])
 simp only[dcV,dcC,tmV,tmC,dV,sV,iV,bV,hD]at r74 ra q0 s0 q1 s1 ⊢
 simp only[zS,zD,aE0,zT33,zT31,zT9,zT3,zT45,aK0,aC0,aD0,Array.size,List.length,(id rfl:Int.toNat 0=0),r74,ra,e26,e5,e8,m1,m2,c,hl0,h00,ha,aH0 a,simprocAttr]
 rw[aB0 _ _ _ _ (by kernel_rfl)]
 simp only[zS,zD,zT39,zT33,zT31,zT45,aK0,aC0,aD0,Array.size,List.length,(id rfl:Int.toNat 0=0),q0,s0,hl0,h00,ha,aH0 a,simprocAttr]
 rw[aB0 _ _ _ _ (by kernel_rfl)]
 simp only[zS,zD,aE0,zT33,zT31,zT9,bP0,zT27,aK0,aC0,aD0,Array.size,List.length,(id rfl:Int.toNat 0=0),ra,hl0,h00,ha,aH0 a,simprocAttr]
 rw[aB0 _ _ _ _ (by kernel_rfl)]
 simp only[zS,zD,zT39,zT33,zT31,jH0,aK0,aC0,aD0,Array.size,List.length,(id rfl:Int.toNat 1=1),q1,s1,hl1,h01,hb,aH0 b,simprocAttr]
 rw[aB0 _ _ _ _ (by kernel_rfl)]
 simp only[zS]
 (refine .trans ?_ rfl;kernel_rfl)
theorem bj8E21 (hx:ext 168=none)(r74:run prog ext (.call 74 [sV o.name,tmV t] [])=some (.ret [bV true] []))(c0:Int)(F0:D)(hc0:¬ c0=0)(e26:(t.op==26)=false)(a b:Tm)(ha:t.l[0]? = some a)(hb:t.l[1]? = some b)(c:((t.l.length:Int)==2)=true)(e5:(t.op==5)=false)(e8:(t.op==8)=true)(m1:mkB t.n 1=true)(ra:run prog ext (.call 74 [sV o.name,tmV a] [])=some (.ret [bV false] []))(m2:mkB t.n 2=true)(rb:run prog ext (.call 74 [sV o.name,tmV b] [])=some (.ret [bV false] []))(p0:D)(q0:run prog ext (.call 112 [dV p,iV 0] [])=some (.ret [dV p0] []))(s0:run prog ext (.call 168 [dcV o,tmV a,dV p0] [])=some (.ret [.agg [.d (.v (.int .i64 c0)),.d F0]] []))  : run prog ext (.call 168 [dcV o,tmV t,dV p] [])=some (.ret [.agg [.d (.v (.int .i64 c0)),.d F0]] []):=by
 have hlen:(t.l.length:Int)=2:=by simpa using c
 have hl0:(0:Int)<t.l.length:=by omega
 have hl1:(1:Int)<t.l.length:=by omega
 have h00:(0:Int)≤0:=by omega
 have h01:(0:Int)≤1:=by omega
 have hD:t.lD = .s 5 (t.l.map tmD):=bC0 (k:=1) (by omega)
 unfold mkB at m1
 unfold mkB at m2
 (rw[enT hx func168 rfl];simp only[f168,zR,simprocAttr,zE])
 simp only[dcV,dcC,tmV,tmC,dV,sV,iV,bV,hD]at r74 ra rb q0 s0 ⊢
 simp only[zS,zD,aE0,zT33,zT31,zT9,zT3,zT45,aK0,aC0,aD0,Array.size,List.length,(id rfl:Int.toNat 0=0),(id rfl:Int.toNat 1=1),r74,ra,rb,e26,e5,e8,m1,m2,c,hl0,hl1,h00,h01,ha,hb,aH0 a,aH0 b,simprocAttr]
 rw[aB0 _ _ _ _ (by kernel_rfl)]
 simp only[zS,zD,zT39,zT33,zT31,zT45,aK0,aC0,aD0,Array.size,List.length,(id rfl:Int.toNat 0=0),q0,s0,hl0,h00,ha,aH0 a,simprocAttr]
 rw[aB0 _ _ _ _ (by kernel_rfl)]
 simp only[zS,zD,zT45,zT27,List.length,hc0,simprocAttr]
 (refine .trans ?_ rfl;kernel_rfl)
theorem bj8F21 (hx:ext 168=none)(r74:run prog ext (.call 74 [sV o.name,tmV t] [])=some (.ret [bV true] []))(c1:Int)(F1:D)(e26:(t.op==26)=false)(a b:Tm)(ha:t.l[0]? = some a)(hb:t.l[1]? = some b)(c:((t.l.length:Int)==2)=true)(e5:(t.op==5)=false)(e8:(t.op==8)=true)(m1:mkB t.n 1=true)(ra:run prog ext (.call 74 [sV o.name,tmV a] [])=some (.ret [bV false] []))(m2:mkB t.n 2=true)(rb:run prog ext (.call 74 [sV o.name,tmV b] [])=some (.ret [bV false] []))(p0:D)(q0:run prog ext (.call 112 [dV p,iV 0] [])=some (.ret [dV p0] []))(s0:run prog ext (.call 168 [dcV o,tmV a,dV p0] [])=some (.ret [.agg [.d (.v (.int .i64 0)),.d (.v (.slice none 0 0))]] []))(p1:D)(q1:run prog ext (.call 112 [dV p,iV 1] [])=some (.ret [dV p1] []))(s1:run prog ext (.call 168 [dcV o,tmV b,dV p1] [])=some (.ret [.agg [.d (.v (.int .i64 c1)),.d F1]] []))  : run prog ext (.call 168 [dcV o,tmV t,dV p] [])=some (.ret [.agg [.d (.v (.int .i64 c1)),.d F1]] []):=by
 have hlen:(t.l.length:Int)=2:=by simpa using c
 have hl0:(0:Int)<t.l.length:=by omega
 have hl1:(1:Int)<t.l.length:=by omega
 have h00:(0:Int)≤0:=by omega
 have h01:(0:Int)≤1:=by omega
 have hD:t.lD = .s 5 (t.l.map tmD):=bC0 (k:=1) (by omega)
 unfold mkB at m1
 unfold mkB at m2
 (rw[enT hx func168 rfl];simp only[f168,zR,simprocAttr,zE])
 simp only[dcV,dcC,tmV,tmC,dV,sV,iV,bV,hD]at r74 ra rb q0 s0 q1 s1 ⊢
 simp only[zS,zD,aE0,zT33,zT31,zT9,zT3,zT45,aK0,aC0,aD0,Array.size,List.length,(id rfl:Int.toNat 0=0),(id rfl:Int.toNat 1=1),r74,ra,rb,e26,e5,e8,m1,m2,c,hl0,hl1,h00,h01,ha,hb,aH0 a,aH0 b,simprocAttr]
 rw[aB0 _ _ _ _ (by kernel_rfl)]
 simp only[zS,zD,zT39,zT33,zT31,zT45,aK0,aC0,aD0,Array.size,List.length,(id rfl:Int.toNat 0=0),q0,s0,hl0,h00,ha,aH0 a,simprocAttr]
 rw[aB0 _ _ _ _ (by kernel_rfl)]
 simp only[zS,zD,aE0,zT33,zT31,zT9,bP0,zT27,aK0,aC0,aD0,Array.size,List.length,(id rfl:Int.toNat 0=0),ra,hl0,h00,ha,aH0 a,simprocAttr]
 rw[aB0 _ _ _ _ (by kernel_rfl)]
 simp only[zS,zD,zT39,zT33,zT31,jH0,aK0,aC0,aD0,Array.size,List.length,(id rfl:Int.toNat 1=1),q1,s1,hl1,h01,hb,aH0 b,simprocAttr]
 rw[aB0 _ _ _ _ (by kernel_rfl)]
 simp only[zS]
 (refine .trans ?_ rfl;kernel_rfl)
end
end
end Go.Proofs.YteenjodhmppgjaaGreatDoor.Am
