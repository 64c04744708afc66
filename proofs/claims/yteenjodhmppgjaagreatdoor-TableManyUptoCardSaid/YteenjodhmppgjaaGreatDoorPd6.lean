/- A part of the proof of a card. No conditions. -/
import Derived.Test.YteenjodhmppgjaaGreatDoorPd1
import Derived.Test.YteenjodhmppgjaaGreatDoorPd5
set_option linter.all false
set_option maxHeartbeats 16000000
set_option maxRecDepth 10000
namespace Go.Proofs.YteenjodhmppgjaaGreatDoor.Am
open Go.Proofs.Tryz
section
open Go
variable (ext:Ext)
def mkB (n m:Int):Bool:=andI .i64 n m != 0
section
variable (o:Dc) (t:Tm) (els:List (List D)) (w:D)
theorem ag0 (hx:ext 113=none)  (r72:run prog ext (.call 72 [sV o.name,tmV t] [])=some (.ret [bV false] []))  : run prog ext (.call 113 [dcV o,tmV t,.c (.own 0)] [.stk 1 els none true])=some (.ret [V.c (.d (.v .nilIface))] [.stk 1 els none true]):=by
 (rw[enT hx func113 rfl];simp only[f113,zR,simprocAttr,zE])
 simp only[dcV,dcC,tmV,tmC,sV,bV]at r72  ⊢
 simp only[zS,zD,aE0,zT33,zT9,List.length,r72,simprocAttr]
 (refine .trans ?_ rfl;kernel_rfl)
theorem ag1 (hx:ext 113=none)(hs:cP0 els els=true)(r102:run prog ext (.call 102 [iV 43,.c (.own 0)] [.stk 1 els none true])=some (.ret [dV w] [.stk 1 els none true]))(r72:run prog ext (.call 72 [sV o.name,tmV t] [])=some (.ret [bV true] []))(e26:(t.op==26)=true)(en:(t.s.toList==o.name.toList)=true)(r182:run prog ext (.call 182 [dcV o,dV t.uD] [])=some (.ret [bV false] [])):run prog ext (.call 113 [dcV o,tmV t,.c (.own 0)] [.stk 1 els none true])=some (.ret [dV w] [.stk 1 els none true]):=by
 (rw[enT hx func113 rfl];simp only[f113,zR,simprocAttr,zE])
 simp only[dcV,dcC,tmV,tmC,dV,sV,iV,bV]at r72 r102 r182 ⊢
 simp only[zS,zD,zT39,zT33,zT30,zT9,zT3,Array.size,List.length,aU0,(id rfl:ownF 102=true),aN0,aW0,bT0,aX0,Bool.or_true,r72,hs,r102,r182,e26,en,simprocAttr]
 (refine .trans ?_ rfl;kernel_rfl)
theorem ag3a (hx:ext 113=none)(hs:cP0 els els=true)(r102:run prog ext (.call 102 [iV 43,.c (.own 0)] [.stk 1 els none true])=some (.ret [dV w] [.stk 1 els none true]))(r72:run prog ext (.call 72 [sV o.name,tmV t] [])=some (.ret [bV true] []))(e26:(t.op==26)=false)(c:((t.l.length:Int) != 2)=true):run prog ext (.call 113 [dcV o,tmV t,.c (.own 0)] [.stk 1 els none true])=some (.ret [dV w] [.stk 1 els none true]):=by
 (rw[enT hx func113 rfl];simp only[f113,zR,simprocAttr,zE])
 simp only[dcV,dcC,tmV,tmC,dV,sV,iV,bV]at r72 r102 ⊢
 simp only[zS,zD,aE0,zT33,zT31,zT9,zT3,Array.size,List.length,aU0,(id rfl:ownF 102=true),aN0,aW0,bT0,aX0,Bool.or_true,r72,hs,r102,e26,c,aI0,simprocAttr]
 (refine .trans ?_ rfl;kernel_rfl)
theorem ag3b (hx:ext 113=none)(hs:cP0 els els=true)(r102:run prog ext (.call 102 [iV 43,.c (.own 0)] [.stk 1 els none true])=some (.ret [dV w] [.stk 1 els none true]))(r72:run prog ext (.call 72 [sV o.name,tmV t] [])=some (.ret [bV true] []))(e26:(t.op==26)=true)(en:(t.s.toList==o.name.toList)=false)(c:((t.l.length:Int) != 2)=true):run prog ext (.call 113 [dcV o,tmV t,.c (.own 0)] [.stk 1 els none true])=some (.ret [dV w] [.stk 1 els none true]):=by
 (rw[enT hx func113 rfl];simp only[f113,zR,simprocAttr,zE])
 simp only[dcV,dcC,tmV,tmC,dV,sV,iV,bV]at r72 r102 ⊢
 simp only[zS,zD,aE0,zT33,zT31,zT9,zT3,Array.size,List.length,aU0,(id rfl:ownF 102=true),aN0,aW0,bT0,aX0,Bool.or_true,r72,hs,r102,e26,en,c,aI0,simprocAttr]
 (refine .trans ?_ rfl;kernel_rfl)
theorem ag2t (hx:ext 113=none)(hs:cP0 els els=true)(r102:run prog ext (.call 102 [iV 43,.c (.own 0)] [.stk 1 els none true])=some (.ret [dV w] [.stk 1 els none true]))(r72:run prog ext (.call 72 [sV o.name,tmV t] [])=some (.ret [bV true] []))(e26:(t.op==26)=true)(en:(t.s.toList==o.name.toList)=true)(r182:run prog ext (.call 182 [dcV o,dV t.uD] [])=some (.ret [bV true] []))(r107:run prog ext (.call 107 [dV t.lD,.c (.fn 183 [] [0])] [.box (dcC o)])=some (.ret [bV true] [.box (dcC o)])):run prog ext (.call 113 [dcV o,tmV t,.c (.own 0)] [.stk 1 els none true])=some (.ret [dV w] [.stk 1 els none true]):=by
 have hC:=fun slot=>aL0 (rec:=run prog ext) (look:=lk [.stk 1 els none true,.box (dcC o),.box (tmC t)]) (slot:=slot) (f:=107) (args:=[dV t.lD,.c (.fn 183 [] [1])]) (ids:=[1]) (bor:=[]) (e:=⟨.val (bV true),[(1,.box (dcC o))],[1]⟩) (by kernel_rfl) r107 (by kernel_rfl)
 (rw[enT hx func113 rfl];simp only[f113,zR,simprocAttr,zE])
 simp only[dcV,dcC,tmV,tmC,dV,sV,iV,bV]at r72 r102 r182 hC ⊢
 simp only[zS,zD,cE0,zT39,zT33,zT31,zT30,zT9,zT3,Array.size,List.length,aU0,(id rfl:ownF 102=true),aN0,aW0,bT0,aX0,Bool.or_true,r72,hs,r102,r182,hC,e26,en,simprocAttr]
 (refine .trans ?_ rfl;kernel_rfl)
theorem ag2f (hx:ext 113=none)(hs:cP0 els els=true)(r102:run prog ext (.call 102 [iV 43,.c (.own 0)] [.stk 1 els none true])=some (.ret [dV w] [.stk 1 els none true]))(r72:run prog ext (.call 72 [sV o.name,tmV t] [])=some (.ret [bV true] []))(e26:(t.op==26)=true)(en:(t.s.toList==o.name.toList)=true)(r182:run prog ext (.call 182 [dcV o,dV t.uD] [])=some (.ret [bV true] []))(r107:run prog ext (.call 107 [dV t.lD,.c (.fn 183 [] [0])] [.box (dcC o)])=some (.ret [bV false] [.box (dcC o)])):run prog ext (.call 113 [dcV o,tmV t,.c (.own 0)] [.stk 1 els none true])=some (.ret [V.c (.d (.v .nilIface))] [.stk 1 els none true]):=by
 have hC:=fun slot=>aL0 (rec:=run prog ext) (look:=lk [.stk 1 els none true,.box (dcC o),.box (tmC t)]) (slot:=slot) (f:=107) (args:=[dV t.lD,.c (.fn 183 [] [1])]) (ids:=[1]) (bor:=[]) (e:=⟨.val (bV false),[(1,.box (dcC o))],[1]⟩) (by kernel_rfl) r107 (by kernel_rfl)
 (rw[enT hx func113 rfl];simp only[f113,zR,simprocAttr,zE])
 simp only[dcV,dcC,tmV,tmC,dV,sV,iV,bV]at r72 r102 r182 hC ⊢
 simp only[zS,zD,cE0,zT39,zT33,zT31,zT30,zT9,zT3,Array.size,List.length,aU0,(id rfl:ownF 102=true),aN0,aW0,bT0,aX0,Bool.or_true,r72,hs,r102,r182,hC,e26,en,simprocAttr]
 (refine .trans ?_ rfl;kernel_rfl)
theorem ag4a (hx:ext 113=none)(hs:cP0 els els=true)(r102:run prog ext (.call 102 [iV 43,.c (.own 0)] [.stk 1 els none true])=some (.ret [dV w] [.stk 1 els none true]))(r72:run prog ext (.call 72 [sV o.name,tmV t] [])=some (.ret [bV true] []))(e26:(t.op==26)=false)(a b:Tm)(ha:t.l[0]? = some a)(hb:t.l[1]? = some b)(c:((t.l.length:Int) != 2)=false)(e5:(t.op==5)=true)(m2:mkB t.n 2=true):run prog ext (.call 113 [dcV o,tmV t,.c (.own 0)] [.stk 1 els none true])=some (.ret [dV w] [.stk 1 els none true]):=by
 have hlen:(t.l.length:Int)=2:=by simpa using c
 have hl0:(0:Int)<t.l.length:=by omega
 have hl1:(1:Int)<t.l.length:=by omega
 have h00:(0:Int)≤0:=by omega
 have h01:(0:Int)≤1:=by omega
 have hD:t.lD = .s 5 (t.l.map tmD):=bC0 (k:=1) (by omega)
 unfold mkB at m2
 (rw[enT hx func113 rfl];simp only[f113,zR,simprocAttr,zE])
 simp only[dcV,dcC,tmV,tmC,dV,sV,iV,bV,hD]at r72 r102 ⊢
 simp only[zS,zD,aE0,zT33,zT31,zT9,zT3,aK0,aC0,aD0,Array.size,List.length,aU0,(id rfl:ownF 102=true),aN0,aW0,bT0,aX0,Bool.or_true,r72,hs,r102,e26,e5,m2,c,simprocAttr]
 rw[aB0 _ _ _ _ (by kernel_rfl)]
 simp only[zS,zD,List.length,simprocAttr]
 (refine .trans ?_ rfl;kernel_rfl)
theorem ag4b (hx:ext 113=none)(hs:cP0 els els=true)(r102:run prog ext (.call 102 [iV 43,.c (.own 0)] [.stk 1 els none true])=some (.ret [dV w] [.stk 1 els none true]))(r72:run prog ext (.call 72 [sV o.name,tmV t] [])=some (.ret [bV true] []))(e26:(t.op==26)=true)(en:(t.s.toList==o.name.toList)=false)(a b:Tm)(ha:t.l[0]? = some a)(hb:t.l[1]? = some b)(c:((t.l.length:Int) != 2)=false)(e5:(t.op==5)=true)(m2:mkB t.n 2=true):run prog ext (.call 113 [dcV o,tmV t,.c (.own 0)] [.stk 1 els none true])=some (.ret [dV w] [.stk 1 els none true]):=by
 have hlen:(t.l.length:Int)=2:=by simpa using c
 have hl0:(0:Int)<t.l.length:=by omega
 have hl1:(1:Int)<t.l.length:=by omega
 have h00:(0:Int)≤0:=by omega
 have h01:(0:Int)≤1:=by omega
 have hD:t.lD = .s 5 (t.l.map tmD):=bC0 (k:=1) (by omega)
 unfold mkB at m2
 (rw[enT hx func113 rfl];simp only[f113,zR,simprocAttr,zE])
 simp only[dcV,dcC,tmV,tmC,dV,sV,iV,bV,hD]at r72 r102 ⊢
 simp only[zS,zD,aE0,zT33,zT31,zT9,zT3,aK0,aC0,aD0,Array.size,List.length,aU0,(id rfl:ownF 102=true),aN0,aW0,bT0,aX0,Bool.or_true,r72,hs,r102,e26,en,e5,m2,c,simprocAttr]
 rw[aB0 _ _ _ _ (by kernel_rfl)]
 simp only[zS,zD,List.length,simprocAttr]
 (refine .trans ?_ rfl;kernel_rfl)
theorem ag5a (hx:ext 113=none)(hs:cP0 els els=true)(r102:run prog ext (.call 102 [iV 43,.c (.own 0)] [.stk 1 els none true])=some (.ret [dV w] [.stk 1 els none true]))(r72:run prog ext (.call 72 [sV o.name,tmV t] [])=some (.ret [bV true] []))(e26:(t.op==26)=false)(a b:Tm)(ha:t.l[0]? = some a)(hb:t.l[1]? = some b)(c:((t.l.length:Int) != 2)=false)(e5:(t.op==5)=true)(m2:mkB t.n 2=false)(ra:run prog ext (.call 72 [sV o.name,tmV a] [])=some (.ret [bV true] [])):run prog ext (.call 113 [dcV o,tmV t,.c (.own 0)] [.stk 1 els none true])=some (.ret [dV w] [.stk 1 els none true]):=by
 have hlen:(t.l.length:Int)=2:=by simpa using c
 have hl0:(0:Int)<t.l.length:=by omega
 have hl1:(1:Int)<t.l.length:=by omega
 have h00:(0:Int)≤0:=by omega
 have h01:(0:Int)≤1:=by omega
 have hD:t.lD = .s 5 (t.l.map tmD):=bC0 (k:=1) (by omega)
 unfold mkB at m2
 (rw[enT hx func113 rfl];simp only[f113,zR,simprocAttr,zE])
 simp only[dcV,dcC,tmV,tmC,dV,sV,iV,bV,hD]at r72 r102 ra ⊢
 simp only[zS,zD,aE0,zT33,zT31,zT9,zT3,aK0,aC0,aD0,Array.size,List.length,aU0,(id rfl:ownF 102=true),(id rfl:Int.toNat 0=0),aN0,aW0,bT0,aX0,Bool.or_true,r72,hs,r102,ra,e26,e5,m2,c,hl0,h00,ha,aH0 a,simprocAttr]
 rw[aB0 _ _ _ _ (by kernel_rfl)]
 simp only[zS,zD,List.length,simprocAttr]
 (refine .trans ?_ rfl;kernel_rfl)
theorem ag5b (hx:ext 113=none)(hs:cP0 els els=true)(r102:run prog ext (.call 102 [iV 43,.c (.own 0)] [.stk 1 els none true])=some (.ret [dV w] [.stk 1 els none true]))(r72:run prog ext (.call 72 [sV o.name,tmV t] [])=some (.ret [bV true] []))(e26:(t.op==26)=true)(en:(t.s.toList==o.name.toList)=false)(a b:Tm)(ha:t.l[0]? = some a)(hb:t.l[1]? = some b)(c:((t.l.length:Int) != 2)=false)(e5:(t.op==5)=true)(m2:mkB t.n 2=false)(ra:run prog ext (.call 72 [sV o.name,tmV a] [])=some (.ret [bV true] [])):run prog ext (.call 113 [dcV o,tmV t,.c (.own 0)] [.stk 1 els none true])=some (.ret [dV w] [.stk 1 els none true]):=by
 have hlen:(t.l.length:Int)=2:=by simpa using c
 have hl0:(0:Int)<t.l.length:=by omega
 have hl1:(1:Int)<t.l.length:=by omega
 have h00:(0:Int)≤0:=by omega
 have h01:(0:Int)≤1:=by omega
 have hD:t.lD = .s 5 (t.l.map tmD):=bC0 (k:=1) (by omega)
 unfold mkB at m2
 (rw[enT hx func113 rfl];simp only[f113,zR,simprocAttr,zE])
 simp only[dcV,dcC,tmV,tmC,dV,sV,iV,bV,hD]at r72 r102 ra ⊢
 simp only[zS,zD,aE0,zT33,zT31,zT9,zT3,aK0,aC0,aD0,Array.size,List.length,aU0,(id rfl:ownF 102=true),(id rfl:Int.toNat 0=0),aN0,aW0,bT0,aX0,Bool.or_true,r72,hs,r102,ra,e26,en,e5,m2,c,hl0,h00,ha,aH0 a,simprocAttr]
 rw[aB0 _ _ _ _ (by kernel_rfl)]
 simp only[zS,zD,List.length,simprocAttr]
 (refine .trans ?_ rfl;kernel_rfl)
theorem ag6na (hx:ext 113=none)(hs:cP0 els els=true)(r102:run prog ext (.call 102 [iV 43,.c (.own 0)] [.stk 1 els none true])=some (.ret [dV w] [.stk 1 els none true]))(r72:run prog ext (.call 72 [sV o.name,tmV t] [])=some (.ret [bV true] []))(e26:(t.op==26)=false)(a b:Tm)(ha:t.l[0]? = some a)(hb:t.l[1]? = some b)(c:((t.l.length:Int) != 2)=false)(e5:(t.op==5)=true)(m2:mkB t.n 2=false)(ra:run prog ext (.call 72 [sV o.name,tmV a] [])=some (.ret [bV false] []))(h6:els.length≤1000000000)(hs1:cP0 (els++[[.v (.int .i64 1)]]) (els++[[.v (.int .i64 1)]])=true)(r1:run prog ext (.call 113 [dcV o,tmV b,.c (.own 0)] [.stk 1 (els++[[.v (.int .i64 1)]]) none true])=some (.ret [V.c (.d (.v .nilIface))] [.stk 1 (els++[[.v (.int .i64 1)]]) none true])):run prog ext (.call 113 [dcV o,tmV t,.c (.own 0)] [.stk 1 els none true])=some (.ret [V.c (.d (.v .nilIface))] [.stk 1 els none true]):=by
 have hlen:(t.l.length:Int)=2:=by simpa using c
 have hl0:(0:Int)<t.l.length:=by omega
 have hl1:(1:Int)<t.l.length:=by omega
 have h00:(0:Int)≤0:=by omega
 have h01:(0:Int)≤1:=by omega
 have hD:t.lD = .s 5 (t.l.map tmD):=bC0 (k:=1) (by omega)
 unfold mkB at m2
 (rw[enT hx func113 rfl];simp only[f113,zR,simprocAttr,zE])
 simp only[dcV,dcC,tmV,tmC,dV,sV,iV,bV,hD]at r72 r102 ra r1 ⊢
 simp only[zS,zD,aE0,zT33,zT31,zT9,zT3,aK0,aC0,aD0,Array.size,List.length,aU0,(id rfl:ownF 102=true),(id rfl:Int.toNat 0=0),aN0,aW0,bT0,aX0,Bool.or_true,r72,hs,r102,ra,e26,e5,m2,aN0,Nat.zero_lt_one,c,hl0,h00,ha,aH0 a,simprocAttr]
 rw[aB0 _ _ _ _ (by kernel_rfl)]
 simp only[zS,zD,zT39,zT33,zT31,aK0,aC0,aD0,Array.size,List.length,dE0,(id rfl:ownF 113=true),(id rfl:Int.toNat 1=1),aN0,aW0,bT0,r1,hs1,h6,bsIn,oo43,gN0,aN0,Nat.zero_lt_one,hl1,h01,hb,aH0 b,simprocAttr]
 rw[aB0 _ _ _ _ (by kernel_rfl)]
 simp only[zS]
 (refine .trans ?_ rfl;kernel_rfl)
theorem ag6nb (hx:ext 113=none)(hs:cP0 els els=true)(r102:run prog ext (.call 102 [iV 43,.c (.own 0)] [.stk 1 els none true])=some (.ret [dV w] [.stk 1 els none true]))(r72:run prog ext (.call 72 [sV o.name,tmV t] [])=some (.ret [bV true] []))(e26:(t.op==26)=true)(en:(t.s.toList==o.name.toList)=false)(a b:Tm)(ha:t.l[0]? = some a)(hb:t.l[1]? = some b)(c:((t.l.length:Int) != 2)=false)(e5:(t.op==5)=true)(m2:mkB t.n 2=false)(ra:run prog ext (.call 72 [sV o.name,tmV a] [])=some (.ret [bV false] []))(h6:els.length≤1000000000)(hs1:cP0 (els++[[.v (.int .i64 1)]]) (els++[[.v (.int .i64 1)]])=true)(r1:run prog ext (.call 113 [dcV o,tmV b,.c (.own 0)] [.stk 1 (els++[[.v (.int .i64 1)]]) none true])=some (.ret [V.c (.d (.v .nilIface))] [.stk 1 (els++[[.v (.int .i64 1)]]) none true])):run prog ext (.call 113 [dcV o,tmV t,.c (.own 0)] [.stk 1 els none true])=some (.ret [V.c (.d (.v .nilIface))] [.stk 1 els none true]):=by
 have hlen:(t.l.length:Int)=2:=by simpa using c
 have hl0:(0:Int)<t.l.length:=by omega
 have hl1:(1:Int)<t.l.length:=by omega
 have h00:(0:Int)≤0:=by omega
 have h01:(0:Int)≤1:=by omega
 have hD:t.lD = .s 5 (t.l.map tmD):=bC0 (k:=1) (by omega)
 unfold mkB at m2
 (rw[enT hx func113 rfl];simp only[f113,zR,simprocAttr,zE])
 simp only[dcV,dcC,tmV,tmC,dV,sV,iV,bV,hD]at r72 r102 ra r1 ⊢
 simp only[zS,zD,aE0,zT33,zT31,zT9,zT3,aK0,aC0,aD0,Array.size,List.length,aU0,(id rfl:ownF 102=true),(id rfl:Int.toNat 0=0),aN0,aW0,bT0,aX0,Bool.or_true,r72,hs,r102,ra,e26,en,e5,m2,aN0,Nat.zero_lt_one,c,hl0,h00,ha,aH0 a,simprocAttr]
 rw[aB0 _ _ _ _ (by kernel_rfl)]
 simp only[zS,zD,zT39,zT33,zT31,aK0,aC0,aD0,Array.size,List.length,dE0,(id rfl:ownF 113=true),(id rfl:Int.toNat 1=1),aN0,aW0,bT0,r1,hs1,h6,bsIn,oo43,gN0,aN0,Nat.zero_lt_one,hl1,h01,hb,aH0 b,simprocAttr]
 rw[aB0 _ _ _ _ (by kernel_rfl)]
 simp only[zS]
 (refine .trans ?_ rfl;kernel_rfl)
theorem ag6ea (hx:ext 113=none)(hs:cP0 els els=true)(r102:run prog ext (.call 102 [iV 43,.c (.own 0)] [.stk 1 els none true])=some (.ret [dV w] [.stk 1 els none true]))(r72:run prog ext (.call 72 [sV o.name,tmV t] [])=some (.ret [bV true] []))(e26:(t.op==26)=false)(xs:List D)(a b:Tm)(ha:t.l[0]? = some a)(hb:t.l[1]? = some b)(c:((t.l.length:Int) != 2)=false)(e5:(t.op==5)=true)(m2:mkB t.n 2=false)(ra:run prog ext (.call 72 [sV o.name,tmV a] [])=some (.ret [bV false] []))(h6:els.length≤1000000000)(hs1:cP0 (els++[[.v (.int .i64 1)]]) (els++[[.v (.int .i64 1)]])=true)(r1:run prog ext (.call 113 [dcV o,tmV b,.c (.own 0)] [.stk 1 (els++[[.v (.int .i64 1)]]) none true])=some (.ret [V.c (.d (.i 128 xs))] [.stk 1 (els++[[.v (.int .i64 1)]]) none true])):run prog ext (.call 113 [dcV o,tmV t,.c (.own 0)] [.stk 1 els none true])=some (.ret [V.c (.d (.i 128 xs))] [.stk 1 els none true]):=by
 have hlen:(t.l.length:Int)=2:=by simpa using c
 have hl0:(0:Int)<t.l.length:=by omega
 have hl1:(1:Int)<t.l.length:=by omega
 have h00:(0:Int)≤0:=by omega
 have h01:(0:Int)≤1:=by omega
 have hD:t.lD = .s 5 (t.l.map tmD):=bC0 (k:=1) (by omega)
 unfold mkB at m2
 (rw[enT hx func113 rfl];simp only[f113,zR,simprocAttr,zE])
 simp only[dcV,dcC,tmV,tmC,dV,sV,iV,bV,hD]at r72 r102 ra r1 ⊢
 simp only[zS,zD,aE0,zT33,zT31,zT9,zT3,aK0,aC0,aD0,Array.size,List.length,aU0,(id rfl:ownF 102=true),(id rfl:Int.toNat 0=0),aN0,aW0,bT0,aX0,Bool.or_true,r72,hs,r102,ra,e26,e5,m2,aN0,Nat.zero_lt_one,c,hl0,h00,ha,aH0 a,simprocAttr]
 rw[aB0 _ _ _ _ (by kernel_rfl)]
 simp only[zS,zD,zT39,zT33,zT31,aK0,aC0,aD0,Array.size,List.length,dE0,(id rfl:ownF 113=true),(id rfl:Int.toNat 1=1),aN0,aW0,bT0,r1,hs1,h6,bsIn,oo43,gN0,aN0,Nat.zero_lt_one,hl1,h01,hb,aH0 b,simprocAttr]
 rw[aB0 _ _ _ _ (by kernel_rfl)]
 simp only[zS]
 (refine .trans ?_ rfl;kernel_rfl)
theorem ag6eb (hx:ext 113=none)(hs:cP0 els els=true)(r102:run prog ext (.call 102 [iV 43,.c (.own 0)] [.stk 1 els none true])=some (.ret [dV w] [.stk 1 els none true]))(r72:run prog ext (.call 72 [sV o.name,tmV t] [])=some (.ret [bV true] []))(e26:(t.op==26)=true)(en:(t.s.toList==o.name.toList)=false)(xs:List D)(a b:Tm)(ha:t.l[0]? = some a)(hb:t.l[1]? = some b)(c:((t.l.length:Int) != 2)=false)(e5:(t.op==5)=true)(m2:mkB t.n 2=false)(ra:run prog ext (.call 72 [sV o.name,tmV a] [])=some (.ret [bV false] []))(h6:els.length≤1000000000)(hs1:cP0 (els++[[.v (.int .i64 1)]]) (els++[[.v (.int .i64 1)]])=true)(r1:run prog ext (.call 113 [dcV o,tmV b,.c (.own 0)] [.stk 1 (els++[[.v (.int .i64 1)]]) none true])=some (.ret [V.c (.d (.i 128 xs))] [.stk 1 (els++[[.v (.int .i64 1)]]) none true])):run prog ext (.call 113 [dcV o,tmV t,.c (.own 0)] [.stk 1 els none true])=some (.ret [V.c (.d (.i 128 xs))] [.stk 1 els none true]):=by
 have hlen:(t.l.length:Int)=2:=by simpa using c
 have hl0:(0:Int)<t.l.length:=by omega
 have hl1:(1:Int)<t.l.length:=by omega
 have h00:(0:Int)≤0:=by omega
 have h01:(0:Int)≤1:=by omega
 have hD:t.lD = .s 5 (t.l.map tmD):=bC0 (k:=1) (by omega)
 unfold mkB at m2
 (rw[enT hx func113 rfl];simp only[f113,zR,simprocAttr,zE])
 simp only[dcV,dcC,tmV,tmC,dV,sV,iV,bV,hD]at r72 r102 ra r1 ⊢
 simp only[zS,zD,aE0,zT33,zT31,zT9,zT3,aK0,aC0,aD0,Array.size,List.length,aU0,(id rfl:ownF 102=true),(id rfl:Int.toNat 0=0),aN0,aW0,bT0,aX0,Bool.or_true,r72,hs,r102,ra,e26,en,e5,m2,aN0,Nat.zero_lt_one,c,hl0,h00,ha,aH0 a,simprocAttr]
 rw[aB0 _ _ _ _ (by kernel_rfl)]
 simp only[zS,zD,zT39,zT33,zT31,aK0,aC0,aD0,Array.size,List.length,dE0,(id rfl:ownF 113=true),(id rfl:Int.toNat 1=1),aN0,aW0,bT0,r1,hs1,h6,bsIn,oo43,gN0,aN0,Nat.zero_lt_one,hl1,h01,hb,aH0 b,simprocAttr]
 rw[aB0 _ _ _ _ (by kernel_rfl)]
 simp only[zS]
 (refine .trans ?_ rfl;kernel_rfl)
theorem ag7a (hx:ext 113=none)(hs:cP0 els els=true)(r102:run prog ext (.call 102 [iV 43,.c (.own 0)] [.stk 1 els none true])=some (.ret [dV w] [.stk 1 els none true]))(r72:run prog ext (.call 72 [sV o.name,tmV t] [])=some (.ret [bV true] []))(e26:(t.op==26)=false)(a b:Tm)(ha:t.l[0]? = some a)(hb:t.l[1]? = some b)(c:((t.l.length:Int) != 2)=false)(e5:(t.op==5)=false)(e8:(t.op==8)=false):run prog ext (.call 113 [dcV o,tmV t,.c (.own 0)] [.stk 1 els none true])=some (.ret [dV w] [.stk 1 els none true]):=by
 have hlen:(t.l.length:Int)=2:=by simpa using c
 have hl0:(0:Int)<t.l.length:=by omega
 have hl1:(1:Int)<t.l.length:=by omega
 have h00:(0:Int)≤0:=by omega
 have h01:(0:Int)≤1:=by omega
 have hD:t.lD = .s 5 (t.l.map tmD):=bC0 (k:=1) (by omega)
 (rw[enT hx func113 rfl];simp only[f113,zR,simprocAttr,zE])
 simp only[dcV,dcC,tmV,tmC,dV,sV,iV,bV,hD]at r72 r102 ⊢
 simp only[zS,zD,aE0,zT33,zT31,zT9,zT3,Array.size,List.length,aU0,(id rfl:ownF 102=true),aN0,aW0,bT0,aX0,Bool.or_true,r72,hs,r102,e26,e5,e8,c,simprocAttr]
 (refine .trans ?_ rfl;kernel_rfl)
theorem ag7b (hx:ext 113=none)(hs:cP0 els els=true)(r102:run prog ext (.call 102 [iV 43,.c (.own 0)] [.stk 1 els none true])=some (.ret [dV w] [.stk 1 els none true]))(r72:run prog ext (.call 72 [sV o.name,tmV t] [])=some (.ret [bV true] []))(e26:(t.op==26)=true)(en:(t.s.toList==o.name.toList)=false)(a b:Tm)(ha:t.l[0]? = some a)(hb:t.l[1]? = some b)(c:((t.l.length:Int) != 2)=false)(e5:(t.op==5)=false)(e8:(t.op==8)=false):run prog ext (.call 113 [dcV o,tmV t,.c (.own 0)] [.stk 1 els none true])=some (.ret [dV w] [.stk 1 els none true]):=by
 have hlen:(t.l.length:Int)=2:=by simpa using c
 have hl0:(0:Int)<t.l.length:=by omega
 have hl1:(1:Int)<t.l.length:=by omega
 have h00:(0:Int)≤0:=by omega
 have h01:(0:Int)≤1:=by omega
 have hD:t.lD = .s 5 (t.l.map tmD):=bC0 (k:=1) (by omega)
 (rw[enT hx func113 rfl];simp only[f113,zR,simprocAttr,zE])
 simp only[dcV,dcC,tmV,tmC,dV,sV,iV,bV,hD]at r72 r102 ⊢
 simp only[zS,zD,aE0,zT33,zT31,zT9,zT3,Array.size,List.length,aU0,(id rfl:ownF 102=true),aN0,aW0,bT0,aX0,Bool.or_true,r72,hs,r102,e26,en,e5,e8,c,simprocAttr]
 (refine .trans ?_ rfl;kernel_rfl)
end
end
end Go.Proofs.YteenjodhmppgjaaGreatDoor.Am
