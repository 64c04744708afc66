/- A part of the proof of a card. No conditions. -/
import Derived.Test.YteenjodhmppgjaaGreatDoorPd6
set_option linter.all false
set_option maxHeartbeats 16000000
set_option maxRecDepth 10000
namespace Go.Proofs.YteenjodhmppgjaaGreatDoor.Am
open Go.Proofs.Tryz
section
open Go
variable (ext:Ext)
noncomputable def B113 : Code:=(f113.body.getD .skip)
noncomputable def lS2 : Code:=sub B113 [1,1,1,0,0,1,1,1,1,1,1,1,0,0,1,0,0]
theorem lI0 : It.code lS2=It.code (sub B113 [1,1,1,0,0,1,1,1,1,1,1,1,0,0,1,0,0]):=rfl
noncomputable def qC0 : List It:=[.inBlock 1,.code (sub B113 [1,1,1,0,0,1,1,1,1,1,1,1,0,1]),.inBlock 0,.code (sub B113 [1,1,1,1])]
noncomputable def eY0 (ext:Ext)(m:Nat)(env:Env)(loc:List O):Option Out:=run prog ext (.k ⟨139,m,[.tmp 6],false⟩ (.code lS2 :: .inLoop lS2::qC0) env loc)
theorem bsII {look:Look}{slot:Nat}{a b:Int}:aV0 prog look slot 43 2 [(0,.c (.d (.v (.int .i64 a)))),(1,.c (.d (.v (.int .i64 b))))]=some ⟨.val (.c (.own slot)),[(slot,.arr 1 [[.v (.int .i64 a)],[.v (.int .i64 b)]])],[]⟩:=by
 simp only[aV0,eP0,gT0]
 exact if_pos ⟨rfl,by decide,by decide,by rfl,i43⟩
theorem zA0 (look:Look)(slot id j c:Nat)(els new els2:List (List D))(hi:look id=some (.stk 1 els (some c) true))(hj:look j=some (.arr 1 new))(hc:look c=some (.stk 1 els2 none false))(hn:0<new.length)(h6:els.length≤1000000000)(h7:new.length≤1000000000)(hne:¬ j=id)(hci:¬ c=id)(hcj:¬ c=j) :
  apG 1 8 slot id j (some (.stk 1 els (some c) true)) (some (.arr 1 new)) (apD prog look slot 43 (.c (.own id)) (.c (.own j)))=some ⟨.val (.c (.own slot)),[(j,.gone),(c,.gone),(id,.stk 1 els (some slot) true),(slot,.stk 1 (els++new) none false)],[j,c,id]⟩:=by
 rw[apG_d]
 unfold apD
 have hc1:([j].contains id)=false:=by simp;exact fun e=>hne e.symm
 have hc2:([j].contains c)=false:=by simp;exact hcj
 have h8:(els.length+new.length)*8≤140737488355328:=Nat.le_trans (Nat.mul_le_mul (Nat.add_le_add h6 h7) (Nat.le_refl _)) (by decide)
 have h9:els.length+new.length≤9223372036854775807:=by omega
 have z:=z43
 simp only[bI0,eP0,gT0,hZ0,z,eT0,gM0,bK0,hj,hi,hc,ne_eq,not_true_eq_false,if_false,and_self,if_true,List.append_nil,Bool.false_eq_true,Nat.zero_lt_one]
 rw[if_pos ⟨trivial,h8,h9,hc1,hn⟩]
 rw[if_pos ⟨hc2,hci⟩]
 rfl
section
variable (o:Dc) (t:Tm) (els:List (List D)) (w:D)
def E113 (w:D)(k:Int):Env:=[(2,.c (.own 0)),(3,.c (.ptr 1 0)),(4,.c (.ptr 2 0)),(7,dV w),(78,.c (.own 3)),(79,iV 2),(80,iV k)]
def O113 (o:Dc)(t:Tm)(els:List (List D)):List O:=[.stk 1 els none true,.box (dcC o),.box (tmC t),.arr 1 [[.v (.int .i64 1)],[.v (.int .i64 2)]]]
theorem p0A (a b:Tm)(ha:t.l[0]? = some a)(hb:t.l[1]? = some b)(c:((t.l.length:Int) != 2)=false)(m1:mkB t.n 1=false)(out:Option Out)(h:eY0 ext 1 (E113 w (wr (0+1))) (O113 o t els)=out):eY0 ext 1 (E113 w 0) (O113 o t els)=out:=by
 have hlen:(t.l.length:Int)=2:=by simpa using c
 have hl0:(0:Int)<t.l.length:=by omega
 have hl1:(1:Int)<t.l.length:=by omega
 have h00:(0:Int)≤0:=by omega
 have h01:(0:Int)≤1:=by omega
 have h02:(0:Int)<2:=by omega
 have h12:(1:Int)<2:=by omega
 have i0:(0:Int)<((0+1+1:Nat):Int):=by decide
 have i1:(1:Int)<((0+1+1:Nat):Int):=by decide
 have hD:t.lD = .s 5 (t.l.map tmD):=bC0 (k:=1) (by omega)
 unfold mkB at m1
 unfold eY0 at h ⊢
 simp only[dcC,tmC,dV,iV,E113,O113,hD]at h ⊢
 (rw[lI0];simp only[B113,qC0,sub,Option.getD_some,f113,↓reduceIte,Nat.one_ne_zero])
 simp only[zS,zD,oJ0,zT3,dN0,aK0,aC0,aD0,Array.size,List.length,(id rfl:Int.toNat 0=0),aX0,Bool.or_true,h00,h02,i0,m1,simprocAttr]
 rw[aB0 _ _ _ _ (by kernel_rfl)]
 simp only[zS,zD,List.length,aX0,Bool.or_true,simprocAttr]
 (refine(aA0 ?_).trans h;kernel_rfl)
theorem p0B (a b:Tm)(ha:t.l[0]? = some a)(hb:t.l[1]? = some b)(c:((t.l.length:Int) != 2)=false)(m1:mkB t.n 1=true)(ra:run prog ext (.call 72 [sV o.name,tmV a] [])=some (.ret [bV false] []))(out:Option Out)(h:eY0 ext 1 (E113 w (wr (0+1))) (O113 o t els)=out):eY0 ext 1 (E113 w 0) (O113 o t els)=out:=by
 have hlen:(t.l.length:Int)=2:=by simpa using c
 have hl0:(0:Int)<t.l.length:=by omega
 have hl1:(1:Int)<t.l.length:=by omega
 have h00:(0:Int)≤0:=by omega
 have h01:(0:Int)≤1:=by omega
 have h02:(0:Int)<2:=by omega
 have h12:(1:Int)<2:=by omega
 have i0:(0:Int)<((0+1+1:Nat):Int):=by decide
 have i1:(1:Int)<((0+1+1:Nat):Int):=by decide
 have hD:t.lD = .s 5 (t.l.map tmD):=bC0 (k:=1) (by omega)
 unfold mkB at m1
 unfold eY0 at h ⊢
 simp only[dcC,tmV,tmC,dV,sV,iV,bV,E113,O113,hD]at ra h ⊢
 (rw[lI0];simp only[B113,qC0,sub,Option.getD_some,f113,↓reduceIte,Nat.one_ne_zero])
 simp only[zS,zD,aE0,zT33,zT31,zT9,zT3,dN0,aK0,aC0,aD0,Array.size,List.length,(id rfl:Int.toNat 0=0),aX0,Bool.or_true,hl0,h00,h02,i0,ha,aH0 a,ra,m1,simprocAttr]
 rw[aB0 _ _ _ _ (by kernel_rfl)]
 simp only[zS,zD,List.length,aX0,Bool.or_true,simprocAttr]
 (refine(aA0 ?_).trans h;kernel_rfl)
theorem p0X (a b:Tm)(ha:t.l[0]? = some a)(hb:t.l[1]? = some b)(c:((t.l.length:Int) != 2)=false)(m1:mkB t.n 1=true)(ra:run prog ext (.call 72 [sV o.name,tmV a] [])=some (.ret [bV true] [])):eY0 ext 1 (E113 w 0) (O113 o t els)=some (.ret [dV w] [.stk 1 els none true]):=by
 have hlen:(t.l.length:Int)=2:=by simpa using c
 have hl0:(0:Int)<t.l.length:=by omega
 have hl1:(1:Int)<t.l.length:=by omega
 have h00:(0:Int)≤0:=by omega
 have h01:(0:Int)≤1:=by omega
 have h02:(0:Int)<2:=by omega
 have h12:(1:Int)<2:=by omega
 have i0:(0:Int)<((0+1+1:Nat):Int):=by decide
 have i1:(1:Int)<((0+1+1:Nat):Int):=by decide
 have hD:t.lD = .s 5 (t.l.map tmD):=bC0 (k:=1) (by omega)
 unfold mkB at m1
 unfold eY0
 simp only[dcC,tmV,tmC,dV,sV,iV,bV,E113,O113,hD]at ra ⊢
 (rw[lI0];simp only[B113,qC0,sub,Option.getD_some,f113,↓reduceIte,Nat.one_ne_zero])
 simp only[zS,zD,aE0,zT33,zT31,zT9,zT3,dN0,aK0,aC0,aD0,Array.size,List.length,(id rfl:Int.toNat 0=0),aX0,Bool.or_true,hl0,h00,h02,i0,ha,aH0 a,ra,m1,simprocAttr]
 rw[aB0 _ _ _ _ (by kernel_rfl)]
 simp only[zS,zD,List.length,simprocAttr]
 (refine .trans ?_ rfl;kernel_rfl)
theorem p1A (a b:Tm)(ha:t.l[0]? = some a)(hb:t.l[1]? = some b)(c:((t.l.length:Int) != 2)=false)(m1:mkB t.n 2=false)(out:Option Out)(h:eY0 ext 1 (E113 w (wr (1+1))) (O113 o t els)=out):eY0 ext 1 (E113 w 1) (O113 o t els)=out:=by
 have hlen:(t.l.length:Int)=2:=by simpa using c
 have hl0:(0:Int)<t.l.length:=by omega
 have hl1:(1:Int)<t.l.length:=by omega
 have h00:(0:Int)≤0:=by omega
 have h01:(0:Int)≤1:=by omega
 have h02:(0:Int)<2:=by omega
 have h12:(1:Int)<2:=by omega
 have i0:(0:Int)<((0+1+1:Nat):Int):=by decide
 have i1:(1:Int)<((0+1+1:Nat):Int):=by decide
 have hD:t.lD = .s 5 (t.l.map tmD):=bC0 (k:=1) (by omega)
 unfold mkB at m1
 unfold eY0 at h ⊢
 simp only[dcC,tmC,dV,iV,E113,O113,hD]at h ⊢
 (rw[lI0];simp only[B113,qC0,sub,Option.getD_some,f113,↓reduceIte,Nat.one_ne_zero])
 simp only[zS,zD,oJ0,zT3,dN0,aK0,aC0,aD0,Array.size,List.length,(id rfl:Int.toNat 1=1),aX0,Bool.or_true,h01,h12,i1,m1,simprocAttr]
 rw[aB0 _ _ _ _ (by kernel_rfl)]
 simp only[zS,zD,List.length,aX0,Bool.or_true,simprocAttr]
 (refine(aA0 ?_).trans h;kernel_rfl)
theorem p1B (a b:Tm)(ha:t.l[0]? = some a)(hb:t.l[1]? = some b)(c:((t.l.length:Int) != 2)=false)(m1:mkB t.n 2=true)(ra:run prog ext (.call 72 [sV o.name,tmV b] [])=some (.ret [bV false] []))(out:Option Out)(h:eY0 ext 1 (E113 w (wr (1+1))) (O113 o t els)=out):eY0 ext 1 (E113 w 1) (O113 o t els)=out:=by
 have hlen:(t.l.length:Int)=2:=by simpa using c
 have hl0:(0:Int)<t.l.length:=by omega
 have hl1:(1:Int)<t.l.length:=by omega
 have h00:(0:Int)≤0:=by omega
 have h01:(0:Int)≤1:=by omega
 have h02:(0:Int)<2:=by omega
 have h12:(1:Int)<2:=by omega
 have i0:(0:Int)<((0+1+1:Nat):Int):=by decide
 have i1:(1:Int)<((0+1+1:Nat):Int):=by decide
 have hD:t.lD = .s 5 (t.l.map tmD):=bC0 (k:=1) (by omega)
 unfold mkB at m1
 unfold eY0 at h ⊢
 simp only[dcC,tmV,tmC,dV,sV,iV,bV,E113,O113,hD]at ra h ⊢
 (rw[lI0];simp only[B113,qC0,sub,Option.getD_some,f113,↓reduceIte,Nat.one_ne_zero])
 simp only[zS,zD,aE0,zT33,zT31,zT9,zT3,dN0,aK0,aC0,aD0,Array.size,List.length,(id rfl:Int.toNat 1=1),aX0,Bool.or_true,hl1,h01,h12,i1,hb,aH0 b,ra,m1,simprocAttr]
 rw[aB0 _ _ _ _ (by kernel_rfl)]
 simp only[zS,zD,List.length,aX0,Bool.or_true,simprocAttr]
 (refine(aA0 ?_).trans h;kernel_rfl)
theorem p1X (a b:Tm)(ha:t.l[0]? = some a)(hb:t.l[1]? = some b)(c:((t.l.length:Int) != 2)=false)(m1:mkB t.n 2=true)(ra:run prog ext (.call 72 [sV o.name,tmV b] [])=some (.ret [bV true] [])):eY0 ext 1 (E113 w 1) (O113 o t els)=some (.ret [dV w] [.stk 1 els none true]):=by
 have hlen:(t.l.length:Int)=2:=by simpa using c
 have hl0:(0:Int)<t.l.length:=by omega
 have hl1:(1:Int)<t.l.length:=by omega
 have h00:(0:Int)≤0:=by omega
 have h01:(0:Int)≤1:=by omega
 have h02:(0:Int)<2:=by omega
 have h12:(1:Int)<2:=by omega
 have i0:(0:Int)<((0+1+1:Nat):Int):=by decide
 have i1:(1:Int)<((0+1+1:Nat):Int):=by decide
 have hD:t.lD = .s 5 (t.l.map tmD):=bC0 (k:=1) (by omega)
 unfold mkB at m1
 unfold eY0
 simp only[dcC,tmV,tmC,dV,sV,iV,bV,E113,O113,hD]at ra ⊢
 (rw[lI0];simp only[B113,qC0,sub,Option.getD_some,f113,↓reduceIte,Nat.one_ne_zero])
 simp only[zS,zD,aE0,zT33,zT31,zT9,zT3,dN0,aK0,aC0,aD0,Array.size,List.length,(id rfl:Int.toNat 1=1),aX0,Bool.or_true,hl1,h01,h12,i1,hb,aH0 b,ra,m1,simprocAttr]
 rw[aB0 _ _ _ _ (by kernel_rfl)]
 simp only[zS,zD,List.length,simprocAttr]
 (refine .trans ?_ rfl;kernel_rfl)
theorem p2E (a b:Tm)(ha:t.l[0]? = some a)(hb:t.l[1]? = some b)(c:((t.l.length:Int) != 2)=false)(xs:List D)(h6:els.length≤1000000000)(hs0:cP0 (els++[[.v (.int .i64 0)]]) (els++[[.v (.int .i64 0)]])=true)(r0:run prog ext (.call 113 [dcV o,tmV a,.c (.own 0)] [.stk 1 (els++[[.v (.int .i64 0)]]) none true])=some (.ret [V.c (.d (.i 128 xs))] [.stk 1 (els++[[.v (.int .i64 0)]]) none true])):eY0 ext 1 (E113 w 2) (O113 o t els)=some (.ret [V.c (.d (.i 128 xs))] [.stk 1 els none true]):=by
 have hlen:(t.l.length:Int)=2:=by simpa using c
 have hl0:(0:Int)<t.l.length:=by omega
 have hl1:(1:Int)<t.l.length:=by omega
 have h00:(0:Int)≤0:=by omega
 have h01:(0:Int)≤1:=by omega
 have h02:(0:Int)<2:=by omega
 have h12:(1:Int)<2:=by omega
 have i0:(0:Int)<((0+1+1:Nat):Int):=by decide
 have i1:(1:Int)<((0+1+1:Nat):Int):=by decide
 have hD:t.lD = .s 5 (t.l.map tmD):=bC0 (k:=1) (by omega)
 unfold eY0
 simp only[dcV,dcC,tmV,tmC,dV,iV,E113,O113,hD]at r0 ⊢
 (rw[lI0];simp only[B113,qC0,sub,Option.getD_some,f113,↓reduceIte,Nat.one_ne_zero])
 simp only[zS,zD,zT39,zT33,zT31,aK0,aC0,aD0,Array.size,List.length,dE0,(id rfl:ownF 113=true),(id rfl:Int.toNat 0=0),aN0,aW0,bT0,aX0,hl0,h00,ha,aH0 a,r0,h6,hs0,Int.lt_irrefl,bsIn,oo43,gN0,aN0,Nat.zero_lt_one,simprocAttr]
 rw[aB0 _ _ _ _ (by kernel_rfl)]
 simp only[zS,zD,aR0,List.length,aX0,Bool.or_true,simprocAttr]
 (refine .trans ?_ rfl;kernel_rfl)
theorem p2X (a b:Tm)(ha:t.l[0]? = some a)(hb:t.l[1]? = some b)(c:((t.l.length:Int) != 2)=false)(h6:els.length≤1000000000)(ra:run prog ext (.call 72 [sV o.name,tmV a] [])=some (.ret [bV true] []))(rb:run prog ext (.call 184 [tmV b] [])=some (.ret [bV true] []))(hs0:cP0 (els++[[.v (.int .i64 0)]]) (els++[[.v (.int .i64 0)]])=true)(r0:run prog ext (.call 113 [dcV o,tmV a,.c (.own 0)] [.stk 1 (els++[[.v (.int .i64 0)]]) none true])=some (.ret [V.c (.d (.v .nilIface))] [.stk 1 (els++[[.v (.int .i64 0)]]) none true])):eY0 ext 1 (E113 w 2) (O113 o t els)=some (.ret [dV w] [.stk 1 els none true]):=by
 have hlen:(t.l.length:Int)=2:=by simpa using c
 have hl0:(0:Int)<t.l.length:=by omega
 have hl1:(1:Int)<t.l.length:=by omega
 have h00:(0:Int)≤0:=by omega
 have h01:(0:Int)≤1:=by omega
 have h02:(0:Int)<2:=by omega
 have h12:(1:Int)<2:=by omega
 have i0:(0:Int)<((0+1+1:Nat):Int):=by decide
 have i1:(1:Int)<((0+1+1:Nat):Int):=by decide
 have hD:t.lD = .s 5 (t.l.map tmD):=bC0 (k:=1) (by omega)
 unfold eY0
 simp only[dcV,dcC,tmV,tmC,dV,sV,iV,bV,E113,O113,hD]at ra rb r0 ⊢
 (rw[lI0];simp only[B113,qC0,sub,Option.getD_some,f113,↓reduceIte,Nat.one_ne_zero])
 simp only[zS,zD,zT39,zT33,zT31,aK0,aC0,aD0,Array.size,List.length,dE0,(id rfl:ownF 113=true),(id rfl:Int.toNat 0=0),aN0,aW0,bT0,aX0,hl0,h00,ha,aH0 a,r0,h6,hs0,Int.lt_irrefl,bsIn,oo43,gN0,aN0,Nat.zero_lt_one,simprocAttr]
 rw[aB0 _ _ _ _ (by kernel_rfl)]
 simp only[zS,zD,aE0,zT33,zT31,zT9,aR0,aK0,aC0,aD0,Array.size,List.length,(id rfl:Int.toNat 0=0),(id rfl:Int.toNat 1=1),aX0,Bool.or_true,hl0,hl1,h00,h01,ha,hb,aH0 a,aH0 b,ra,rb,Nat.zero_lt_one,simprocAttr]
 rw[aB0 _ _ _ _ (by kernel_rfl)]
 simp only[zS,zD,List.length,simprocAttr]
 (refine .trans ?_ rfl;kernel_rfl)
theorem p2Fn (a b:Tm)(ha:t.l[0]? = some a)(hb:t.l[1]? = some b)(c:((t.l.length:Int) != 2)=false)(h6:els.length≤1000000000)(ra:run prog ext (.call 72 [sV o.name,tmV a] [])=some (.ret [bV false] []))(hs0:cP0 (els++[[.v (.int .i64 0)]]) (els++[[.v (.int .i64 0)]])=true)(r0:run prog ext (.call 113 [dcV o,tmV a,.c (.own 0)] [.stk 1 (els++[[.v (.int .i64 0)]]) none true])=some (.ret [V.c (.d (.v .nilIface))] [.stk 1 (els++[[.v (.int .i64 0)]]) none true]))(hs1:cP0 (els++[[.v (.int .i64 1)]]) (els++[[.v (.int .i64 1)]])=true)(r1:run prog ext (.call 113 [dcV o,tmV b,.c (.own 0)] [.stk 1 (els++[[.v (.int .i64 1)]]) none true])=some (.ret [V.c (.d (.v .nilIface))] [.stk 1 (els++[[.v (.int .i64 1)]]) none true])):eY0 ext 1 (E113 w 2) (O113 o t els)=some (.ret [V.c (.d (.v .nilIface))] [.stk 1 els none true]):=by
 have hlen:(t.l.length:Int)=2:=by simpa using c
 have hl0:(0:Int)<t.l.length:=by omega
 have hl1:(1:Int)<t.l.length:=by omega
 have h00:(0:Int)≤0:=by omega
 have h01:(0:Int)≤1:=by omega
 have h02:(0:Int)<2:=by omega
 have h12:(1:Int)<2:=by omega
 have i0:(0:Int)<((0+1+1:Nat):Int):=by decide
 have i1:(1:Int)<((0+1+1:Nat):Int):=by decide
 have hD:t.lD = .s 5 (t.l.map tmD):=bC0 (k:=1) (by omega)
 unfold eY0
 simp only[dcV,dcC,tmV,tmC,dV,sV,iV,bV,E113,O113,hD]at ra r0 r1 ⊢
 (rw[lI0];simp only[B113,qC0,sub,Option.getD_some,f113,↓reduceIte,Nat.one_ne_zero])
 simp only[zS,zD,zT39,zT33,zT31,aK0,aC0,aD0,Array.size,List.length,dE0,(id rfl:ownF 113=true),(id rfl:Int.toNat 0=0),aN0,aW0,bT0,aX0,hl0,h00,ha,aH0 a,r0,h6,hs0,Int.lt_irrefl,bsIn,oo43,gN0,aN0,Nat.zero_lt_one,simprocAttr]
 rw[aB0 _ _ _ _ (by kernel_rfl)]
 simp only[zS,zD,aE0,zT33,zT31,zT9,aR0,aK0,aC0,aD0,Array.size,List.length,(id rfl:Int.toNat 0=0),aX0,Bool.or_true,hl0,h00,ha,aH0 a,ra,Nat.zero_lt_one,simprocAttr]
 rw[aB0 _ _ _ _ (by kernel_rfl)]
 simp only[zS,zD,Nat.reduceAdd,Nat.reduceLT,Nat.reduceLeDiff,↓reduceIte,Nat.reduceEqDiff,reduceCtorEq,uN0,iF0,uM0,hG0,bD0,uL0,eS0,bL0,aK0,aC0,aD0,Array.size,List.length,dE0,(id rfl:ownF 113=true),(id rfl:Int.toNat 1=1),aN0,aW0,bT0,hl1,h01,hb,aH0 b,r1,h6,hs1,bsIn,oo43,zA0 (els2:=els++[[.v (.int .i64 0)]]),aN0,Nat.reduceLeDiff,Nat.zero_lt_one]
 rw[aB0 _ _ _ _ (by kernel_rfl)]
 simp only[zS]
 (refine .trans ?_ rfl;kernel_rfl)
theorem p2Gn (a b:Tm)(ha:t.l[0]? = some a)(hb:t.l[1]? = some b)(c:((t.l.length:Int) != 2)=false)(h6:els.length≤1000000000)(ra:run prog ext (.call 72 [sV o.name,tmV a] [])=some (.ret [bV true] []))(rb:run prog ext (.call 184 [tmV b] [])=some (.ret [bV false] []))(hs0:cP0 (els++[[.v (.int .i64 0)]]) (els++[[.v (.int .i64 0)]])=true)(r0:run prog ext (.call 113 [dcV o,tmV a,.c (.own 0)] [.stk 1 (els++[[.v (.int .i64 0)]]) none true])=some (.ret [V.c (.d (.v .nilIface))] [.stk 1 (els++[[.v (.int .i64 0)]]) none true]))(hs1:cP0 (els++[[.v (.int .i64 1)]]) (els++[[.v (.int .i64 1)]])=true)(r1:run prog ext (.call 113 [dcV o,tmV b,.c (.own 0)] [.stk 1 (els++[[.v (.int .i64 1)]]) none true])=some (.ret [V.c (.d (.v .nilIface))] [.stk 1 (els++[[.v (.int .i64 1)]]) none true])):eY0 ext 1 (E113 w 2) (O113 o t els)=some (.ret [V.c (.d (.v .nilIface))] [.stk 1 els none true]):=by
 have hlen:(t.l.length:Int)=2:=by simpa using c
 have hl0:(0:Int)<t.l.length:=by omega
 have hl1:(1:Int)<t.l.length:=by omega
 have h00:(0:Int)≤0:=by omega
 have h01:(0:Int)≤1:=by omega
 have h02:(0:Int)<2:=by omega
 have h12:(1:Int)<2:=by omega
 have i0:(0:Int)<((0+1+1:Nat):Int):=by decide
 have i1:(1:Int)<((0+1+1:Nat):Int):=by decide
 have hD:t.lD = .s 5 (t.l.map tmD):=bC0 (k:=1) (by omega)
 unfold eY0
 simp only[dcV,dcC,tmV,tmC,dV,sV,iV,bV,E113,O113,hD]at ra rb r0 r1 ⊢
 (rw[lI0];simp only[B113,qC0,sub,Option.getD_some,f113,↓reduceIte,Nat.one_ne_zero])
 simp only[zS,zD,zT39,zT33,zT31,aK0,aC0,aD0,Array.size,List.length,dE0,(id rfl:ownF 113=true),(id rfl:Int.toNat 0=0),aN0,aW0,bT0,aX0,hl0,h00,ha,aH0 a,r0,h6,hs0,Int.lt_irrefl,bsIn,oo43,gN0,aN0,Nat.zero_lt_one,simprocAttr]
 rw[aB0 _ _ _ _ (by kernel_rfl)]
 simp only[zS,zD,aE0,zT33,zT31,zT9,aR0,aK0,aC0,aD0,Array.size,List.length,(id rfl:Int.toNat 0=0),(id rfl:Int.toNat 1=1),aX0,Bool.or_true,hl0,hl1,h00,h01,ha,hb,aH0 a,aH0 b,ra,rb,Nat.zero_lt_one,simprocAttr]
 rw[aB0 _ _ _ _ (by kernel_rfl)]
 simp only[zS,zD,Nat.reduceAdd,Nat.reduceLT,Nat.reduceLeDiff,↓reduceIte,Nat.reduceEqDiff,reduceCtorEq,uN0,iF0,uM0,hG0,bD0,uL0,eS0,bL0,aK0,aC0,aD0,Array.size,List.length,dE0,(id rfl:ownF 113=true),(id rfl:Int.toNat 1=1),aN0,aW0,bT0,hl1,h01,hb,aH0 b,r1,h6,hs1,bsIn,oo43,zA0 (els2:=els++[[.v (.int .i64 0)]]),aN0,Nat.reduceLeDiff,Nat.zero_lt_one]
 rw[aB0 _ _ _ _ (by kernel_rfl)]
 simp only[zS]
 (refine .trans ?_ rfl;kernel_rfl)
theorem p2Fe (a b:Tm)(ha:t.l[0]? = some a)(hb:t.l[1]? = some b)(c:((t.l.length:Int) != 2)=false)(xs:List D)(h6:els.length≤1000000000)(ra:run prog ext (.call 72 [sV o.name,tmV a] [])=some (.ret [bV false] []))(hs0:cP0 (els++[[.v (.int .i64 0)]]) (els++[[.v (.int .i64 0)]])=true)(r0:run prog ext (.call 113 [dcV o,tmV a,.c (.own 0)] [.stk 1 (els++[[.v (.int .i64 0)]]) none true])=some (.ret [V.c (.d (.v .nilIface))] [.stk 1 (els++[[.v (.int .i64 0)]]) none true]))(hs1:cP0 (els++[[.v (.int .i64 1)]]) (els++[[.v (.int .i64 1)]])=true)(r1:run prog ext (.call 113 [dcV o,tmV b,.c (.own 0)] [.stk 1 (els++[[.v (.int .i64 1)]]) none true])=some (.ret [V.c (.d (.i 128 xs))] [.stk 1 (els++[[.v (.int .i64 1)]]) none true])):eY0 ext 1 (E113 w 2) (O113 o t els)=some (.ret [V.c (.d (.i 128 xs))] [.stk 1 els none true]):=by
 have hlen:(t.l.length:Int)=2:=by simpa using c
 have hl0:(0:Int)<t.l.length:=by omega
 have hl1:(1:Int)<t.l.length:=by omega
 have h00:(0:Int)≤0:=by omega
 have h01:(0:Int)≤1:=by omega
 have h02:(0:Int)<2:=by omega
 have h12:(1:Int)<2:=by omega
 have i0:(0:Int)<((0+1+1:Nat):Int):=by decide
 have i1:(1:Int)<((0+1+1:Nat):Int):=by decide
 have hD:t.lD = .s 5 (t.l.map tmD):=bC0 (k:=1) (by omega)
 unfold eY0
 simp only[dcV,dcC,tmV,tmC,dV,sV,iV,bV,E113,O113,hD]at ra r0 r1 ⊢
 (rw[lI0];simp only[B113,qC0,sub,Option.getD_some,f113,↓reduceIte,Nat.one_ne_zero])
 simp only[zS,zD,zT39,zT33,zT31,aK0,aC0,aD0,Array.size,List.length,dE0,(id rfl:ownF 113=true),(id rfl:Int.toNat 0=0),aN0,aW0,bT0,aX0,hl0,h00,ha,aH0 a,r0,h6,hs0,Int.lt_irrefl,bsIn,oo43,gN0,aN0,Nat.zero_lt_one,simprocAttr]
 rw[aB0 _ _ _ _ (by kernel_rfl)]
 simp only[zS,zD,aE0,zT33,zT31,zT9,aR0,aK0,aC0,aD0,Array.size,List.length,(id rfl:Int.toNat 0=0),aX0,Bool.or_true,hl0,h00,ha,aH0 a,ra,Nat.zero_lt_one,simprocAttr]
 rw[aB0 _ _ _ _ (by kernel_rfl)]
 simp only[zS,zD,Nat.reduceAdd,Nat.reduceLT,Nat.reduceLeDiff,↓reduceIte,Nat.reduceEqDiff,reduceCtorEq,uN0,iF0,uM0,hG0,bD0,uL0,eS0,bL0,aK0,aC0,aD0,Array.size,List.length,dE0,(id rfl:ownF 113=true),(id rfl:Int.toNat 1=1),aN0,aW0,bT0,hl1,h01,hb,aH0 b,r1,h6,hs1,bsIn,oo43,zA0 (els2:=els++[[.v (.int .i64 0)]]),aN0,Nat.reduceLeDiff,Nat.zero_lt_one]
 rw[aB0 _ _ _ _ (by kernel_rfl)]
 simp only[zS]
 (refine .trans ?_ rfl;kernel_rfl)
theorem p2Ge (a b:Tm)(ha:t.l[0]? = some a)(hb:t.l[1]? = some b)(c:((t.l.length:Int) != 2)=false)(xs:List D)(h6:els.length≤1000000000)(ra:run prog ext (.call 72 [sV o.name,tmV a] [])=some (.ret [bV true] []))(rb:run prog ext (.call 184 [tmV b] [])=some (.ret [bV false] []))(hs0:cP0 (els++[[.v (.int .i64 0)]]) (els++[[.v (.int .i64 0)]])=true)(r0:run prog ext (.call 113 [dcV o,tmV a,.c (.own 0)] [.stk 1 (els++[[.v (.int .i64 0)]]) none true])=some (.ret [V.c (.d (.v .nilIface))] [.stk 1 (els++[[.v (.int .i64 0)]]) none true]))(hs1:cP0 (els++[[.v (.int .i64 1)]]) (els++[[.v (.int .i64 1)]])=true)(r1:run prog ext (.call 113 [dcV o,tmV b,.c (.own 0)] [.stk 1 (els++[[.v (.int .i64 1)]]) none true])=some (.ret [V.c (.d (.i 128 xs))] [.stk 1 (els++[[.v (.int .i64 1)]]) none true])):eY0 ext 1 (E113 w 2) (O113 o t els)=some (.ret [V.c (.d (.i 128 xs))] [.stk 1 els none true]):=by
 have hlen:(t.l.length:Int)=2:=by simpa using c
 have hl0:(0:Int)<t.l.length:=by omega
 have hl1:(1:Int)<t.l.length:=by omega
 have h00:(0:Int)≤0:=by omega
 have h01:(0:Int)≤1:=by omega
 have h02:(0:Int)<2:=by omega
 have h12:(1:Int)<2:=by omega
 have i0:(0:Int)<((0+1+1:Nat):Int):=by decide
 have i1:(1:Int)<((0+1+1:Nat):Int):=by decide
 have hD:t.lD = .s 5 (t.l.map tmD):=bC0 (k:=1) (by omega)
 unfold eY0
 simp only[dcV,dcC,tmV,tmC,dV,sV,iV,bV,E113,O113,hD]at ra rb r0 r1 ⊢
 (rw[lI0];simp only[B113,qC0,sub,Option.getD_some,f113,↓reduceIte,Nat.one_ne_zero])
 simp only[zS,zD,zT39,zT33,zT31,aK0,aC0,aD0,Array.size,List.length,dE0,(id rfl:ownF 113=true),(id rfl:Int.toNat 0=0),aN0,aW0,bT0,aX0,hl0,h00,ha,aH0 a,r0,h6,hs0,Int.lt_irrefl,bsIn,oo43,gN0,aN0,Nat.zero_lt_one,simprocAttr]
 rw[aB0 _ _ _ _ (by kernel_rfl)]
 simp only[zS,zD,aE0,zT33,zT31,zT9,aR0,aK0,aC0,aD0,Array.size,List.length,(id rfl:Int.toNat 0=0),(id rfl:Int.toNat 1=1),aX0,Bool.or_true,hl0,hl1,h00,h01,ha,hb,aH0 a,aH0 b,ra,rb,Nat.zero_lt_one,simprocAttr]
 rw[aB0 _ _ _ _ (by kernel_rfl)]
 simp only[zS,zD,Nat.reduceAdd,Nat.reduceLT,Nat.reduceLeDiff,↓reduceIte,Nat.reduceEqDiff,reduceCtorEq,uN0,iF0,uM0,hG0,bD0,uL0,eS0,bL0,aK0,aC0,aD0,Array.size,List.length,dE0,(id rfl:ownF 113=true),(id rfl:Int.toNat 1=1),aN0,aW0,bT0,hl1,h01,hb,aH0 b,r1,h6,hs1,bsIn,oo43,zA0 (els2:=els++[[.v (.int .i64 0)]]),aN0,Nat.reduceLeDiff,Nat.zero_lt_one]
 rw[aB0 _ _ _ _ (by kernel_rfl)]
 simp only[zS]
 (refine .trans ?_ rfl;kernel_rfl)
theorem en113a (hx:ext 113=none)(hs:cP0 els els=true)(r102:run prog ext (.call 102 [iV 43,.c (.own 0)] [.stk 1 els none true])=some (.ret [dV w] [.stk 1 els none true]))(r72:run prog ext (.call 72 [sV o.name,tmV t] [])=some (.ret [bV true] []))
  (e26:(t.op==26)=false) (c:((t.l.length:Int) != 2)=false) (e5:(t.op==5)=false) (e8:(t.op==8)=true) (out:Option Out) (h:eY0 ext 1 (E113 w 0) (O113 o t els)=out):run prog ext (.call 113 [dcV o,tmV t,.c (.own 0)] [.stk 1 els none true])=out:=by
 unfold eY0 at h
 (rw[enT hx func113 rfl];simp only[f113,zR,simprocAttr,zE])
 simp only[dcV,dcC,tmV,tmC,dV,sV,iV,bV,E113,O113]at r72 r102 h ⊢
 simp only[zS,zD,aE0,zT33,zT31,zT9,zT3,dN0,Array.size,List.length,aU0,(id rfl:ownF 102=true),aN0,aW0,bT0,aX0,Bool.or_true,r72,r102,hs,e26,c,e5,e8,aI0,bsII,simprocAttr]
 (refine(aA0 ?_).trans h;kernel_rfl)
end
end
section
open Go
variable (ext:Ext)
section
variable (bd:Tm→Bool) (o:Dc)
def posE : Nat→Tm→Option (List Int)
 | 0,_=>some []
 | N+1,t=>
  if(!occ o.name t)=true then none
  else if((t.op==26)&&(t.s.toList==o.name.toList))=true then(if(ownL o t.u && !t.l.any (occ o.name))=true then none else some [])
  else match t.l with
  | [a,b]=>
   if(t.op==5)=true then(if(mkB t.n 2||occ o.name a)=true then some [] else(posE N b).map (1 :: ·))
   else if(t.op==8)=true then
    (if((mkB t.n 1&&occ o.name a)||(mkB t.n 2&&occ o.name b))=true then some [] else match posE N a with
     | some q=>some (0::q)
     | none=>if(occ o.name a&&bd b)=true then some [] else(posE N b).map (1 :: ·))
   else some []
  | _=>some []
end
def resP (p:List Int):Option (List Int)→V
 | none=> .c (.d (.v .nilIface))
 | some q=> .c (.d (.i 128 [.v (.int .i64 43),.s 1 ((p++q).map inD)]))
theorem hH2 (p:List Int)(k:Int)(x:Option (List Int)):resP (p++[k]) x=resP p (x.map (k :: ·)):=by
 cases x <;> simp[resP]
section
variable (bd:Tm→Bool) (o:Dc) (M:Nat)
theorem jJ2 (hx:ext 113=none)(r102:∀ a r,List.length r+1<2^29→run prog ext (.call 102 [iV 43,.c (.own 0)] [.stk 1 ((a::r).map inD) none true])=some (.ret [resP (a::r) (some [])] [.stk 1 ((a::r).map inD) none true]))
  (r72:∀ y:Tm,y.sz≤M→run prog ext (.call 72 [sV o.name,tmV y] [])=some (.ret [bV (occ o.name y)] []))
  (r182:∀ y:Tm,y.sz≤M→run prog ext (.call 182 [dcV o,dV y.uD] [])=some (.ret [bV (ownL o y.u)] []))
  (r107:∀ y:Tm,y.sz≤M→run prog ext (.call 107 [dV y.lD,.c (.fn 183 [] [0])] [.box (dcC o)])=some (.ret [bV (y.l.any (occ o.name))] [.box (dcC o)]))
  (r184:∀ y:Tm,y.sz≤M→run prog ext (.call 184 [tmV y] [])=some (.ret [bV (bd y)] [])) :
  ∀ (N:Nat) (t:Tm),t.sz≤N→t.sz≤M→∀ (a0:Int) (r0:List Int),r0.length+N<2^29 →
   run prog ext (.call 113 [dcV o,tmV t,.c (.own 0)] [.stk 1 ((a0::r0).map inD) none true])=some (.ret [resP (a0::r0) (posE bd o N t)] [.stk 1 ((a0::r0).map inD) none true])
 | 0,t,h,_,_,_,_=>by have:=t.sz_pos;omega
 | N+1,t,h,hM,a0,r0,hp=>by
  have hs:=hF0 (a0::r0)
  have q102:=r102 a0 r0 (by omega)
  have q72:=r72 t hM
  have h6:((a0::r0).map inD).length≤1000000000:=by simp only[List.length_map,List.length_cons];omega
  have ih:∀ (k:Int) (y:Tm),y∈t.l→run prog ext (.call 113 [dcV o,tmV y,.c (.own 0)] [.stk 1 ((a0::r0).map inD++[[.v (.int .i64 k)]]) none true])=some (.ret [resP (a0::r0) ((posE bd o N y).map (k :: ·))] [.stk 1 ((a0::r0).map inD++[[.v (.int .i64 k)]]) none true]):=by
   intro k y hy
   have hsz:=Tm.sz_lt hy
   have:=jJ2 hx r102 r72 r182 r107 r184 N y (by omega) (by omega) a0 (r0++[k]) (by simp;omega)
   rw[← List.cons_append,hH2,List.map_append]at this
   exact this
  have hs2:∀ k:Int,cP0 ((a0::r0).map inD++[[.v (.int .i64 k)]]) ((a0::r0).map inD++[[.v (.int .i64 k)]])=true:=kI0 (a0::r0)
  have e0:resP (a0::r0) (some [])=dV (.i 128 [.v (.int .i64 43),.s 1 ((a0::r0).map inD)]):=by simp[resP,dV]
  rw[e0]at q102
  rw[posE]
  cases hocc:occ o.name t with
  | false=>
   rw[hocc]at q72
   exact ag0 ext o t _ hx q72
  | true=>
  rw[hocc]at q72
  rw[if_neg (by decide)]
  by_cases hself:((t.op==26)&&(t.s.toList==o.name.toList))=true
  ·rw[if_pos hself]
   rw[Bool.and_eq_true]at hself
   have q182:=r182 t hM
   have q107:=r107 t hM
   cases c1:ownL o t.u with
   | false=>
    rw[c1]at q182
    rw[Bool.false_and,if_neg (by decide),e0]
    exact ag1 ext o t _ _ hx hs q102 q72 hself.1 hself.2 q182
   | true=>
    rw[c1]at q182
    cases c2:t.l.any (occ o.name) with
    | false=>rw[c2]at q107;exact ag2f ext o t _ _ hx hs q102 q72 hself.1 hself.2 q182 q107
    | true=>
     rw[c2]at q107
     rw[if_neg (by decide),e0]
     exact ag2t ext o t _ _ hx hs q102 q72 hself.1 hself.2 q182 q107
  ·rw[if_neg hself]
   -- the operator is 26 with another name,or it is not 26
   have hcase:(t.op==26)=false∨((t.op==26)=true∧(t.s.toList==o.name.toList)=false):=by
    cases e26:(t.op==26) with
    | false=>exact .inl rfl
    | true=>
     rw[e26,Bool.true_and]at hself
     exact .inr ⟨rfl,by simpa using hself⟩
   by_cases hl:∃ a b,t.l=[a,b]
   ·obtain⟨a,b,hl⟩:=hl
    rw[hl]
    dsimp only
    have ha:t.l[0]? = some a:=by rw[hl];rfl
    have hb:t.l[1]? = some b:=by rw[hl];rfl
    have hma:a∈t.l:=List.mem_of_getElem? ha
    have hmb:b∈t.l:=List.mem_of_getElem? hb
    have hc:((t.l.length:Int) != 2)=false:=by rw[hl];rfl
    have hsa:=Tm.sz_lt hma
    have hsb:=Tm.sz_lt hmb
    have ra:=r72 a (by omega)
    have rb:=r72 b (by omega)
    have i0:=ih 0 a hma
    have i1:=ih 1 b hmb
    cases e5:(t.op==5) with
    | true=>
     rw[if_pos rfl]
     cases m2:mkB t.n 2 with
     | true=>
      rw[Bool.true_or,if_pos rfl,e0]
      rcases hcase with e26 | ⟨e26,en⟩
      ·exact ag4a ext o t _ _ hx hs q102 q72 e26 a b ha hb hc e5 m2
      ·exact ag4b ext o t _ _ hx hs q102 q72 e26 en a b ha hb hc e5 m2
     | false=>
      rw[Bool.false_or]
      cases ca:occ o.name a with
      | true=>
       rw[ca]at ra
       rw[if_pos rfl,e0]
       rcases hcase with e26 | ⟨e26,en⟩
       ·exact ag5a ext o t _ _ hx hs q102 q72 e26 a b ha hb hc e5 m2 ra
       ·exact ag5b ext o t _ _ hx hs q102 q72 e26 en a b ha hb hc e5 m2 ra
      | false=>
       rw[ca]at ra
       rw[if_neg (by decide)]
       cases hq:posE bd o N b with
       | none=>
        rw[hq]at i1
        rcases hcase with e26 | ⟨e26,en⟩
        ·exact ag6na ext o t _ _ hx hs q102 q72 e26 a b ha hb hc e5 m2 ra h6 (hs2 1) i1
        ·exact ag6nb ext o t _ _ hx hs q102 q72 e26 en a b ha hb hc e5 m2 ra h6 (hs2 1) i1
       | some q=>
        rw[hq]at i1
        rcases hcase with e26 | ⟨e26,en⟩
        ·exact ag6ea ext o t _ _ hx hs q102 q72 e26 _ a b ha hb hc e5 m2 ra h6 (hs2 1) i1
        ·exact ag6eb ext o t _ _ hx hs q102 q72 e26 en _ a b ha hb hc e5 m2 ra h6 (hs2 1) i1
    | false=>
     rw[if_neg (by decide)]
     cases e8:(t.op==8) with
     | false=>
      rw[if_neg (by decide),e0]
      rcases hcase with e26 | ⟨e26,en⟩
      ·exact ag7a ext o t _ _ hx hs q102 q72 e26 a b ha hb hc e5 e8
      ·exact ag7b ext o t _ _ hx hs q102 q72 e26 en a b ha hb hc e5 e8
     | true=>
      rw[if_pos rfl]
      have e26:(t.op==26)=false:=by rw[beq_iff_eq]at e8;rw[e8];rfl
      refine en113a ext o t _ _ hx hs q102 q72 e26 hc e5 e8 _ ?_
      have w1:wr (0+1)=1:=by decide
      have w2:wr (1+1)=2:=by decide
      -- the first mark
      by_cases g1:(mkB t.n 1&&occ o.name a)=true
      ·rw[g1,Bool.true_or,if_pos rfl,e0]
       rw[Bool.and_eq_true]at g1
       rw[g1.2]at ra
       exact p0X ext o t _ _ a b ha hb hc g1.1 ra
      have g1':(mkB t.n 1&&occ o.name a)=false:=by simpa using g1
      rw[g1',Bool.false_or]
      suffices H:eY0 ext 1 (E113 (.i 128 [.v (.int .i64 43),.s 1 ((a0::r0).map inD)]) 1) (O113 o t ((a0::r0).map inD))=some (.ret [resP (a0::r0) (if(mkB t.n 2&&occ o.name b)=true then some [] else match posE bd o N a with
        | some q=>some (0::q)
        | none=>if(occ o.name a&&bd b)=true then some [] else(posE bd o N b).map (1 :: ·))] [.stk 1 ((a0::r0).map inD) none true]) by
       cases m1:mkB t.n 1 with
       | false=>exact p0A ext o t _ _ a b ha hb hc m1 _ (by rw[w1];exact H)
       | true=>
        rw[m1,Bool.true_and]at g1'
        have ra':=ra
        rw[g1']at ra'
        exact p0B ext o t _ _ a b ha hb hc m1 ra' _ (by rw[w1];exact H)
      -- the second mark
      by_cases g2:(mkB t.n 2&&occ o.name b)=true
      ·rw[if_pos g2,e0]
       rw[Bool.and_eq_true]at g2
       rw[g2.2]at rb
       exact p1X ext o t _ _ a b ha hb hc g2.1 rb
      have g2':(mkB t.n 2&&occ o.name b)=false:=by simpa using g2
      rw[if_neg g2]
      suffices H:eY0 ext 1 (E113 (.i 128 [.v (.int .i64 43),.s 1 ((a0::r0).map inD)]) 2) (O113 o t ((a0::r0).map inD))=some (.ret [resP (a0::r0) (match posE bd o N a with
        | some q=>some (0::q)
        | none=>if(occ o.name a&&bd b)=true then some [] else(posE bd o N b).map (1 :: ·))] [.stk 1 ((a0::r0).map inD) none true]) by
       cases m2:mkB t.n 2 with
       | false=>exact p1A ext o t _ _ a b ha hb hc m2 _ (by rw[w2];exact H)
       | true=>
        rw[m2,Bool.true_and]at g2'
        have rb':=rb
        rw[g2']at rb'
        exact p1B ext o t _ _ a b ha hb hc m2 rb' _ (by rw[w2];exact H)
      cases hq:posE bd o N a with
      | some q=>
       rw[hq]at i0
       exact p2E ext o t _ _ a b ha hb hc _ h6 (hs2 0) i0
      | none=>
       rw[hq]at i0
       dsimp only
       have q184:=r184 b (by omega)
       cases ca:occ o.name a with
       | false=>
        rw[ca]at ra
        rw[Bool.false_and,if_neg (by decide)]
        cases hq2:posE bd o N b with
        | none=>rw[hq2]at i1;exact p2Fn ext o t _ _ a b ha hb hc h6 ra (hs2 0) i0 (hs2 1) i1
        | some q=>rw[hq2]at i1;exact p2Fe ext o t _ _ a b ha hb hc _ h6 ra (hs2 0) i0 (hs2 1) i1
       | true=>
        rw[ca]at ra
        rw[Bool.true_and]
        cases cb:bd b with
        | true=>
         rw[cb]at q184
         rw[if_pos rfl,e0]
         exact p2X ext o t _ _ a b ha hb hc h6 ra q184 (hs2 0) i0
        | false=>
         rw[cb]at q184
         rw[if_neg (by decide)]
         cases hq2:posE bd o N b with
         | none=>rw[hq2]at i1;exact p2Gn ext o t _ _ a b ha hb hc h6 ra q184 (hs2 0) i0 (hs2 1) i1
         | some q=>rw[hq2]at i1;exact p2Ge ext o t _ _ a b ha hb hc _ h6 ra q184 (hs2 0) i0 (hs2 1) i1
   ·have hc:((t.l.length:Int) != 2)=true:=by
     match e:t.l with
     | []=>rfl
     | [_]=>rfl
     | [a,b]=>exact absurd ⟨a,b,e⟩ hl
     | _::_::_::l=>simp[bne];omega
    have em:(match t.l with
     | [a,b]=>
      if(t.op==5)=true then(if(mkB t.n 2||occ o.name a)=true then some [] else(posE bd o N b).map (1 :: ·))
      else if(t.op==8)=true then
       (if((mkB t.n 1&&occ o.name a)||(mkB t.n 2&&occ o.name b))=true then some [] else match posE bd o N a with
        | some q=>some (0::q)
        | none=>if(occ o.name a&&bd b)=true then some [] else(posE bd o N b).map (1 :: ·))
      else some []
     | _=>some [])=some []:=by
     match e:t.l with
     | []=>rfl
     | [_]=>rfl
     | [a,b]=>exact absurd ⟨a,b,e⟩ hl
     | _::_::_::l=>rfl
    rw[em,e0]
    rcases hcase with e26 | ⟨e26,en⟩
    ·exact ag3a ext o t _ _ hx hs q102 q72 e26 hc
    ·exact ag3b ext o t _ _ hx hs q102 q72 e26 en hc
end
end
end Go.Proofs.YteenjodhmppgjaaGreatDoor.Am
