/- A part of the proof of a card. No conditions. -/
import Derived.Test.YteenjodhmppgjaaGreatDoorPe1
set_option linter.all false
set_option maxHeartbeats 16000000
set_option maxRecDepth 10000
namespace Go.Proofs.YteenjodhmppgjaaGreatDoor.Am
open Go.Proofs.Tryz
section
open Go
variable (ext:Ext)
noncomputable def B248 : Code:=(f248.body.getD .skip)
noncomputable def nF2 : Code:=sub B248 [1,1,0,1,0,0]
theorem mD1 : It.code nF2=It.code (sub B248 [1,1,0,1,0,0]):=rfl
noncomputable def rF1 : List It:=[.inBlock 0,.code (sub B248 [1,1,1])]
noncomputable def wS0 (ext:Ext)(m:Nat)(env:Env)(loc:List O):Option Out:=run prog ext (.k ⟨23,m,[.tmp 2],false⟩ (.code nF2 :: .inLoop nF2::rF1) env loc)
theorem rV2 (look:Look)(u:Lev):lenA look (.c (.d u.d))=eff (.c (.d (.v (.int .i64 u.vs.length)))):=by unfold Lev.d;rw[gI0,List.length_map]
def E248 (u:Lev)(ls:List Int)(k:Int):Env:=[(3,mkV 0 (ls.map inD)),(7,dV u.d),(8,iV u.vs.length),(9,iV k)]
theorem eA2 (hx:ext 248=none)(u:Lev)(out:Option Out)(h:wS0 ext 0 (E248 u [] 0) []=out):run prog ext (.call 248 [levV u] [])=out:=by
 unfold wS0 at h
 (rw[enT hx func248 rfl];simp only[f248,zR,simprocAttr,zE])
 simp only[levV,levC,dV,iV,E248,List.map_nil,cF0]at h ⊢
 simp only[zS,zD,bF0,zT34,rV2,simprocAttr]
 (refine(aA0 ?_).trans h;kernel_rfl)
theorem wD2 (u:Lev)(y:LV)(ls:List Int)(k:Nat)(hb:ls.length<2^29)(hk:u.vs[k]? = some y)(hl:(k:Int)<u.vs.length)(out:Option Out)
  (h:wS0 ext 0 (E248 u (ls++[y.v]) (wr ((k:Int)+1))) (mkO 1 ((ls++[y.v]).map inD))=out):wS0 ext 0 (E248 u ls k) (mkO 1 (ls.map inD))=out:=by
 have h0:(0:Int)≤k:=by omega
 unfold wS0 at h ⊢
 cases ls with
 | nil=>
  simp only[dV,iV,E248,vd_lt hl,List.map_cons,List.map_nil,cF0,cR0,List.nil_append,gP0]at h ⊢
  (rw[mD1];simp only[B248,rF1,sub,f248,↓reduceIte,zG])
  simp only[zS,zD,cV0,dB0,zT3,h0,hl,Int.toNat_natCast,hk,xD1,bsIn,no43,dL0,Nat.zero_le,simprocAttr]
  (refine(aA0 ?_).trans h;kernel_rfl)
 | cons a r=>
  have hb':r.length+1≤1000000000:=by simp only[List.length_cons]at hb;omega
  simp only[dV,iV,E248,vd_lt hl,List.map_append,List.map_cons,List.map_nil,cA0,bZ0,List.cons_append,gP0]at h ⊢
  (rw[mD1];simp only[B248,rF1,sub,f248,↓reduceIte,zG])
  simp only[zS,zD,cV0,dB0,zT3,h0,hl,Int.toNat_natCast,hk,xD1,bsIn,oo43,dP0,hb',simprocAttr]
  (refine(aA0 ?_).trans h;kernel_rfl)
theorem nN1 (slot:Nat):stkB (aY0 [] [] slot (some (.ret [] [])))=some ⟨.val (.tup []),[],[]⟩:=id rfl
theorem mV1 {α β:Type} (g:α→β):∀ (l:List α)(k:Nat),xF0 (fun _ _=>true) (fun _ x=>g x) k l=l.map g
 | [],_=>rfl
 | x::l,k=>by rw[xF0,if_pos rfl,mV1 g l];rfl
section
variable (so co:List Int→List Int)
theorem dH2 (u:Lev)(r1:run prog ext (.call 249 [dV nilD] [])=some (.ret [] []))(r2:run prog ext (.call 250 [dV nilD] [])=some (.ret [dV nilD] [])) :
  wS0 ext 0 (E248 u [] u.vs.length) []=some (.ret [dV nilD] []):=by
 unfold wS0
 simp only[dV,iV,E248,nilD,List.map_nil,cF0]at r1 r2 ⊢
 (rw[mD1];simp only[B248,rF1,sub,f248,↓reduceIte,zG])
 simp only[zS,zD,Int.lt_irrefl,r1,r2,nN1,simprocAttr]
 (refine .trans ?_ rfl;kernel_rfl)
theorem dG2 (u:Lev)(a:Int)(r:List Int)(r1:run prog ext (.call 249 [.c (.own 0)] [.arr 1 ((a::r).map inD)])=some (.ret [] [.arr 1 ((so (a::r)).map inD)]))(r2:run prog ext (.call 250 [.c (.own 0)] [.arr 1 ((so (a::r)).map inD)])=some (.ret [.c (.own 1)] [.gone,.arr 1 ((co (so (a::r))).map inD)])) :
  wS0 ext 0 (E248 u (a::r) u.vs.length) (mkO 1 ((a::r).map inD))=some (.ret [dV (.s 1 ((co (so (a::r))).map inD))] []):=by
 have c1:=fun slot=>aL0 (rec:=run prog ext) (look:=lk [.arr 1 ((a::r).map inD)]) (slot:=slot) (f:=249) (args:=[.c (.own 0)]) (ids:=[0]) (bor:=[]) (e:=⟨.val (.tup []),[(0,.arr 1 ((so (a::r)).map inD))],[0]⟩) (by kernel_rfl) r1 (by kernel_rfl)
 have c2:=fun slot=>aL0 (rec:=run prog ext) (look:=lk [.arr 1 ((so (a::r)).map inD)]) (slot:=slot) (f:=250) (args:=[.c (.own 0)]) (ids:=[0]) (bor:=[]) (e:=⟨.val (.c (.own slot)),[(0,.gone),(slot,.arr 1 ((co (so (a::r))).map inD))],[0]⟩) (by kernel_rfl) r2 (by simp[bW0,mapO,renV,renO,renC,back,bQ0,aZ0,bE0])
 generalize so (a::r)=s at r1 r2 c1 c2 ⊢
 generalize co s=t at r2 c2 ⊢
 unfold wS0
 simp only[dV,iV,E248,List.map_cons,cA0,bZ0]at c1 c2 ⊢
 (rw[mD1];simp only[B248,rF1,sub,f248,↓reduceIte,zG])
 simp only[zS,zD,Int.lt_irrefl,c1,c2,simprocAttr]
 (refine .trans ?_ rfl;kernel_rfl)
theorem xB2 (hx:ext 248=none)(hc:co (so [])=[])(n1:run prog ext (.call 249 [dV nilD] [])=some (.ret [] []))(n2:run prog ext (.call 250 [dV nilD] [])=some (.ret [dV nilD] []))
  (r1:∀ a r,List.length r<2^29→run prog ext (.call 249 [.c (.own 0)] [.arr 1 ((a::r).map inD)])=some (.ret [] [.arr 1 ((so (a::r)).map inD)]))
  (r2:∀ l,List.length l<2^29→run prog ext (.call 250 [.c (.own 0)] [.arr 1 (l.map inD)])=some (.ret [.c (.own 1)] [.gone,.arr 1 ((co l).map inD)]))
  (hl:∀ l,(so l).length=l.length) (u:Lev) (hs:u.vs.length<2^29):run prog ext (.call 248 [levV u] [])=some (.ret [dV (aJ0 u.vs.isEmpty 1 ((co (so (u.vs.map LV.v))).map inD))] []):=by
 refine eA2 ext hx u _ ?_
 have:=eS1 (fun _ _=>true) (fun _ x=>x.v) u.vs (fun k ls=>wS0 ext 0 (E248 u ls k) (mkO 1 (ls.map inD))) (fun ls=>some (.ret [dV (aJ0 ls.isEmpty 1 ((co (so ls)).map inD))] [])) (by omega)
  (fun k y ls hk hl he=>⟨fun _ out h=>wD2 ext u y ls k (by omega) hk hl out h,fun h=>by cases h⟩) (fun ls he=>by
   cases ls with
   | nil=>
    rw[hc]
    exact dH2 ext u n1 n2
   | cons a r=>
    have h1:r.length<2^29:=by simp only[List.length_cons]at he;omega
    exact dG2 ext so co u a r (r1 a r h1) (r2 _ (by rw[hl];simp only[List.length_cons]at he ⊢;omega)))
 rw[mV1]at this
 have e:(u.vs.map LV.v).isEmpty=u.vs.isEmpty:=by cases u.vs <;> rfl
 rw[e]at this
 exact this
end
end
section
open Go
variable (ext:Ext) (F:FuncId)
def Og (l:List (List D)):List O:= .box [mkC 1 l]::mkO 1 l
def Oh (g:Bool)(l:List (List D)):List O:=match g with | true=>[.box [.own 2],.gone,.arr 1 l] | false=>Og l
theorem oZ0 : Og []=[.box [.d (.v (.slice none 0 0))]]:=rfl
theorem eA0 (a:List D)(r:List (List D)):Og (a::r)=[.box [.own 1],.arr 1 (a::r)]:=rfl
theorem mW1 {f:FuncId}{look:Look}{args:List V} (h:ownF f=false):cI0 f look args=cI0 0 look args:=by
 unfold cI0
 rw[h];rfl
theorem ownC {f:FuncId} (h:(ownF f||gJ0 f)=false):ownF f=false∧gJ0 f=false:=by simpa using h
theorem ownA {f:FuncId} (h:(ownF f||gJ0 f)=false)(b:Bool):(b&&gJ0 f)=false:=by rw[(ownC h).2,Bool.and_false]
section
variable (rec:Rec) (y:Tm) (o1:O) (hF:(ownF F||gJ0 F)=false)
include hF
theorem gAA (slot:Nat)(hr:rec (.call F [tmV y,.c (.ptr 0 0)] (Og []))=some (.ret [] (Og []))):cH0 rec (lk [.box [.d (.v (.slice none 0 0))],o1]) slot F [tmV y,.c (.ptr 0 0)]=some ⟨.val (.tup []),[(0,.box [.d (.v (.slice none 0 0))])],[0]⟩:=
 aL0 (f:=F) (ids:=[0]) (bor:=[]) ((mW1 (ownC hF).1).trans (by kernel_rfl)) hr (by kernel_rfl) (ownA hF _)
theorem gAB (slot:Nat)(b:List D)(q:List (List D))(hr:rec (.call F [tmV y,.c (.ptr 0 0)] (Og []))=some (.ret [] (Og (b::q)))):cH0 rec (lk [.box [.d (.v (.slice none 0 0))],o1]) slot F [tmV y,.c (.ptr 0 0)]=some ⟨.val (.tup []),[(0,.box [.own slot]),(slot,.arr 1 (b::q))],[0]⟩:=
 aL0 (f:=F) (ids:=[0]) (bor:=[]) ((mW1 (ownC hF).1).trans (by kernel_rfl)) hr (by simp[bW0,eA0,mapO,renO,renC,back,bQ0,aZ0,bE0]) (ownA hF _)
theorem gAC (slot:Nat)(a:List D)(r:List (List D))(hr:rec (.call F [tmV y,.c (.ptr 0 0)] (Og (a::r)))=some (.ret [] (Og (a::r)))):cH0 rec (lk [.box [.own 1],.arr 1 (a::r),o1]) slot F [tmV y,.c (.ptr 0 0)]=some ⟨.val (.tup []),[(0,.box [.own 1]),(1,.arr 1 (a::r))],[0,1]⟩:=
 aL0 (f:=F) (ids:=[0,1]) (bor:=[]) ((mW1 (ownC hF).1).trans (by kernel_rfl)) hr (by kernel_rfl) (ownA hF _)
theorem gAD (slot:Nat)(a b:List D)(r q:List (List D))(hr:rec (.call F [tmV y,.c (.ptr 0 0)] (Og (a::r)))=some (.ret [] (Oh true (b::q)))):cH0 rec (lk [.box [.own 1],.arr 1 (a::r),o1]) slot F [tmV y,.c (.ptr 0 0)]=some ⟨.val (.tup []),[(0,.box [.own slot]),(1,.gone),(slot,.arr 1 (b::q))],[0,1]⟩:=
 aL0 (f:=F) (ids:=[0,1]) (bor:=[]) ((mW1 (ownC hF).1).trans (by kernel_rfl)) hr (by simp[bW0,Oh,mapO,renO,renC,back,bQ0,aZ0,bE0]) (ownA hF _)
end
section
variable (rec:Rec) (y:Tm) (o1:O)
theorem gBA (slot:Nat)(hr:rec (.call 116 [tmV y,.c (.fn F [] [0])] (Og []))=some (.ret [] (Og []))):cH0 rec (lk [.box [.d (.v (.slice none 0 0))],o1]) slot 116 [tmV y,.c (.fn F [] [0])]=some ⟨.val (.tup []),[(0,.box [.d (.v (.slice none 0 0))])],[0]⟩:=
 aL0 (ids:=[0]) (bor:=[]) (by kernel_rfl) hr (by kernel_rfl)
theorem gBB (slot:Nat)(b:List D)(q:List (List D))(hr:rec (.call 116 [tmV y,.c (.fn F [] [0])] (Og []))=some (.ret [] (Og (b::q)))):cH0 rec (lk [.box [.d (.v (.slice none 0 0))],o1]) slot 116 [tmV y,.c (.fn F [] [0])]=some ⟨.val (.tup []),[(0,.box [.own slot]),(slot,.arr 1 (b::q))],[0]⟩:=
 aL0 (ids:=[0]) (bor:=[]) (by kernel_rfl) hr (by simp[bW0,eA0,mapO,renO,renC,back,bQ0,aZ0,bE0])
theorem gBC (slot:Nat)(a:List D)(r:List (List D))(hr:rec (.call 116 [tmV y,.c (.fn F [] [0])] (Og (a::r)))=some (.ret [] (Og (a::r)))):cH0 rec (lk [.box [.own 1],.arr 1 (a::r),o1]) slot 116 [tmV y,.c (.fn F [] [0])]=some ⟨.val (.tup []),[(0,.box [.own 1]),(1,.arr 1 (a::r))],[0,1]⟩:=
 aL0 (ids:=[0,1]) (bor:=[]) (by kernel_rfl) hr (by kernel_rfl)
theorem gBD (slot:Nat)(a b:List D)(r q:List (List D))(hr:rec (.call 116 [tmV y,.c (.fn F [] [0])] (Og (a::r)))=some (.ret [] (Oh true (b::q)))):cH0 rec (lk [.box [.own 1],.arr 1 (a::r),o1]) slot 116 [tmV y,.c (.fn F [] [0])]=some ⟨.val (.tup []),[(0,.box [.own slot]),(1,.gone),(slot,.arr 1 (b::q))],[0,1]⟩:=
 aL0 (ids:=[0,1]) (bor:=[]) (by kernel_rfl) hr (by simp[bW0,Oh,mapO,renO,renC,back,bQ0,aZ0,bE0])
theorem gBE (slot:Nat)(a:List D)(r:List (List D))(hr:rec (.call 116 [tmV y,.c (.fn F [] [0])] (Og (a::r)))=some (.ret [] (Og (a::r)))):cH0 rec (lk [.box [.own 2],.gone,.arr 1 (a::r),o1]) slot 116 [tmV y,.c (.fn F [] [0])]=some ⟨.val (.tup []),[(0,.box [.own 2]),(2,.arr 1 (a::r))],[0,2]⟩:=
 aL0 (ids:=[0,2]) (bor:=[]) (by kernel_rfl) hr (by kernel_rfl)
theorem gBF (slot:Nat)(a b:List D)(r q:List (List D))(hr:rec (.call 116 [tmV y,.c (.fn F [] [0])] (Og (a::r)))=some (.ret [] (Oh true (b::q)))):cH0 rec (lk [.box [.own 2],.gone,.arr 1 (a::r),o1]) slot 116 [tmV y,.c (.fn F [] [0])]=some ⟨.val (.tup []),[(0,.box [.own slot]),(2,.gone),(slot,.arr 1 (b::q))],[0,2]⟩:=
 aL0 (ids:=[0,2]) (bor:=[]) (by kernel_rfl) hr (by simp[bW0,Oh,mapO,renO,renC,back,bQ0,aZ0,bE0])
end
def Eg (F:FuncId)(x:Tm)(k:Int):Env:=[(1,.c (.fn F [] [0])),(10,dV x.lD),(11,iV x.l.length),(12,iV k)]
theorem ge116a (hF:(ownF F||gJ0 F)=false)(hx:ext 116=none)(x:Tm)  (hr:run prog ext (.call F [tmV x,.c (.ptr 0 0)] (Og []))=some (.ret [] (Og [])))(out:Option Out)(h:dU0 ext 1 (Eg F x 0) (Og [])=out):run prog ext (.call 116 [tmV x,.c (.fn F [] [0])] (Og []))=out:=by
 have hC:=fun o1 slot=>gAA F (run prog ext) x o1 hF slot hr
 unfold dU0 at h
 (rw[enT hx func116 rfl];simp only[f116,zR,simprocAttr,zE])
 simp only[tmV,tmC,dV,iV,Eg,oZ0]at hC h ⊢
 simp only[zS,zD,zT33,zT31,hC,aI0,simprocAttr]
 (refine(aA0 ?_).trans h;kernel_rfl)
theorem ge116b (hF:(ownF F||gJ0 F)=false)(hx:ext 116=none)(x:Tm)(b:List D)(q:List (List D))(hr:run prog ext (.call F [tmV x,.c (.ptr 0 0)] (Og []))=some (.ret [] (Og (b::q))))(out:Option Out)(h:dU0 ext 1 (Eg F x 0) (Og (b::q))=out):run prog ext (.call 116 [tmV x,.c (.fn F [] [0])] (Og []))=out:=by
 have hC:=fun o1 slot=>gAB F (run prog ext) x o1 hF slot b q hr
 unfold dU0 at h
 (rw[enT hx func116 rfl];simp only[f116,zR,simprocAttr,zE])
 simp only[tmV,tmC,dV,iV,Eg,oZ0,eA0]at hC h ⊢
 simp only[zS,zD,zT33,zT31,hC,aI0,simprocAttr]
 (refine(aA0 ?_).trans h;kernel_rfl)
theorem ge116c (hF:(ownF F||gJ0 F)=false)(hx:ext 116=none)(x:Tm)(a:List D)(r:List (List D))(hr:run prog ext (.call F [tmV x,.c (.ptr 0 0)] (Og (a::r)))=some (.ret [] (Og (a::r))))(out:Option Out)(h:dU0 ext 2 (Eg F x 0) (Oh false (a::r))=out):run prog ext (.call 116 [tmV x,.c (.fn F [] [0])] (Og (a::r)))=out:=by
 have hC:=fun o1 slot=>gAC F (run prog ext) x o1 hF slot a r hr
 unfold dU0 at h
 (rw[enT hx func116 rfl];simp only[f116,zR,simprocAttr,zE])
 simp only[tmV,tmC,dV,iV,Eg,eA0,Oh]at hC h ⊢
 simp only[zS,zD,zT33,zT31,hC,aI0,simprocAttr]
 (refine(aA0 ?_).trans h;kernel_rfl)
theorem ge116d (hF:(ownF F||gJ0 F)=false)(hx:ext 116=none)(x:Tm)(a b:List D)(r q:List (List D))(hr:run prog ext (.call F [tmV x,.c (.ptr 0 0)] (Og (a::r)))=some (.ret [] (Oh true (b::q))))(out:Option Out)(h:dU0 ext 2 (Eg F x 0) (Oh true (b::q))=out):run prog ext (.call 116 [tmV x,.c (.fn F [] [0])] (Og (a::r)))=out:=by
 have hC:=fun o1 slot=>gAD F (run prog ext) x o1 hF slot a b r q hr
 unfold dU0 at h
 (rw[enT hx func116 rfl];simp only[f116,zR,simprocAttr,zE])
 simp only[tmV,tmC,dV,iV,Eg,eA0,Oh]at hC h ⊢
 simp only[zS,zD,zT33,zT31,hC,aI0,simprocAttr]
 (refine(aA0 ?_).trans h;kernel_rfl)
theorem gst1a (x y:Tm)  (k:Nat)(hk:x.l[k]? = some y)(hl:(k:Int)<x.l.length)(hr:run prog ext (.call 116 [tmV y,.c (.fn F [] [0])] (Og []))=some (.ret [] (Og [])))(out:Option Out)(h:dU0 ext 1 (Eg F x (wr ((k:Int)+1))) (Og [])=out):dU0 ext 1 (Eg F x k) (Og [])=out:=by
 have h0:(0:Int)≤k:=by omega
 have hC:=fun o1 slot=>gBA F (run prog ext) y o1 slot hr
 unfold dU0 at h ⊢
 simp only[tmV,tmC,dV,iV,Eg,oZ0,bC0 hl]at hC h ⊢
 (rw[lJ0];simp only[B116,qD0,sub,f116,↓reduceIte,zG])
 simp only[zS,zD,zT33,bL0,h0,hl,Int.toNat_natCast,hk,aH0 y,hC,simprocAttr]
 (refine(aA0 ?_).trans h;kernel_rfl)
theorem gst1b (x y:Tm)(b:List D)(q:List (List D))(k:Nat)(hk:x.l[k]? = some y)(hl:(k:Int)<x.l.length)(hr:run prog ext (.call 116 [tmV y,.c (.fn F [] [0])] (Og []))=some (.ret [] (Og (b::q))))(out:Option Out)(h:dU0 ext 1 (Eg F x (wr ((k:Int)+1))) (Og (b::q))=out):dU0 ext 1 (Eg F x k) (Og [])=out:=by
 have h0:(0:Int)≤k:=by omega
 have hC:=fun o1 slot=>gBB F (run prog ext) y o1 slot b q hr
 unfold dU0 at h ⊢
 simp only[tmV,tmC,dV,iV,Eg,oZ0,eA0,bC0 hl]at hC h ⊢
 (rw[lJ0];simp only[B116,qD0,sub,f116,↓reduceIte,zG])
 simp only[zS,zD,zT33,bL0,h0,hl,Int.toNat_natCast,hk,aH0 y,hC,simprocAttr]
 (refine(aA0 ?_).trans h;kernel_rfl)
theorem gst1c (x y:Tm)(a:List D)(r:List (List D))(k:Nat)(hk:x.l[k]? = some y)(hl:(k:Int)<x.l.length)(hr:run prog ext (.call 116 [tmV y,.c (.fn F [] [0])] (Og (a::r)))=some (.ret [] (Og (a::r))))(out:Option Out)(h:dU0 ext 1 (Eg F x (wr ((k:Int)+1))) (Og (a::r))=out):dU0 ext 1 (Eg F x k) (Og (a::r))=out:=by
 have h0:(0:Int)≤k:=by omega
 have hC:=fun o1 slot=>gBC F (run prog ext) y o1 slot a r hr
 unfold dU0 at h ⊢
 simp only[tmV,tmC,dV,iV,Eg,eA0,bC0 hl]at hC h ⊢
 (rw[lJ0];simp only[B116,qD0,sub,f116,↓reduceIte,zG])
 simp only[zS,zD,zT33,bL0,h0,hl,Int.toNat_natCast,hk,aH0 y,hC,simprocAttr]
 (refine(aA0 ?_).trans h;kernel_rfl)
theorem gst1d (x y:Tm)(a b:List D)(r q:List (List D))(k:Nat)(hk:x.l[k]? = some y)(hl:(k:Int)<x.l.length)(hr:run prog ext (.call 116 [tmV y,.c (.fn F [] [0])] (Og (a::r)))=some (.ret [] (Oh true (b::q))))(out:Option Out)(h:dU0 ext 1 (Eg F x (wr ((k:Int)+1))) (Og (b::q))=out):dU0 ext 1 (Eg F x k) (Og (a::r))=out:=by
 have h0:(0:Int)≤k:=by omega
 have hC:=fun o1 slot=>gBD F (run prog ext) y o1 slot a b r q hr
 unfold dU0 at h ⊢
 simp only[tmV,tmC,dV,iV,Eg,eA0,bC0 hl]at hC h ⊢
 (rw[lJ0];simp only[B116,qD0,sub,f116,↓reduceIte,zG])
 simp only[zS,zD,zT33,bL0,h0,hl,Int.toNat_natCast,hk,aH0 y,hC,simprocAttr]
 (refine(aA0 ?_).trans h;kernel_rfl)
theorem gst2c (x y:Tm)(a:List D)(r:List (List D))(k:Nat)(hk:x.l[k]? = some y)(hl:(k:Int)<x.l.length)(hr:run prog ext (.call 116 [tmV y,.c (.fn F [] [0])] (Og (a::r)))=some (.ret [] (Og (a::r))))(out:Option Out)(h:dU0 ext 2 (Eg F x (wr ((k:Int)+1))) (Oh false (a::r))=out):dU0 ext 2 (Eg F x k) (Oh false (a::r))=out:=by
 have h0:(0:Int)≤k:=by omega
 have hC:=fun o1 slot=>gBC F (run prog ext) y o1 slot a r hr
 unfold dU0 at h ⊢
 simp only[tmV,tmC,dV,iV,Eg,eA0,Oh,bC0 hl]at hC h ⊢
 (rw[lJ0];simp only[B116,qD0,sub,f116,↓reduceIte,zG])
 simp only[zS,zD,zT33,bL0,h0,hl,Int.toNat_natCast,hk,aH0 y,hC,simprocAttr]
 (refine(aA0 ?_).trans h;kernel_rfl)
theorem gst2d (x y:Tm)(a b:List D)(r q:List (List D))(k:Nat)(hk:x.l[k]? = some y)(hl:(k:Int)<x.l.length)(hr:run prog ext (.call 116 [tmV y,.c (.fn F [] [0])] (Og (a::r)))=some (.ret [] (Oh true (b::q))))(out:Option Out)(h:dU0 ext 2 (Eg F x (wr ((k:Int)+1))) (Oh true (b::q))=out):dU0 ext 2 (Eg F x k) (Oh false (a::r))=out:=by
 have h0:(0:Int)≤k:=by omega
 have hC:=fun o1 slot=>gBD F (run prog ext) y o1 slot a b r q hr
 unfold dU0 at h ⊢
 simp only[tmV,tmC,dV,iV,Eg,eA0,Oh,bC0 hl]at hC h ⊢
 (rw[lJ0];simp only[B116,qD0,sub,f116,↓reduceIte,zG])
 simp only[zS,zD,zT33,bL0,h0,hl,Int.toNat_natCast,hk,aH0 y,hC,simprocAttr]
 (refine(aA0 ?_).trans h;kernel_rfl)
theorem gst2e (x y:Tm)(a:List D)(r:List (List D))(k:Nat)(hk:x.l[k]? = some y)(hl:(k:Int)<x.l.length)(hr:run prog ext (.call 116 [tmV y,.c (.fn F [] [0])] (Og (a::r)))=some (.ret [] (Og (a::r))))(out:Option Out)(h:dU0 ext 2 (Eg F x (wr ((k:Int)+1))) (Oh true (a::r))=out):dU0 ext 2 (Eg F x k) (Oh true (a::r))=out:=by
 have h0:(0:Int)≤k:=by omega
 have hC:=fun o1 slot=>gBE F (run prog ext) y o1 slot a r hr
 unfold dU0 at h ⊢
 simp only[tmV,tmC,dV,iV,Eg,Oh,bC0 hl]at hC h ⊢
 (rw[lJ0];simp only[B116,qD0,sub,f116,↓reduceIte,zG])
 simp only[zS,zD,zT33,bL0,h0,hl,Int.toNat_natCast,hk,aH0 y,hC,simprocAttr]
 (refine(aA0 ?_).trans h;kernel_rfl)
theorem gst2f (x y:Tm)(a b:List D)(r q:List (List D))(k:Nat)(hk:x.l[k]? = some y)(hl:(k:Int)<x.l.length)(hr:run prog ext (.call 116 [tmV y,.c (.fn F [] [0])] (Og (a::r)))=some (.ret [] (Oh true (b::q))))(out:Option Out)(h:dU0 ext 2 (Eg F x (wr ((k:Int)+1))) (Oh true (b::q))=out):dU0 ext 2 (Eg F x k) (Oh true (a::r))=out:=by
 have h0:(0:Int)≤k:=by omega
 have hC:=fun o1 slot=>gBF F (run prog ext) y o1 slot a b r q hr
 unfold dU0 at h ⊢
 simp only[tmV,tmC,dV,iV,Eg,Oh,bC0 hl]at hC h ⊢
 (rw[lJ0];simp only[B116,qD0,sub,f116,↓reduceIte,zG])
 simp only[zS,zD,zT33,bL0,h0,hl,Int.toNat_natCast,hk,aH0 y,hC,simprocAttr]
 (refine(aA0 ?_).trans h;kernel_rfl)
theorem gdn1a (x:Tm)  : dU0 ext 1 (Eg F x x.l.length) (Og [])=some (.ret [] (Og [])):=by
 unfold dU0
 simp only[dV,iV,Eg,oZ0]
 (rw[lJ0];simp only[B116,qD0,sub,f116,↓reduceIte,zG])
 simp only[zS,zD,Int.lt_irrefl,simprocAttr]
 (refine .trans ?_ rfl;kernel_rfl)
theorem gdn1b (x:Tm)(a:List D)(r:List (List D)):dU0 ext 1 (Eg F x x.l.length) (Og (a::r))=some (.ret [] (Og (a::r))):=by
 unfold dU0
 simp only[dV,iV,Eg,eA0]
 (rw[lJ0];simp only[B116,qD0,sub,f116,↓reduceIte,zG])
 simp only[zS,zD,Int.lt_irrefl,simprocAttr]
 (refine .trans ?_ rfl;kernel_rfl)
theorem gdn2c (x:Tm)(a:List D)(r:List (List D)):dU0 ext 2 (Eg F x x.l.length) (Oh false (a::r))=some (.ret [] (Oh false (a::r))):=by
 unfold dU0
 simp only[dV,iV,Eg,eA0,Oh]
 (rw[lJ0];simp only[B116,qD0,sub,f116,↓reduceIte,zG])
 simp only[zS,zD,Int.lt_irrefl,simprocAttr]
 (refine .trans ?_ rfl;kernel_rfl)
theorem gdn2d (x:Tm)(a:List D)(r:List (List D)):dU0 ext 2 (Eg F x x.l.length) (Oh true (a::r))=some (.ret [] (Oh true (a::r))):=by
 unfold dU0
 simp only[dV,iV,Eg,Oh]
 (rw[lJ0];simp only[B116,qD0,sub,f116,↓reduceIte,zG])
 simp only[zS,zD,Int.lt_irrefl,simprocAttr]
 (refine .trans ?_ rfl;kernel_rfl)
section
variable {α:Type} (enc:α→List D) (f1:List α→Tm→List α)
def fgs (l:List α):Tm→List α
 | .mk op n s u zu ls zl=>fgss (f1 l (.mk op n s u zu ls zl)) ls
where fgss (l:List α):List Tm→List α
 | []=>l
 | x::r=>fgss (fgs l x) r
theorem uP1 : ∀ (ls:List Tm)(l:List α),fgs.fgss f1 l ls=ls.foldl (fgs f1) l
 | [],l=>rfl
 | x::r,l=>by rw[fgs.fgss,uP1 r];rfl
theorem uO1 (l:List α)(x:Tm):fgs f1 l x=x.l.foldl (fgs f1) (f1 l x):=by cases x;simp only[fgs,uP1,Tm.l]
theorem lS1 {f:List α→Tm→List α}:∀ (ls:List Tm)(l:List α),(∀ x∈ls,∀ l,l≠[]→f l x≠[])→l≠[]→ls.foldl f l≠[]
 | [],_,_,h=>h
 | x::r,l,hf,h=>lS1 r (f l x) (fun y hy=>hf y (List.mem_cons_of_mem _ hy)) (hf x List.mem_cons_self l h)
theorem fg_ne (hne1:∀ l x,l≠[]→f1 l x≠[]):∀ (N:Nat)(x:Tm),x.sz≤N→∀ l,l≠[]→fgs f1 l x≠[]
 | 0,x,h,_,_=>by have:=x.sz_pos;omega
 | N+1,x,h,l,hl=>by
  rw[uO1]
  exact lS1 x.l _ (fun y hy=>fg_ne hne1 N y (by have:=Tm.sz_lt hy;omega)) (hne1 l x hl)
theorem pJ0 {f:List α→Tm→List α}:∀ (ls:List Tm)(l:List α),(∀ x∈ls,∀ l,(f l x).length≤l.length+x.sz)→(ls.foldl f l).length≤l.length+(ls.map Tm.sz).sum
 | [],_,_=>by simp
 | x::r,l,hf=>by
  have h1:=pJ0 r (f l x) (fun y hy=>hf y (List.mem_cons_of_mem _ hy))
  have h2:=hf x List.mem_cons_self l
  simp only[List.foldl_cons,List.map_cons,List.sum_cons];omega
theorem dS1 (hlen:∀ l x,(f1 l x).length+(x.l.map Tm.sz).sum≤l.length+x.sz):∀ (N:Nat)(x:Tm),x.sz≤N→∀ l,(fgs f1 l x).length≤l.length+x.sz
 | 0,x,h,_=>by have:=x.sz_pos;omega
 | N+1,x,h,l=>by
  rw[uO1]
  have h1:=pJ0 x.l (f1 l x) (fun y hy=>dS1 hlen N y (by have:=Tm.sz_lt hy;omega))
  have h2:=hlen l x
  omega
theorem zV1 {f:List α→Tm→List α}{ls:List Tm}{k:Nat}{y:Tm} (l:List α)(hk:ls[k]? = some y):(ls.take (k+1)).foldl f l=f ((ls.take k).foldl f l) y:=by
 rw[List.take_add_one,hk]
 simp
def chG (l l':List α)(g:Bool):Prop:=(g=false→l=[]∨l'=l)∧(g=true→l≠[]∧l'≠[])
theorem qD2 (hF:(ownF F||gJ0 F)=false)(hx:ext 116=none)(hlen:∀ l x,(f1 l x).length+(x.l.map Tm.sz).sum≤l.length+x.sz)(hne1:∀ l x,l≠[]→f1 l x≠[])
  (hclo:∀ x l,l.length+x.sz<2^28→∃ g,chG l (f1 l x) g∧run prog ext (.call F [tmV x,.c (.ptr 0 0)] (Og (l.map enc)))=some (.ret [] (Oh g ((f1 l x).map enc)))):∀ (N:Nat) (x:Tm),x.sz≤N→N<2^27→∀ l:List α,l.length+x.sz<2^28 →
  ∃ g,chG l (fgs f1 l x) g∧run prog ext (.call 116 [tmV x,.c (.fn F [] [0])] (Og (l.map enc)))=some (.ret [] (Oh g ((fgs f1 l x).map enc)))
 | 0,x,h,_,_,_=>by have:=x.sz_pos;omega
 | N+1,x,h,hN,l,hb=>by
  have hll:=x.len_lt
  obtain⟨g0,⟨c1,c2⟩,hr0⟩:=hclo x l (by omega)
  have small:∀ (k:Nat) (y:Tm),x.l[k]? = some y→((x.l.take k).foldl (fgs f1) (f1 l x)).length+y.sz<2^28:=by
   intro k y hk
   have e1:=pJ0 (x.l.take (k+1)) (f1 l x) (fun y hy=>dS1 f1 hlen y.sz y (Nat.le_refl _))
   have e2:=pJ0 (x.l.take k) (f1 l x) (fun y hy=>dS1 f1 hlen y.sz y (Nat.le_refl _))
   have e3:=hlen l x
   have e4:=x.sz_eq
   have e5:((x.l.take k).map Tm.sz).sum+y.sz≤(x.l.map Tm.sz).sum:=by
    have h1:((x.l.take (k+1)).map Tm.sz).sum+((x.l.drop (k+1)).map Tm.sz).sum=(x.l.map Tm.sz).sum:=by
     rw[← List.sum_append,← List.map_append,List.take_append_drop]
    have h2:((x.l.take (k+1)).map Tm.sz).sum=((x.l.take k).map Tm.sz).sum+y.sz:=by
     rw[List.take_add_one,hk];simp
    omega
   omega
  cases l with
  | nil=>
   have hg0:g0=false:=by cases g0 with | false=>rfl | true=>exact absurd rfl (c2 rfl).1
   subst hg0
   refine⟨false,⟨fun _=> .inl rfl,fun h=>(by cases h)⟩,?_⟩
   have hloop:=gS0 x.l (fun k l'=>dU0 ext 1 (Eg F x k) (Og (List.map enc l'))) (fun k l'=>l'=(x.l.take k).foldl (fgs f1) (f1 [] x)) (fun o=>o=some (.ret [] (Og (List.map enc (fgs f1 [] x))))) (by omega) (fun k y l' hI hk hl=>by
    have hs:=small k y hk
    rw[← hI]at hs
    obtain⟨g,⟨d1,d2⟩,hr⟩:=qD2 hF hx hlen hne1 hclo N y (by have:=Tm.sz_lt (List.mem_of_getElem? hk);omega) (by omega) l' hs
    refine⟨fgs f1 l' y,by rw[zV1 _ hk,← hI],fun out ho=> ?_⟩
    cases l' with
    | nil=>
     have hg:g=false:=by cases g with | false=>rfl | true=>exact absurd rfl (d2 rfl).1
     subst hg
     cases e:fgs f1 [] y with
     | nil=>rw[e]at hr ho;exact gst1a ext F x y k hk hl hr out ho
     | cons b q=>rw[e]at hr ho;exact gst1b ext F x y (enc b) (q.map enc) k hk hl hr out ho
    | cons a r=>
     cases g with
     | false=>
      have e:fgs f1 (a::r) y=a::r:=by rcases d1 rfl with h | h;(· cases h);(· exact h)
      rw[e]at hr ho;exact gst1c ext F x y (enc a) (r.map enc) k hk hl hr out ho
     | true=>
      cases e:fgs f1 (a::r) y with
      | nil=>exact absurd e (d2 rfl).2
      | cons b q=>rw[e]at hr ho;exact gst1d ext F x y (enc a) (enc b) (r.map enc) (q.map enc) k hk hl hr out ho) (fun l' hI=>by
    have e:fgs f1 [] x=l':=by rw[uO1,hI,List.take_length]
    rw[e]
    cases l' with
    | nil=>exact gdn1a ext F x
    | cons a r=>exact gdn1b ext F x (enc a) (r.map enc)) (f1 [] x) rfl
   show run prog ext (.call 116 [tmV x,.c (.fn F [] [0])] (Og (List.map enc [])))=some (.ret [] (Og (List.map enc (fgs f1 [] x))))
   cases e:f1 [] x with
   | nil=>rw[e]at hr0 hloop;exact ge116a ext F hF hx x hr0 _ hloop
   | cons b q=>rw[e]at hr0 hloop;exact ge116b ext F hF hx x (enc b) (q.map enc) hr0 _ hloop
  | cons a r=>
   have hloop:=gS0 x.l (fun k (s:Bool × List α)=>dU0 ext 2 (Eg F x k) (Oh s.1 (s.2.map enc))) (fun k s=>s.2=(x.l.take k).foldl (fgs f1) (f1 (a::r) x)∧s.2≠[]∧(s.1=false→s.2=a::r))
    (fun o=>∃ g,chG (a::r) (fgs f1 (a::r) x) g∧o=some (.ret [] (Oh g ((fgs f1 (a::r) x).map enc)))) (by omega) (fun k y s hI hk hl=>by
    obtain⟨g1,l'⟩:=s
    obtain⟨hI,hne,hI2⟩:=hI
    dsimp only at hI hne hI2
    have hs:=small k y hk
    rw[← hI]at hs
    obtain⟨g,⟨d1,d2⟩,hr⟩:=qD2 hF hx hlen hne1 hclo N y (by have:=Tm.sz_lt (List.mem_of_getElem? hk);omega) (by omega) l' hs
    have hn:=fg_ne f1 hne1 y.sz y (Nat.le_refl _) l' hne
    have hI':fgs f1 l' y=(x.l.take (k+1)).foldl (fgs f1) (f1 (a::r) x):=by rw[zV1 _ hk,← hI]
    cases l' with
    | nil=>exact absurd rfl hne
    | cons b q=>
     cases g with
     | false=>
      have e:fgs f1 (b::q) y=b::q:=by rcases d1 rfl with h | h;(· cases h);(· exact h)
      rw[e]at hr hI'
      refine⟨(g1,b::q),⟨hI',hne,hI2⟩,fun out ho=> ?_⟩
      cases g1 with
      | false=>exact gst2c ext F x y (enc b) (q.map enc) k hk hl hr out ho
      | true=>exact gst2e ext F x y (enc b) (q.map enc) k hk hl hr out ho
     | true=>
      cases e:fgs f1 (b::q) y with
      | nil=>exact absurd e hn
      | cons c t=>
       rw[e]at hr hI'
       refine⟨(true,c::t),⟨hI',by simp,fun h=>(by cases h)⟩,fun out ho=> ?_⟩
       cases g1 with
       | false=>exact gst2d ext F x y (enc b) (enc c) (q.map enc) (t.map enc) k hk hl hr out ho
       | true=>exact gst2f ext F x y (enc b) (enc c) (q.map enc) (t.map enc) k hk hl hr out ho) (fun s hI=>by
    obtain⟨g1,l'⟩:=s
    obtain⟨hI,hne,hI2⟩:=hI
    dsimp only at hI hne hI2 ⊢
    have e:fgs f1 (a::r) x=l':=by rw[uO1,hI,List.take_length]
    rw[e]
    refine⟨g1,⟨fun h=> .inr (hI2 h),fun _=>⟨by simp,hne⟩⟩,?_⟩
    cases l' with
    | nil=>exact absurd rfl hne
    | cons b q=>
     cases g1 with
     | false=>exact gdn2c ext F x (enc b) (q.map enc)
     | true=>exact gdn2d ext F x (enc b) (q.map enc))
   cases g0 with
   | false=>
    have e:f1 (a::r) x=a::r:=by rcases c1 rfl with h | h;(· cases h);(· exact h)
    rw[e]at hr0
    obtain⟨g,q1,q2⟩:=hloop (false,a::r) ⟨by rw[e];rfl,by simp,fun _=>rfl⟩
    exact⟨g,q1,ge116c ext F hF hx x (enc a) (r.map enc) hr0 _ q2⟩
   | true=>
    cases e:f1 (a::r) x with
    | nil=>exact absurd e (hne1 (a::r) x (by simp))
    | cons b q=>
     rw[e]at hr0
     obtain⟨g,q1,q2⟩:=hloop (true,b::q) ⟨by rw[e];rfl,by simp,fun h=>(by cases h)⟩
     exact⟨g,q1,ge116d ext F hF hx x (enc a) (enc b) (r.map enc) (q.map enc) hr0 _ q2⟩
end
end
section
open Go
variable (ext:Ext)
noncomputable def B247 : Code:=(f247.body.getD .skip)
noncomputable def nE2 : Code:=sub B247 [1,1,0,0]
theorem xW0 : It.code nE2=It.code (sub B247 [1,1,0,0]):=rfl
noncomputable def gX1 : List It:=[.inBlock 0]
noncomputable def hX0 (ext:Ext)(m:Nat)(env:Env)(loc:List O):Option Out:=run prog ext (.k ⟨17,m,[],false⟩ (.code nE2 :: .inLoop nE2::gX1) env loc)
section
variable (look:Look) (slot id:Nat) (new:List (List D))
theorem ol43 (z:Bool):bI0 prog look slot [43,43] [.c (.own id),.c (.d (aJ0 z 1 new))]=apI 1 8 slot id new (look id) (apD prog look slot 43 (.c (.own id)) (.c (.d (aJ0 z 1 new)))):=by
 unfold aJ0
 split
 ·rename_i h;rw[h.2];exact app_on eP0 gT0 hZ0 z43 (by decide) id
 ·exact kP1 eP0 gT0 hZ0 z43 (by decide) id new
theorem nl43 (z:Bool):bI0 prog look slot [43,43] [.c (.d (.v (.slice none 0 0))),.c (.d (aJ0 z 1 []))]=some ⟨.val (.c (.d (.v (.slice none 0 0)))),[],[]⟩:=by
 cases z with
 | true=>exact app_nn eP0 gT0 hZ0 z43 (by decide)
 | false=>
  show bI0 prog look slot [43,43] [.c (.d (.v (.slice none 0 0))),.c (.d (.s 1 []))]=_
  simp only[bI0,eP0,zT3,z43,eT0]
  simp
  rfl
theorem nc43 (z:Bool){x:List D}{l:List (List D)} (hn:l.length<1000000000):bI0 prog look slot [43,43] [.c (.d (.v (.slice none 0 0))),.c (.d (aJ0 z 1 (x::l)))]=some ⟨.val (.c (.own slot)),[(slot,.arr 1 (x::l))],[]⟩:=by
 rw[dV0 (by simp)]
 exact app_ns eP0 gT0 hZ0 z43 (by decide) hn (by decide)
end
def E247 (x:Tm)(k:Int):Env:=[(1,.c (.ptr 0 0)),(6,dV x.uD),(7,iV x.u.length),(8,iV k)]
theorem en247n (hx:ext 247=none)(x:Tm)(out:Option Out)(h:hX0 ext 1 (E247 x 0) (Og [])=out):run prog ext (.call 247 [tmV x,.c (.ptr 0 0)] (Og []))=out:=by
 unfold hX0 at h
 (rw[enT hx func247 rfl];simp only[f247,zR,simprocAttr,zE])
 simp only[tmV,tmC,dV,iV,E247,oZ0]at h ⊢
 simp only[zS,zD,aT0,zT30,eM0,simprocAttr]
 (refine(aA0 ?_).trans h;kernel_rfl)
theorem en247c (hx:ext 247=none)(x:Tm)(a:List D)(r:List (List D))(out:Option Out)(h:hX0 ext 2 (E247 x 0) (Oh false (a::r))=out):run prog ext (.call 247 [tmV x,.c (.ptr 0 0)] (Og (a::r)))=out:=by
 unfold hX0 at h
 (rw[enT hx func247 rfl];simp only[f247,zR,simprocAttr,zE])
 simp only[tmV,tmC,dV,iV,E247,Oh,eA0]at h ⊢
 simp only[zS,zD,aT0,zT30,eM0,simprocAttr]
 (refine(aA0 ?_).trans h;kernel_rfl)
section
variable (x:Tm) (u:Lev) (z:Bool) (k:Nat) (hk:x.u[k]? = some u) (hl:(k:Int)<x.u.length)
include hk hl
theorem s247A (hr:run prog ext (.call 248 [levV u] [])=some (.ret [dV (aJ0 z 1 [])] []))(out:Option Out)(h:hX0 ext 1 (E247 x (wr ((k:Int)+1))) (Og [])=out):hX0 ext 1 (E247 x k) (Og [])=out:=by
 have h0:(0:Int)≤k:=by omega
 unfold hX0 at h ⊢
 simp only[levV,levC,dV,iV,E247,oZ0,bK1 hl]at h hr ⊢
 (rw[xW0];simp only[B247,gX1,sub,f247,↓reduceIte,zG])
 simp only[zS,zD,eN0,zT36,qK0,nM0,aK0,aC0,aD0,Array.size,List.length,h0,hl,Int.toNat_natCast,hk,iR0 u,hr,nl43,simprocAttr]
 rw[aB0 _ _ _ _ (by kernel_rfl)]
 simp only[zS,zD,simprocAttr]
 (refine(aA0 ?_).trans h;kernel_rfl)
theorem s247B (b:List D)(q:List (List D))(hq:q.length<2^29)(hr:run prog ext (.call 248 [levV u] [])=some (.ret [dV (aJ0 z 1 (b::q))] []))(out:Option Out)(h:hX0 ext 1 (E247 x (wr ((k:Int)+1))) (Og (b::q))=out):hX0 ext 1 (E247 x k) (Og [])=out:=by
 have h0:(0:Int)≤k:=by omega
 have hq':q.length<1000000000:=by omega
 unfold hX0 at h ⊢
 simp only[levV,levC,dV,iV,E247,oZ0,eA0,bK1 hl]at h hr ⊢
 (rw[xW0];simp only[B247,gX1,sub,f247,↓reduceIte,zG])
 simp only[zS,zD,eN0,zT36,qK0,nM0,aK0,aC0,aD0,Array.size,List.length,h0,hl,Int.toNat_natCast,hk,iR0 u,hr,nc43,hq',simprocAttr]
 rw[aB0 _ _ _ _ (by kernel_rfl)]
 simp only[zS,zD,simprocAttr]
 (refine(aA0 ?_).trans h;kernel_rfl)
theorem s247C (a:List D)(r w:List (List D))(hr':r.length+1≤1000000000)(hw:w.length≤1000000000)(hr:run prog ext (.call 248 [levV u] [])=some (.ret [dV (aJ0 z 1 w)] []))(out:Option Out)(h:hX0 ext 1 (E247 x (wr ((k:Int)+1))) (Og (a::(r++w)))=out):hX0 ext 1 (E247 x k) (Og (a::r))=out:=by
 have h0:(0:Int)≤k:=by omega
 unfold hX0 at h ⊢
 simp only[levV,levC,dV,iV,E247,eA0,bK1 hl]at h hr ⊢
 (rw[xW0];simp only[B247,gX1,sub,f247,↓reduceIte,zG])
 simp only[zS,zD,eN0,zT36,qK0,nM0,aK0,aC0,aD0,Array.size,List.length,h0,hl,Int.toNat_natCast,hk,iR0 u,hr,ol43,uO0,hr',hw,simprocAttr]
 rw[aB0 _ _ _ _ (by kernel_rfl)]
 simp only[zS,zD,simprocAttr]
 (refine(aA0 ?_).trans h;kernel_rfl)
theorem s247D (g:Bool)(a:List D)(r w:List (List D))(hr':r.length+1≤1000000000)(hw:w.length≤1000000000)(hr:run prog ext (.call 248 [levV u] [])=some (.ret [dV (aJ0 z 1 w)] []))(out:Option Out)(h:hX0 ext 2 (E247 x (wr ((k:Int)+1))) (Oh true (a::(r++w)))=out):hX0 ext 2 (E247 x k) (Oh g (a::r))=out:=by
 have h0:(0:Int)≤k:=by omega
 unfold hX0 at h ⊢
 cases g
 all_goals
  simp only[levV,levC,dV,iV,E247,Oh,eA0,bK1 hl]at h hr ⊢
  (rw[xW0];simp only[B247,gX1,sub,f247,↓reduceIte,zG])
  simp only[zS,zD,eN0,zT36,qK0,nM0,aK0,aC0,aD0,Array.size,List.length,h0,hl,Int.toNat_natCast,hk,iR0 u,hr,ol43,uO0,hr',hw,simprocAttr]
  rw[aB0 _ _ _ _ (by kernel_rfl)]
  simp only[zS,zD,simprocAttr]
  (refine(aA0 ?_).trans h;kernel_rfl)
end
theorem d247 (x:Tm)(l:List (List D)):hX0 ext 1 (E247 x x.u.length) (Og l)=some (.ret [] (Og l)):=by
 unfold hX0
 cases l
 all_goals
  simp only[dV,iV,E247,oZ0,eA0]
  (rw[xW0];simp only[B247,gX1,sub,f247,↓reduceIte,zG])
  simp only[zS,zD,Int.lt_irrefl,simprocAttr]
  (refine .trans ?_ rfl;kernel_rfl)
theorem d247g (x:Tm)(g:Bool)(a:List D)(r:List (List D)):hX0 ext 2 (E247 x x.u.length) (Oh g (a::r))=some (.ret [] (Oh g (a::r))):=by
 unfold hX0
 cases g
 all_goals
  simp only[dV,iV,E247,Oh,eA0]
  (rw[xW0];simp only[B247,gX1,sub,f247,↓reduceIte,zG])
  simp only[zS,zD,Int.lt_irrefl,simprocAttr]
  (refine .trans ?_ rfl;kernel_rfl)
end
section
open Go
variable (ext:Ext)
section
variable (vl:Lev→List Int)
def lv1 (l:List Int)(x:Tm):List Int:=l++x.u.flatMap vl
theorem zS0 (hvl:∀ u,(vl u).length≤u.vs.length):∀ us:List Lev,(us.flatMap vl).length≤(us.map Lev.sz).sum
 | []=>Nat.le_refl _
 | u::us=>by
  have h1:=zS0 hvl us
  have h2:=hvl u
  simp only[List.flatMap_cons,List.length_append,List.map_cons,List.sum_cons,Lev.sz];omega
theorem eB1 (us:List Lev)(k:Nat)(u:Lev)(hk:us[k]? = some u):(us.take (k+1)).flatMap vl=(us.take k).flatMap vl++vl u:=by
 rw[List.take_add_one,hk]
 simp
theorem eK2 (hvl:∀ u,(vl u).length≤u.vs.length)(us:List Lev)(k:Nat):((us.take k).flatMap vl).length≤(us.map Lev.sz).sum:=by
 have h:=zS0 vl hvl us
 have e:us.flatMap vl=(us.take k).flatMap vl++(us.drop k).flatMap vl:=by rw[← List.flatMap_append,List.take_append_drop]
 rw[e,List.length_append]at h;omega
theorem clo247 (hx:ext 247=none)(hvl:∀ u,(vl u).length≤u.vs.length)(h248:∀ u:Lev,u.vs.length<2^28→∃ z,run prog ext (.call 248 [levV u] [])=some (.ret [dV (aJ0 z 1 ((vl u).map inD))] []))(x:Tm)(l:List Int)(hb:l.length+x.sz<2^28) :
  ∃ g,chG l (lv1 vl l x) g∧run prog ext (.call 247 [tmV x,.c (.ptr 0 0)] (Og (l.map inD)))=some (.ret [] (Oh g ((lv1 vl l x).map inD))):=by
 have hsz:=x.sz_eq
 have hul:=x.ulen_lt
 have hf:=fun k=>eK2 vl hvl x.u k
 unfold lv1
 cases l with
 | nil=>
  refine⟨false,⟨fun _=> .inl rfl,fun h=>(by cases h)⟩,?_⟩
  refine en247n ext hx x _ ?_
  have:=gS0 x.u (fun k l'=>hX0 ext 1 (E247 x k) (Og (l'.map inD))) (fun k l'=>l'=(x.u.take k).flatMap vl) (fun o=>o=some (.ret [] (Og ((x.u.flatMap vl).map inD)))) (by omega) (fun k u l' hI hk hl=>by
   have hu:=Tm.lev_lt (List.mem_of_getElem? hk)
   have hu':u.sz=1+u.vs.length:=rfl
   have hvu:=hvl u
   obtain⟨z,hr⟩:=h248 u (by omega)
   have hfk:=hf k
   rw[← hI]at hfk
   refine⟨l'++vl u,by rw[eB1 vl _ _ _ hk,← hI],fun out ho=> ?_⟩
   cases l' with
   | nil=>
    rw[List.nil_append]at ho
    cases e:vl u with
    | nil=>rw[e]at hr ho;exact s247A ext x u z k hk hl hr out ho
    | cons b q=>
     rw[e]at hr ho hvu
     exact s247B ext x u z k hk hl (inD b) (q.map inD) (by simp only[List.length_map,List.length_cons]at hvu ⊢;omega) hr out ho
   | cons a r=>
    have ho':hX0 ext 1 (E247 x (wr ((k:Int)+1))) (Og (inD a::(r.map inD++(vl u).map inD)))=out:=by
     rw[← ho,List.cons_append,List.map_cons,List.map_append]
    exact s247C ext x u z k hk hl (inD a) (r.map inD) ((vl u).map inD) (by simp only[List.length_map,List.length_cons]at hfk ⊢;omega) (by simp only[List.length_map];omega) hr out ho') (fun l' hI=>by
   rw[List.take_length]at hI
   rw[← hI]
   exact d247 ext x _) [] rfl
  exact this
 | cons a r=>
  have hloop:=gS0 x.u (fun k (s:Bool × List Int)=>hX0 ext 2 (E247 x k) (Oh s.1 (inD a::(r++s.2).map inD))) (fun k s=>s.2=(x.u.take k).flatMap vl∧(s.1=false→s.2=[]))
   (fun o=>∃ g,chG (a::r) (a::r++x.u.flatMap vl) g∧o=some (.ret [] (Oh g ((a::r++x.u.flatMap vl).map inD)))) (by omega) (fun k u s hI hk hl=>by
    obtain⟨g1,w⟩:=s
    obtain⟨hI,hI2⟩:=hI
    dsimp only at hI hI2 ⊢
    have hu:=Tm.lev_lt (List.mem_of_getElem? hk)
    have hu':u.sz=1+u.vs.length:=rfl
    have hvu:=hvl u
    obtain⟨z,hr⟩:=h248 u (by omega)
    have hfk:=hf k
    rw[← hI]at hfk
    refine⟨(true,w++vl u),⟨by rw[eB1 vl _ _ _ hk,← hI],fun h=>(by cases h)⟩,fun out ho=> ?_⟩
    have ho':hX0 ext 2 (E247 x (wr ((k:Int)+1))) (Oh true (inD a::((r++w).map inD++(vl u).map inD)))=out:=by
     rw[← ho,← List.map_append,List.append_assoc]
    simp only[List.length_cons]at hb
    exact s247D ext x u z k hk hl g1 (inD a) ((r++w).map inD) ((vl u).map inD) (by simp only[List.length_map,List.length_append];omega) (by simp only[List.length_map];omega) hr out ho') (fun s hI=>by
    obtain⟨g1,w⟩:=s
    obtain⟨hI,hI2⟩:=hI
    dsimp only at hI hI2 ⊢
    rw[List.take_length]at hI
    refine⟨g1,⟨fun h=> .inr (by rw[← hI,hI2 h,List.append_nil]),fun _=>⟨by simp,by simp⟩⟩,?_⟩
    rw[← hI]
    exact d247g ext x g1 (inD a) ((r++w).map inD)) (false,[]) ⟨rfl,fun _=>rfl⟩
  obtain⟨g,q1,q2⟩:=hloop
  exact⟨g,q1,en247c ext hx x (inD a) (r.map inD) _ (by rw[← q2];simp)⟩
section
variable (so co:List Int→List Int)
theorem rY2 (hx:ext 218=none)(h116:ext 116=none)(h247:ext 247=none)(hvl:∀ u,(vl u).length≤u.vs.length)(h248:∀ u:Lev,u.vs.length<2^28→∃ z,run prog ext (.call 248 [levV u] [])=some (.ret [dV (aJ0 z 1 ((vl u).map inD))] []))
  (n1:run prog ext (.call 249 [dV nilD] [])=some (.ret [] []))(n2:run prog ext (.call 250 [dV nilD] [])=some (.ret [dV nilD] []))
  (r1:∀ a r,List.length r<2^29→run prog ext (.call 249 [.c (.own 0)] [.arr 1 ((a::r).map inD)])=some (.ret [] [.arr 1 ((so (a::r)).map inD)]))
  (r2:∀ l,List.length l<2^29→run prog ext (.call 250 [.c (.own 0)] [.arr 1 (l.map inD)])=some (.ret [.c (.own 1)] [.gone,.arr 1 ((co l).map inD)]))
  (hl:∀ l,(so l).length=l.length) (hc:co (so [])=[]) (x:Tm) (hs:x.sz<2^27):∃ z,run prog ext (.call 218 [tmV x] [])=some (.ret [dV (aJ0 z 1 ((co (so (fgs (lv1 vl) [] x))).map inD))] []):=by
 have hlen:∀ l x,(lv1 vl l x).length+(x.l.map Tm.sz).sum≤l.length+x.sz:=fun l x=>by
  have h1:=zS0 vl hvl x.u
  have h2:=x.sz_eq
  unfold lv1
  rw[List.length_append];omega
 have hne:∀ l x,l≠[]→lv1 vl l x≠[]:=fun l x h=>by
  unfold lv1
  simp[h]
 obtain⟨g,⟨_,c2⟩,hr⟩:=qD2 ext 247 inD (lv1 vl) (by decide) h116 hlen hne (fun x l hb=>clo247 ext vl h247 hvl h248 x l hb) x.sz x (Nat.le_refl _) hs [] (by simp;omega)
 have hfl:=dS1 (lv1 vl) hlen x.sz x (Nat.le_refl _) []
 have hg:g=false:=by cases g with | false=>rfl | true=>exact absurd rfl (c2 rfl).1
 subst hg
 have hr':run prog ext (.call 116 [tmV x,.c (.fn 247 [] [0])] (Og []))=some (.ret [] (Og ((fgs (lv1 vl) [] x).map inD))):=hr
 cases e:fgs (lv1 vl) [] x with
 | nil=>
  refine⟨true,?_⟩
  rw[hc]
  rw[e]at hr'
  have hC:=fun slot=>aL0 (rec:=run prog ext) (look:=lk [.box (tmC x),.box [.d (.v (.slice none 0 0))]]) (slot:=slot) (f:=116) (args:=[tmV x,.c (.fn 247 [] [1])]) (ids:=[1]) (bor:=[]) (e:=⟨.val (.tup []),[(1,.box [.d (.v (.slice none 0 0))])],[1]⟩) (by kernel_rfl) hr' (by kernel_rfl)
  (rw[enT hx func218 rfl];simp only[f218,zR,simprocAttr,zE])
  simp only[tmV,tmC,dV,nilD,sV0]at hC n1 n2 ⊢
  simp only[zS,zD,cE0,zT33,qK0,nM0,nV1,hC,n1,n2,nN1,simprocAttr]
  (refine .trans ?_ rfl;kernel_rfl)
 | cons b q=>
  refine⟨false,?_⟩
  rw[e]at hr' hfl
  simp only[List.length_cons,List.length_nil]at hfl
  have r1':=r1 b q (by omega)
  have r2':=r2 (so (b::q)) (by rw[hl];simp only[List.length_cons];omega)
  have hC:=fun slot=>aL0 (rec:=run prog ext) (look:=lk [.box (tmC x),.box [.d (.v (.slice none 0 0))]]) (slot:=slot) (f:=116) (args:=[tmV x,.c (.fn 247 [] [1])]) (ids:=[1]) (bor:=[]) (e:=⟨.val (.tup []),[(1,.box [.own slot]),(slot,.arr 1 (inD b::q.map inD))],[1]⟩) (by kernel_rfl) hr' (by simp[bW0,eA0,mapO,renO,renC,back,bQ0,aZ0,bE0])
  generalize so (b::q)=s at r1' r2' ⊢
  generalize co s=t at r2' ⊢
  have c1:=fun slot=>aL0 (rec:=run prog ext) (look:=lk [.box (tmC x),.box [.own 2],.arr 1 ((b::q).map inD)]) (slot:=slot) (f:=249) (args:=[.c (.own 2)]) (ids:=[2]) (bor:=[]) (e:=⟨.val (.tup []),[(2,.arr 1 (s.map inD))],[2]⟩) (by kernel_rfl) r1' (by kernel_rfl)
  have c2:=fun slot=>aL0 (rec:=run prog ext) (look:=lk [.box (tmC x),.box [.own 2],.arr 1 (s.map inD)]) (slot:=slot) (f:=250) (args:=[.c (.own 2)]) (ids:=[2]) (bor:=[]) (e:=⟨.val (.c (.own slot)),[(2,.gone),(slot,.arr 1 (t.map inD))],[2]⟩) (by kernel_rfl) r2' (by simp[bW0,mapO,renV,renO,renC,back,bQ0,aZ0,bE0])
  (rw[enT hx func218 rfl];simp only[f218,zR,simprocAttr,zE])
  simp only[tmV,tmC,dV,List.map_cons]at hC c1 c2 ⊢
  simp only[zS,zD,cE0,zT33,qK0,nM0,nV1,hC,c1,c2,simprocAttr]
  (refine .trans ?_ rfl;kernel_rfl)
end
end
end
end Go.Proofs.YteenjodhmppgjaaGreatDoor.Am
