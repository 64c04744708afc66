/- A part of the proof of a card. No conditions. -/
import Derived.Test.YteenjodhmppgjaaGreatDoorPd9
import Derived.Test.YteenjodhmppgjaaGreatDoorPe1
set_option linter.all false
set_option maxHeartbeats 16000000
set_option maxRecDepth 10000
namespace Go.Proofs.YteenjodhmppgjaaGreatDoor.Am
open Go.Proofs.Tryz
section
open Go
variable (ext:Ext)
noncomputable def B103 : Code:=(f103.body.getD .skip)
noncomputable def lO2 : Code:=sub B103 [1,1,0,1,0,0]
theorem vE1 : It.code lO2=It.code (sub B103 [1,1,0,1,0,0]):=rfl
noncomputable def aH2 : List It:=[.inBlock 0,.code (sub B103 [1,1,1])]
noncomputable def yI0 (ext:Ext)(m:Nat)(env:Env)(loc:List O):Option Out:=run prog ext (.k ⟨23,m,[.tmp 2],false⟩ (.code lO2 :: .inLoop lO2::aH2) env loc)
def zQ0 : Nat→List ByteArray→List MapEntry
 | _,[]=>[]
 | k,n::S=>⟨.string n,.bool true,k⟩::zQ0 (k+1) S
theorem xP0 : ∀ (S:List ByteArray)(k:Nat)(n:ByteArray),zQ0 k (S++[n])=zQ0 k S++[⟨.string n,.bool true,k+S.length⟩]
 | [],k,n=>rfl
 | a::S,k,n=>by
  have:=xP0 S (k+1) n
  simp only[List.cons_append,zQ0,this,List.length_cons]
  have e:k+1+S.length=k+(S.length+1):=by omega
  rw[e]
def oU0 (S:List ByteArray):O:= .raw (.map (zQ0 0 S).toArray S.length)
def hasT (n:ByteArray)(S:List ByteArray):Bool:=S.any fun a=>n==a
theorem iQ1 (n:ByteArray):∀ (S:List ByteArray)(k i:Nat),hasT n S=false→Instr.findNow .string (.string n) (zQ0 k S) i=some none
 | [],k,i,_=>rfl
 | a::S,k,i,h=>by
  simp only[hasT,List.any_cons,Bool.or_eq_false_iff]at h
  simp only[zQ0,Instr.findNow,Instr.sameNow,h.1]
  exact iQ1 n S (k+1) (i+1) h.2
theorem lU1 (n:ByteArray):∀ (S:List ByteArray)(k i:Nat),hasT n S=true→∃ j,Instr.findNow .string (.string n) (zQ0 k S) i=some (some (j,.bool true))
 | [],k,i,h=>by cases h
 | a::S,k,i,h=>by
  simp only[hasT,List.any_cons,Bool.or_eq_true]at h
  simp only[zQ0,Instr.findNow,Instr.sameNow]
  cases c:(n==a) with
  | true=>exact⟨i,rfl⟩
  | false=>
   have:hasT n S=true:=by rcases h with h | h;(· rw[c]at h;cases h);(· exact h)
   exact lU1 n S (k+1) (i+1) this
theorem wO1 (n:ByteArray):keyA prog 183 (.string n)=some (.string,4):=by
 simp only[keyA,Tryz.underlying183,iG0,eI1,if_true]
noncomputable def lkT (id:Nat)(n:ByteArray)(o:Option O):Option Eff:=hQ0 prog (fun _=>o) 183 (.c (.rf true id)) (.c (.d (.v (.string n)))) false
theorem xB1 (look:Look)(id:Nat)(n:ByteArray):hQ0 prog look 183 (.c (.rf true id)) (.c (.d (.v (.string n)))) false=lkT id n (look id):=rfl
theorem mH1 (id:Nat)(n:ByteArray)(S:List ByteArray):lkT id n (some (oU0 S))=some ⟨.val (.c (.d (.v (.bool (hasT n S))))),[],[id]⟩:=by
 cases c:hasT n S with
 | false=>simp only[lkT,hQ0,scal,wO1,oU0,iQ1 n S 0 0 c,xF2,pZ1,eff];rfl
 | true=>
  obtain⟨j,hj⟩:=lU1 n S 0 0 c
  simp only[lkT,hQ0,scal,wO1,oU0,hj,cellB,pZ1,eff];rfl
noncomputable def upT (id:Nat)(n:ByteArray)(o:Option O):Option Eff:=dQ0 prog (fun _=>o) 183 (.c (.rf true id)) (.c (.d (.v (.string n)))) (.c (.d (.v (.bool true))))
theorem wW2 (look:Look)(id:Nat)(n:ByteArray):dQ0 prog look 183 (.c (.rf true id)) (.c (.d (.v (.string n)))) (.c (.d (.v (.bool true))))=upT id n (look id):=rfl
theorem iL2 (id:Nat)(n:ByteArray)(S:List ByteArray)(h:hasT n S=false):upT id n (some (oU0 S))=some ⟨.val (.c .any),[(id,oU0 (S++[n]))],[id]⟩:=by
 simp only[upT,dQ0,scal,wO1,oU0,iQ1 n S 0 0 h,xP0,List.push_toArray,List.length_append,List.length_cons,List.length_nil,Nat.zero_add]
theorem mJ1 (S:List ByteArray):lk.match_1 (fun _=>Option O) (some (oU0 S)) (fun _=>none) (fun x=>x)=some (oU0 S):=rfl
theorem gD2 (slot:Nat)(n:Int):pT0 prog slot 183 (some (.c (.d (.v (.int .i64 n)))))=some ⟨.val (.c (.rf true slot)),[(slot,oU0 [])],[]⟩:=by
 simp only[pT0,num,Tryz.underlying183]
 rfl
def dupN : List ByteArray→List ByteArray→Bool
 | _,[]=>false
 | S,s::r=>hasT s S||dupN (S++[s]) r
def E103 (d:Dc)(k:Int):Env:=[(3,.c (.rf true 0)),(9,dV d.d),(10,iV d.cons.length),(11,iV k)]
theorem dJ2 (hx:ext 103=none)(d:Dc)(out:Option Out)(h:yI0 ext 0 (E103 d 0) [oU0 []]=out):run prog ext (.call 103 [dV d.d] [])=out:=by
 unfold yI0 at h
 (rw[enT hx func103 rfl];simp only[f103,zR,simprocAttr,zE])
 simp only[dV,iV,E103]at h ⊢
 simp only[zS,zD,lO0,aS0,gD2,simprocAttr]
 (refine(aA0 ?_).trans h;kernel_rfl)
theorem vL2 (d:Dc)(c:Con)(S:List ByteArray)(k:Nat)(hk:d.cons[k]? = some c)(hl:(k:Int)<d.cons.length) :
  (hasT c.name S=true→yI0 ext 0 (E103 d k) [oU0 S]=some (.ret [bV true] []))∧(hasT c.name S=false→∀ out,yI0 ext 0 (E103 d (wr ((k:Int)+1))) [oU0 (S++[c.name])]=out→yI0 ext 0 (E103 d k) [oU0 S]=out):=by
 have h0:(0:Int)≤k:=by omega
 unfold yI0
 refine⟨fun hp=> ?_,fun hp out h=> ?_⟩
 ·simp only[dV,iV,bV,E103,cZ0 hl]
  (rw[vE1];simp only[B103,aH2,sub,f103,↓reduceIte,zG])
  simp only[zS,zD,lO0,zT98,zT9,h0,hl,Int.toNat_natCast,hk,dM0 c,xB1,mJ1,mH1,hp,simprocAttr]
  (refine .trans ?_ rfl;kernel_rfl)
 ·have hu:=fun id=>iL2 id c.name S hp
  simp only[dV,iV,E103,cZ0 hl]at h ⊢
  (rw[vE1];simp only[B103,aH2,sub,f103,↓reduceIte,zG])
  simp only[zS,zD,lO0,zT98,zT9,h0,hl,Int.toNat_natCast,hk,dM0 c,xB1,mJ1,mH1,hp,wW2,hu,simprocAttr]
  (refine(aA0 ?_).trans h;kernel_rfl)
theorem pL2 (d:Dc)(S:List ByteArray):yI0 ext 0 (E103 d d.cons.length) [oU0 S]=some (.ret [bV false] []):=by
 unfold yI0
 simp only[dV,iV,bV,E103]
 (rw[vE1];simp only[B103,aH2,sub,f103,↓reduceIte,zG])
 simp only[zS,zD,Int.lt_irrefl,simprocAttr]
 (refine .trans ?_ rfl;kernel_rfl)
theorem iK2 (hx:ext 103=none)(d:Dc)(hs:d.cons.length<2^50):run prog ext (.call 103 [dV d.d] [])=some (.ret [bV (dupN [] (d.cons.map Con.name))] []):=by
 refine dJ2 ext hx d _ ?_
 have key:∀ (m k:Nat) (S:List ByteArray),k+m=d.cons.length→yI0 ext 0 (E103 d k) [oU0 S]=some (.ret [bV (dupN S ((d.cons.drop k).map Con.name))] []):=by
  intro m
  induction m with
  | zero=>
   intro k S hk
   rw[List.drop_eq_nil_of_le (by omega),show k=d.cons.length by omega]
   exact pL2 ext d S
  | succ m ih=>
   intro k S hk
   have hlt:k<d.cons.length:=by omega
   rw[List.drop_eq_getElem_cons hlt,List.map_cons,dupN]
   have hg:d.cons[k]? = some d.cons[k]:=by simp[hlt]
   obtain⟨h1,h2⟩:=vL2 ext d d.cons[k] S k hg (by omega)
   cases c:hasT d.cons[k].name S with
   | true=>rw[Bool.true_or];exact h1 c
   | false=>
    rw[Bool.false_or]
    refine h2 c _ ?_
    rw[gL0 (by omega) (by omega)]
    have:=ih (k+1) (S++[d.cons[k].name]) (by omega)
    exact_mod_cast this
 simpa using key d.cons.length 0 [] (by omega)
end
section
open Go
variable (ext:Ext)
noncomputable def B60 : Code:=(f60.body.getD .skip)
noncomputable def L60a : Code:=sub B60 [1,1,1,0,1,0,0]
theorem eM2 : It.code L60a=It.code (sub B60 [1,1,1,0,1,0,0]):=rfl
noncomputable def K60a : List It:=[.inBlock 0,.code (sub B60 [1,1,1,1])]
noncomputable def H60a (ext:Ext)(m:Nat)(env:Env)(loc:List O):Option Out:=run prog ext (.k ⟨62,m,[.tmp 4],false⟩ (.code L60a :: .inLoop L60a::K60a) env loc)
noncomputable def L60b : Code:=sub B60 [1,1,1,1,0,1,0,0]
theorem eN2 : It.code L60b=It.code (sub B60 [1,1,1,1,0,1,0,0]):=rfl
noncomputable def K60b : List It:=[.inBlock 2,.code (sub B60 [1,1,1,1,1])]
noncomputable def H60b (ext:Ext)(m:Nat)(env:Env)(loc:List O):Option Out:=run prog ext (.k ⟨62,m,[.tmp 4],false⟩ (.code L60b :: .inLoop L60b::K60b) env loc)
theorem bsT3 {look:Look}{slot:Nat} (x y z:Tm):aV0 prog look slot 31 3 [(0,tmV x),(1,tmV y),(2,tmV z)]=some ⟨.val (.c (.own slot)),[(slot,.arr 5 [tmD x,tmD y,tmD z])],[]⟩:=by
 simp only[aV0,nG0,hG0,tmV,tmC,aH0]
 exact if_pos ⟨rfl,by decide,by decide,by rfl,i31⟩
theorem ex60a (hx:ext 60=none)(x:Tb)(d:Dc)(r101:run prog ext (.call 101 [dcV d] [])=some (.ret [bV false] []))(w:D)(r102:run prog ext (.call 102 [iV 4,dV nilD] [])=some (.ret [dV w] [])):run prog ext (.call 60 [tbV x,dcV d] [])=some (.ret [dV w] []):=by
 (rw[enT hx func60 rfl];simp only[f60,zR,simprocAttr,zE])
 simp only[tbV,tbC,dcV,dcC,dV,iV,bV,nilD]at r101 r102 ⊢
 simp only[zS,zD,zT39,r101,r102,simprocAttr]
 (refine .trans ?_ rfl;kernel_rfl)
theorem ex60b (hx:ext 60=none)(x:Tb)(d:Dc)(f:Int)(hf:¬ f<0)(r101:run prog ext (.call 101 [dcV d] [])=some (.ret [bV true] []))(w:D)(r102:run prog ext (.call 102 [iV 40,dV nilD] [])=some (.ret [dV w] []))
  (r22:run prog ext (.call 22 [tbV x,sV d.name] [])=some (.ret [iV f] [])):run prog ext (.call 60 [tbV x,dcV d] [])=some (.ret [dV w] []):=by
 have hf':(0:Int)≤f:=by omega
 (rw[enT hx func60 rfl];simp only[f60,zR,simprocAttr,zE])
 simp only[tbV,tbC,dcV,dcC,dV,sV,iV,bV,nilD]at r101 r102 r22 ⊢
 simp only[zS,zD,zT24,zT39,zT9,r101,r102,r22,ge_iff_le,hf',simprocAttr]
 (refine .trans ?_ rfl;kernel_rfl)
theorem ex60c (hx:ext 60=none)(x:Tb)(d:Dc)(f:Int)(hf:f<0)(r101:run prog ext (.call 101 [dcV d] [])=some (.ret [bV true] []))(w:D)(r102:run prog ext (.call 102 [iV 40,dV nilD] [])=some (.ret [dV w] []))
  (r22:run prog ext (.call 22 [tbV x,sV d.name] [])=some (.ret [iV f] []))(r103:run prog ext (.call 103 [dV d.d] [])=some (.ret [bV true] [])):run prog ext (.call 60 [tbV x,dcV d] [])=some (.ret [dV w] []):=by
 have hf':¬ (0:Int)≤f:=by omega
 (rw[enT hx func60 rfl];simp only[f60,zR,simprocAttr,zE])
 simp only[tbV,tbC,dcV,dcC,dV,sV,iV,bV,nilD]at r101 r102 r22 r103 ⊢
 simp only[zS,zD,zT24,zT39,zT37,zT9,r101,r102,r22,r103,ge_iff_le,hf',simprocAttr]
 (refine .trans ?_ rfl;kernel_rfl)
def E60 (k:Int):Env:=[(2,.c (.ptr 0 0)),(3,.c (.ptr 1 0)),(32,.c (.own 2)),(33,iV 3),(34,iV k)]
def O60 (x:Tb)(d:Dc)(ts:List Tm):List O:=[.box [.d x.d],.box (dcC d),.arr 5 (ts.map tmD)]
def E60b (d:Dc)(k:Int):Env:=[(2,.c (.ptr 0 0)),(3,.c (.ptr 1 0)),(46,dV d.d),(47,iV d.cons.length),(48,iV k)]
def O60b (x:Tb)(d:Dc):List O:=[.box [.d x.d],.box (dcC d)]
theorem en60 (hx:ext 60=none)(x:Tb)(d:Dc)(f:Int)(hf:f<0)(r101:run prog ext (.call 101 [dcV d] [])=some (.ret [bV true] []))
  (r22:run prog ext (.call 22 [tbV x,sV d.name] [])=some (.ret [iV f] []))(r103:run prog ext (.call 103 [dV d.d] [])=some (.ret [bV false] []))(out:Option Out)(h:H60a ext 0 (E60 0) (O60 x d [d.type,d.body,d.param])=out):run prog ext (.call 60 [tbV x,dcV d] [])=out:=by
 have hf':¬ (0:Int)≤f:=by omega
 have hb:=fun look slot=>bsT3 (look:=look) (slot:=slot) d.type d.body d.param
 unfold H60a at h
 (rw[enT hx func60 rfl];simp only[f60,zR,simprocAttr,zE])
 simp only[tbV,tbC,dcV,dcC,tmV,tmC,dV,sV,iV,bV,E60,O60,List.map_cons,List.map_nil]at hb r101 r22 r103 h ⊢
 simp only[zS,zD,zT24,zT39,zT33,zT37,bL0,zT9,r101,r22,r103,ge_iff_le,hf',hb,simprocAttr]
 (refine(aA0 ?_).trans h;kernel_rfl)
theorem st60a (x:Tb)(d:Dc)(ts:List Tm)(h3:ts.length=3)(y:Tm)(k:Nat)(hk:ts[k]? = some y)(hl:(k:Int)<3)(r65:run prog ext (.call 65 [tbV x,nptr,tmV y,dV nilD] [])=some (.ret [V.c (.d (.v .nilIface))] []))(out:Option Out)(h:H60a ext 0 (E60 (wr ((k:Int)+1))) (O60 x d ts)=out):H60a ext 0 (E60 k) (O60 x d ts)=out:=by
 have h0:(0:Int)≤k:=by omega
 have hl':(k:Int)<ts.length:=by omega
 unfold H60a at h ⊢
 simp only[nptr,tbV,tbC,dcC,tmV,tmC,dV,iV,nilD,E60,O60]at r65 h ⊢
 (rw[eM2];simp only[B60,K60a,sub,f60,↓reduceIte,zG])
 simp only[zS,zD,zT24,zT33,bL0,aR0,h0,hl,hl',Int.toNat_natCast,hk,aH0 y,r65,aX0,Bool.or_true,simprocAttr]
 (refine(aA0 ?_).trans h;kernel_rfl)
theorem bad60a (xs:List D)(x:Tb)(d:Dc)(ts:List Tm)(h3:ts.length=3)(y:Tm)(k:Nat)(hk:ts[k]? = some y)(hl:(k:Int)<3)(r65:run prog ext (.call 65 [tbV x,nptr,tmV y,dV nilD] [])=some (.ret [V.c (.d (.i 128 xs))] [])):H60a ext 0 (E60 k) (O60 x d ts)=some (.ret [V.c (.d (.i 128 xs))] []):=by
 have h0:(0:Int)≤k:=by omega
 have hl':(k:Int)<ts.length:=by omega
 unfold H60a
 simp only[nptr,tbV,tbC,dcC,tmV,tmC,dV,iV,nilD,E60,O60]at r65 ⊢
 (rw[eM2];simp only[B60,K60a,sub,f60,↓reduceIte,zG])
 simp only[zS,zD,zT24,zT33,bL0,aR0,h0,hl,hl',Int.toNat_natCast,hk,aH0 y,r65,aX0,Bool.or_true,simprocAttr]
 (refine .trans ?_ rfl;kernel_rfl)
theorem oG2 (v:Value)(x:Tb)(d:Dc)(ts:List Tm)(h3:ts.length=3)(y:Tm)(k:Nat)(hk:ts[k]? = some y)(hl:(k:Int)<3)(r65:run prog ext (.call 65 [tbV x,nptr,tmV y,dV nilD] [])=some (.ret [V.c (.d (.v (.iface 128 v)))] [])):H60a ext 0 (E60 k) (O60 x d ts)=some (.ret [V.c (.d (.v (.iface 128 v)))] []):=by
 have h0:(0:Int)≤k:=by omega
 have hl':(k:Int)<ts.length:=by omega
 unfold H60a
 simp only[nptr,tbV,tbC,dcC,tmV,tmC,dV,iV,nilD,E60,O60]at r65 ⊢
 (rw[eM2];simp only[B60,K60a,sub,f60,↓reduceIte,zG])
 simp only[zS,zD,zT24,zT33,bL0,aR0,h0,hl,hl',Int.toNat_natCast,hk,aH0 y,r65,aX0,Bool.or_true,simprocAttr]
 (refine .trans ?_ rfl;kernel_rfl)
theorem dn60a (x:Tb)(d:Dc)(ts:List Tm)(out:Option Out)(h:H60b ext 0 (E60b d 0) (O60b x d)=out):H60a ext 0 (E60 3) (O60 x d ts)=out:=by
 unfold H60b at h
 unfold H60a
 simp only[dcC,dV,iV,E60,O60,E60b,O60b]at h ⊢
 (rw[eM2];simp only[B60,K60a,sub,f60,↓reduceIte,zG])
 simp only[zS,zD,cM0,zT37,Int.lt_irrefl,aS0,simprocAttr]
 (refine(aA0 ?_).trans h;kernel_rfl)
theorem st60b (x:Tb)(d:Dc)(c:Con)(k:Nat)(hk:d.cons[k]? = some c)(hl:(k:Int)<d.cons.length)(r65:run prog ext (.call 65 [tbV x,.c (.ptr 0 0),tmV c.arg,dV nilD] [.box (dcC d)])=some (.ret [V.c (.d (.v .nilIface))] [.box (dcC d)]))(out:Option Out)(h:H60b ext 0 (E60b d (wr ((k:Int)+1))) (O60b x d)=out):H60b ext 0 (E60b d k) (O60b x d)=out:=by
 have h0:(0:Int)≤k:=by omega
 have hC:=fun o2 slot=>aL0 (rec:=run prog ext) (look:=lk [.box [.d x.d],.box (dcC d),o2]) (slot:=slot) (f:=65) (args:=[tbV x,.c (.ptr 1 0),tmV c.arg,dV nilD]) (ids:=[1]) (bor:=[]) (e:=⟨.val (V.c (.d (.v .nilIface))),[(1,.box (dcC d))],[1]⟩) (by kernel_rfl) r65 (by kernel_rfl)
 unfold H60b at h ⊢
 simp only[tbV,tbC,dcC,tmV,tmC,dV,iV,nilD,E60b,O60b,cZ0 hl]at hC h ⊢
 (rw[eN2];simp only[B60,K60b,sub,f60,↓reduceIte,zG])
 simp only[zS,zD,zT24,zT33,lO0,aR0,zT98,h0,hl,Int.toNat_natCast,hk,dM0 c,hC,aX0,Bool.or_true,simprocAttr]
 (refine(aA0 ?_).trans h;kernel_rfl)
theorem bad60b (xs:List D)(x:Tb)(d:Dc)(c:Con)(k:Nat)(hk:d.cons[k]? = some c)(hl:(k:Int)<d.cons.length)(r65:run prog ext (.call 65 [tbV x,.c (.ptr 0 0),tmV c.arg,dV nilD] [.box (dcC d)])=some (.ret [V.c (.d (.i 128 xs))] [.box (dcC d)])):H60b ext 0 (E60b d k) (O60b x d)=some (.ret [V.c (.d (.i 128 xs))] []):=by
 have h0:(0:Int)≤k:=by omega
 have hC:=fun o2 slot=>aL0 (rec:=run prog ext) (look:=lk [.box [.d x.d],.box (dcC d),o2]) (slot:=slot) (f:=65) (args:=[tbV x,.c (.ptr 1 0),tmV c.arg,dV nilD]) (ids:=[1]) (bor:=[]) (e:=⟨.val (V.c (.d (.i 128 xs))),[(1,.box (dcC d))],[1]⟩) (by kernel_rfl) r65 (by kernel_rfl)
 unfold H60b
 simp only[tbV,tbC,dcC,tmV,tmC,dV,iV,nilD,E60b,O60b,cZ0 hl]at hC ⊢
 (rw[eN2];simp only[B60,K60b,sub,f60,↓reduceIte,zG])
 simp only[zS,zD,zT24,zT33,lO0,aR0,zT98,h0,hl,Int.toNat_natCast,hk,dM0 c,hC,aX0,Bool.or_true,simprocAttr]
 (refine .trans ?_ rfl;kernel_rfl)
theorem oH2 (v:Value)(x:Tb)(d:Dc)(c:Con)(k:Nat)(hk:d.cons[k]? = some c)(hl:(k:Int)<d.cons.length)(r65:run prog ext (.call 65 [tbV x,.c (.ptr 0 0),tmV c.arg,dV nilD] [.box (dcC d)])=some (.ret [V.c (.d (.v (.iface 128 v)))] [.box (dcC d)])):H60b ext 0 (E60b d k) (O60b x d)=some (.ret [V.c (.d (.v (.iface 128 v)))] []):=by
 have h0:(0:Int)≤k:=by omega
 have hC:=fun o2 slot=>aL0 (rec:=run prog ext) (look:=lk [.box [.d x.d],.box (dcC d),o2]) (slot:=slot) (f:=65) (args:=[tbV x,.c (.ptr 1 0),tmV c.arg,dV nilD]) (ids:=[1]) (bor:=[]) (e:=⟨.val (V.c (.d (.v (.iface 128 v)))),[(1,.box (dcC d))],[1]⟩) (by kernel_rfl) r65 (by kernel_rfl)
 unfold H60b
 simp only[tbV,tbC,dcC,tmV,tmC,dV,iV,nilD,E60b,O60b,cZ0 hl]at hC ⊢
 (rw[eN2];simp only[B60,K60b,sub,f60,↓reduceIte,zG])
 simp only[zS,zD,zT24,zT33,lO0,aR0,zT98,h0,hl,Int.toNat_natCast,hk,dM0 c,hC,aX0,Bool.or_true,simprocAttr]
 (refine .trans ?_ rfl;kernel_rfl)
theorem dn60b (x:Tb)(d:Dc)(v:D)(r68:run prog ext (.call 68 [dcV d] [])=some (.ret [dV v] [])):H60b ext 0 (E60b d d.cons.length) (O60b x d)=some (.ret [dV v] []):=by
 unfold H60b
 simp only[dcV,dcC,dV,iV,E60b,O60b]at r68 ⊢
 (rw[eN2];simp only[B60,K60b,sub,f60,↓reduceIte,zG])
 simp only[zS,zD,zT39,Int.lt_irrefl,r68,simprocAttr]
 (refine .trans ?_ rfl;kernel_rfl)
end
section
open Go
variable (ext:Ext)
section
variable (bd:Tm→Bool) (e eo:Tm→Int)
def exam (x:Tb)(d:Dc):Option (Int × List Int):=
 if(!hI0 d)=true then some (4,[])
 else if(!decide (find x d.name<0)||dupN [] (d.cons.map Con.name))=true then some (40,[])
 else match bH0 (fun _ t=>firstE e t) 0 [d.type,d.body,d.param] with
  | some q=>some q
  | none=>match bH0 (fun _ c=>firstE eo (Con.arg c)) 0 d.cons with
   | some q=>some q
   | none=>(posD bd d).map fun q=>(43,q)
theorem lO1 (c:Int)(p:List Int):(∃ xs,erV c p=V.c (.d (.i 128 xs)))∨∃ v,erV c p=V.c (.d (.v (.iface 128 v))):=by
 cases p with
 | nil=>exact .inr ⟨_,rfl⟩
 | cons a r=>exact .inl ⟨_,rfl⟩
theorem kY0 {α ρ:Type} (f:Nat→α→Option ρ)(P:ρ→Prop)(hP:∀ k x q,f k x=some q→P q):∀ (l:List α)(k:Nat)(q:ρ),bH0 f k l=some q→P q
 | [],_,_,h=>by cases h
 | x::l,k,q,h=>by
  rw[bH0]at h
  cases hf:f k x with
  | none=>rw[hf]at h;exact kY0 f P hP l (k+1) q h
  | some r=>rw[hf]at h;cases h;exact hP k x q hf
theorem uR2 (d:Dc)(q:List Int)(h:posD bd d=some q):∃ a r,q=a::r:=by
 unfold posD at h
 split at h
 ·refine kY0 (posC bd d) (fun q=>∃ a r,q=a::r) (fun k c q hq=> ?_) d.cons 0 q h
  unfold posC at hq
  cases hp:posE bd d c.arg.sz c.arg with
  | none=>rw[hp]at hq;cases hq
  | some r=>rw[hp]at hq;cases hq;exact⟨_,_,rfl⟩
 ·cases h
theorem uJ1 (hx:ext 60=none)(x:Tb)(d:Dc)(hs:d.cons.length<2^50)(r101:run prog ext (.call 101 [dcV d] [])=some (.ret [bV (hI0 d)] []))(r102:∀ c:Int,run prog ext (.call 102 [iV c,dV nilD] [])=some (.ret [erV c []] []))
  (r22:run prog ext (.call 22 [tbV x,sV d.name] [])=some (.ret [iV (find x d.name)] []))(r103:run prog ext (.call 103 [dV d.d] [])=some (.ret [bV (dupN [] (d.cons.map Con.name))] []))
  (r65:∀ t∈[d.type,d.body,d.param],hI0 d=true→run prog ext (.call 65 [tbV x,nptr,tmV t,dV nilD] [])=some (.ret [resV [] (firstE e t)] []))
  (r65o:∀ c∈d.cons,hI0 d=true→find x d.name<0→run prog ext (.call 65 [tbV x,.c (.ptr 0 0),tmV c.arg,dV nilD] [.box (dcC d)])=some (.ret [resV [] (firstE eo c.arg)] [.box (dcC d)]))
  (r68:hI0 d=true→run prog ext (.call 68 [dcV d] [])=some (.ret [resP [] (posD bd d)] [])) :
  run prog ext (.call 60 [tbV x,dcV d] [])=some (.ret [resV [] (exam bd e eo x d)] []):=by
 have q102:=fun c=>(r102 c).trans (by rw[nY0]:some (Out.ret [erV c []] [])=some (Out.ret [dV (erD c [])] []))
 have er:∀ c:Int,resV [] (some (c,[]))=dV (erD c []):=fun c=>by rw[← nY0];rfl
 unfold exam
 cases c1:hI0 d with
 | false=>
  rw[c1]at r101
  rw[Bool.not_false,if_pos rfl,er]
  exact ex60a ext hx x d r101 _ (q102 4)
 | true=>
 rw[c1]at r101
 rw[if_neg (by decide)]
 by_cases hf:find x d.name<0
 case neg=>
  rw[decide_eq_false hf,Bool.not_false,Bool.true_or,if_pos rfl,er]
  exact ex60b ext hx x d _ hf r101 _ (q102 40) r22
 rw[decide_eq_true hf,Bool.not_true,Bool.false_or]
 cases c2:dupN [] (d.cons.map Con.name) with
 | true=>
  rw[c2]at r103
  rw[if_pos rfl,er]
  exact ex60c ext hx x d _ hf r101 _ (q102 40) r22 r103
 | false=>
 rw[c2]at r103
 rw[if_neg (by decide)]
 refine en60 ext hx x d _ hf r101 r22 r103 _ ?_
 have hA:=dK0 [d.type,d.body,d.param] (fun k=>H60a ext 0 (E60 k) (O60 x d [d.type,d.body,d.param])) (fun _ t=>firstE e t) (fun q=>some (.ret [resV [] (some q)] [])) (H60b ext 0 (E60b d 0) (O60b x d)) (by simp) (fun k t hk hl=>by
  have hr:=r65 t (List.mem_of_getElem? hk) c1
  try dsimp only
  cases hq:firstE e t with
  | none=>
   rw[hq]at hr
   exact fun out ho=>st60a ext x d _ rfl t k hk hl hr out ho
  | some q=>
   rw[hq]at hr
   dsimp only
   have ev:resV [] (some q)=erV q.1 q.2:=rfl
   rw[ev]at hr ⊢
   rcases lO1 q.1 q.2 with⟨xs,hv⟩ | ⟨v,hv⟩
   ·rw[hv]at hr ⊢;exact bad60a ext xs x d _ rfl t k hk hl hr
   ·rw[hv]at hr ⊢;exact oG2 ext v x d _ rfl t k hk hl hr) (dn60a ext x d _ _ rfl)
 refine Eq.trans hA ?_
 cases hq:bH0 (fun _ t=>firstE e t) 0 [d.type,d.body,d.param] with
 | some q=>rfl
 | none=>
  dsimp only
  have hB:=dK0 d.cons (fun k=>H60b ext 0 (E60b d k) (O60b x d)) (fun _ c=>firstE eo (Con.arg c)) (fun q=>some (.ret [resV [] (some q)] [])) (some (.ret [resP [] (posD bd d)] [])) (by omega) (fun k c hk hl=>by
   have hr:=r65o c (List.mem_of_getElem? hk) c1 hf
   try dsimp only
   cases hq:firstE eo c.arg with
   | none=>
    rw[hq]at hr
    exact fun out ho=>st60b ext x d c k hk hl hr out ho
   | some q=>
    rw[hq]at hr
    dsimp only
    have ev:resV [] (some q)=erV q.1 q.2:=rfl
    rw[ev]at hr ⊢
    rcases lO1 q.1 q.2 with⟨xs,hv⟩ | ⟨v,hv⟩
    ·rw[hv]at hr ⊢;exact bad60b ext xs x d c k hk hl hr
    ·rw[hv]at hr ⊢;exact oH2 ext v x d c k hk hl hr) (by
   have h:=r68 c1
   cases hp:posD bd d with
   | none=>rw[hp]at h;exact dn60b ext x d _ h
   | some q=>rw[hp]at h;exact dn60b ext x d _ h)
  refine Eq.trans hB ?_
  cases hq2:bH0 (fun _ c=>firstE eo (Con.arg c)) 0 d.cons with
  | some q=>rfl
  | none=>
   dsimp only
   cases hp:posD bd d with
   | none=>rfl
   | some q=>
    obtain⟨a,r,rfl⟩:=uR2 bd d q hp
    rfl
end
end
section
open Go
variable (ext:Ext)
noncomputable def B61 : Code:=(f61.body.getD .skip)
noncomputable def L61a : Code:=sub B61 [1,1,1,0,1,0,0]
theorem hL61a : It.code L61a=It.code (sub B61 [1,1,1,0,1,0,0]):=rfl
noncomputable def K61a : List It:=[.inBlock 0,.code (sub B61 [1,1,1,1])]
noncomputable def H61a (ext:Ext)(m:Nat)(env:Env)(loc:List O):Option Out:=run prog ext (.k ⟨72,m,[.tmp 4],false⟩ (.code L61a :: .inLoop L61a::K61a) env loc)
noncomputable def L61b : Code:=sub B61 [1,1,1,0,1,0,0,1,0,0,1,0,0]
theorem qX2 : It.code L61b=It.code (sub B61 [1,1,1,0,1,0,0,1,0,0,1,0,0]):=rfl
noncomputable def K61b : List It:=[.inBlock 2,.inBlock 1,.code (sub B61 [1,1,1,0,1,0,0,1,1]),.inLoop L61a,.inBlock 0,.code (sub B61 [1,1,1,1])]
noncomputable def H61b (ext:Ext)(m:Nat)(env:Env)(loc:List O):Option Out:=run prog ext (.k ⟨72,m,[.tmp 4],false⟩ (.code L61b :: .inLoop L61b::K61b) env loc)
noncomputable def L61c : Code:=sub B61 [1,1,1,1,1,0,1,0,0]
theorem wC1 : It.code L61c=It.code (sub B61 [1,1,1,1,1,0,1,0,0]):=rfl
noncomputable def K61c : List It:=[.inBlock 4,.code (sub B61 [1,1,1,1,1,1])]
noncomputable def H61c (ext:Ext)(m:Nat)(env:Env)(loc:List O):Option Out:=run prog ext (.k ⟨72,m,[.tmp 4],false⟩ (.code L61c :: .inLoop L61c::K61c) env loc)
theorem dcV_z : dcV zDc = .agg [.d (.v (.string ⟨#[]⟩)),.d (.v (.int .i64 0)),.d (.v (.int .i64 0)),.d (.v (.int .i64 0)),.d (.v (.int .i64 0)),.d (.v (.string ⟨#[]⟩)),.d (.v (.slice none 0 0)),.d (.v (.slice none 0 0)),.d (.v (.int .i64 0)),.d (.v (.int .i64 0)),.d (.v (.string ⟨#[]⟩)),.d (.v (.slice none 0 0)),.d (.v (.slice none 0 0)),.d (.v (.int .i64 0)),.d (.v (.int .i64 0)),.d (.v (.string ⟨#[]⟩)),.d (.v (.slice none 0 0)),.d (.v (.slice none 0 0)),.d (.v (.int .i64 0)),.d (.v (.slice none 0 0)),.d (.v (.int .i64 0)),.d (.v (.slice none 0 0)),.d (.v (.slice none 0 0))]:=rfl
theorem ey61a (hx:ext 61=none)(x:Tb)(d:Dc)(r104:run prog ext (.call 104 [dcV d] [])=some (.ret [bV false] [])):run prog ext (.call 61 [tbV x,dcV d] [])=some (.ret [iV 4] []):=by
 (rw[enT hx func61 rfl];simp only[f61,zR,simprocAttr,zE])
 simp only[tbV,tbC,dcV,dcC,iV,bV]at r104 ⊢
 simp only[zS,zD,zT39,r104,simprocAttr]
 (refine .trans ?_ rfl;kernel_rfl)
theorem ey61b (hx:ext 61=none)(x:Tb)(d:Dc)(f:Int)(hf:¬ f<0)(r104:run prog ext (.call 104 [dcV d] [])=some (.ret [bV true] []))(r37:run prog ext (.call 37 [tbV x,sV d.name] [])=some (.ret [iV f] [])):run prog ext (.call 61 [tbV x,dcV d] [])=some (.ret [iV 40] []):=by
 have hf':(0:Int)≤f:=by omega
 (rw[enT hx func61 rfl];simp only[f61,zR,simprocAttr,zE])
 simp only[tbV,tbC,dcV,dcC,sV,iV,bV]at r104 r37 ⊢
 simp only[zS,zD,zT24,zT39,zT9,r104,r37,ge_iff_le,hf',simprocAttr]
 (refine .trans ?_ rfl;kernel_rfl)
def E61a (k:Int):Env:=[(2,.c (.ptr 0 0)),(3,.c (.ptr 1 0)),(5,iV k)]
def E61b (k j:Int):Env:=[(2,.c (.ptr 0 0)),(3,.c (.ptr 1 0)),(5,iV k),(6,iV j)]
def E61c (L:D)(j:Int):Env:=[(2,.c (.ptr 0 0)),(3,.c (.ptr 1 0)),(7,dV L),(8,iV j)]
theorem ey61 (hx:ext 61=none)(x:Tb)(d:Dc)(f:Int)(hf:f<0)(r104:run prog ext (.call 104 [dcV d] [])=some (.ret [bV true] []))(r37:run prog ext (.call 37 [tbV x,sV d.name] [])=some (.ret [iV f] []))(out:Option Out)(h:H61a ext 0 (E61a 0) (O60b x d)=out):run prog ext (.call 61 [tbV x,dcV d] [])=out:=by
 have hf':¬ (0:Int)≤f:=by omega
 unfold H61a at h
 (rw[enT hx func61 rfl];simp only[f61,zR,simprocAttr,zE])
 simp only[tbV,tbC,dcV,dcC,sV,iV,bV,E61a,O60b]at r104 r37 h ⊢
 simp only[zS,zD,zT24,zT39,zT9,r104,r37,ge_iff_le,hf',simprocAttr]
 (refine(aA0 ?_).trans h;kernel_rfl)
theorem ya61 (x:Tb)(d:Dc)(k:Nat)(hl:(k:Int)<d.cons.length)(out:Option Out)(h:H61b ext 0 (E61b k 0) (O60b x d)=out):H61a ext 0 (E61a k) (O60b x d)=out:=by
 unfold H61b at h
 unfold H61a
 simp only[dcC,iV,E61a,E61b,O60b]at h ⊢
 (rw[hL61a];simp only[B61,K61a,sub,f61,↓reduceIte,zG])
 simp only[zS,zD,cM0,zT37,aS0,hl,simprocAttr]
 (refine(aA0 ?_).trans h;kernel_rfl)
theorem yb61 (x:Tb)(d:Dc)(c c2:Con)(k j:Nat)(hk:d.cons[k]? = some c)(hl:(k:Int)<d.cons.length)(hj:d.cons[j]? = some c2)(hjk:(j:Int)<k)(hn:(c.name.toList==c2.name.toList)=false)(out:Option Out)(h:H61b ext 0 (E61b k (wr ((j:Int)+1))) (O60b x d)=out):H61b ext 0 (E61b k j) (O60b x d)=out:=by
 have h0:(0:Int)≤k:=by omega
 have h0':(0:Int)≤j:=by omega
 have hl2:(j:Int)<d.cons.length:=by omega
 unfold H61b at h ⊢
 simp only[dcC,iV,E61b,O60b,cZ0 hl]at h ⊢
 (rw[qX2];simp only[B61,K61b,sub,f61,↓reduceIte,zG])
 simp only[zS,zD,cM0,zT37,zT98,zT9,aK0,aC0,aD0,Array.size,List.length,h0,h0',hl,hl2,hjk,hk,hj,Int.toNat_natCast,dM0 c,dM0 c2,hn,simprocAttr]
 rw[aB0 _ _ _ _ (by kernel_rfl)]
 simp only[zS,zD,simprocAttr]
 (refine(aA0 ?_).trans h;kernel_rfl)
theorem yx61 (x:Tb)(d:Dc)(c c2:Con)(k j:Nat)(hk:d.cons[k]? = some c)(hl:(k:Int)<d.cons.length)(hj:d.cons[j]? = some c2)(hjk:(j:Int)<k)(hn:(c.name.toList==c2.name.toList)=true):H61b ext 0 (E61b k j) (O60b x d)=some (.ret [iV 40] []):=by
 have h0:(0:Int)≤k:=by omega
 have h0':(0:Int)≤j:=by omega
 have hl2:(j:Int)<d.cons.length:=by omega
 unfold H61b
 simp only[dcC,iV,E61b,O60b,cZ0 hl]at ⊢
 (rw[qX2];simp only[B61,K61b,sub,f61,↓reduceIte,zG])
 simp only[zS,zD,cM0,zT37,zT98,zT9,aK0,aC0,aD0,Array.size,List.length,h0,h0',hl,hl2,hjk,hk,hj,Int.toNat_natCast,dM0 c,dM0 c2,hn,simprocAttr]
 rw[aB0 _ _ _ _ (by kernel_rfl)]
 simp only[zS,zD,simprocAttr]
 (refine .trans ?_ rfl;kernel_rfl)
theorem yd61 (x:Tb)(d:Dc)(k:Nat)(out:Option Out)(h:H61a ext 0 (E61a (wr ((k:Int)+1))) (O60b x d)=out):H61b ext 0 (E61b k k) (O60b x d)=out:=by
 unfold H61a at h
 unfold H61b
 simp only[dcC,iV,E61a,E61b,O60b]at h ⊢
 (rw[qX2];simp only[B61,K61b,sub,f61,↓reduceIte,zG])
 simp only[zS,zD,Int.lt_irrefl,simprocAttr]
 (refine(aA0 ?_).trans h;kernel_rfl)
theorem ye61 (x:Tb)(d:Dc)(L:D)(r76:run prog ext (.call 76 [dcV d] [])=some (.ret [dV L] []))(out:Option Out)(h:H61c ext 0 (E61c L 0) (O60b x d)=out):H61a ext 0 (E61a d.cons.length) (O60b x d)=out:=by
 unfold H61c at h
 unfold H61a
 simp only[dcV,dcC,dV,iV,E61a,E61c,O60b]at r76 h ⊢
 (rw[hL61a];simp only[B61,K61a,sub,f61,↓reduceIte,zG])
 simp only[zS,zD,zT39,zT37,aS0,Int.lt_irrefl,r76,simprocAttr]
 (refine(aA0 ?_).trans h;kernel_rfl)
theorem yg61 (x:Tb)(d:Dc)(ts:List Tm)(y:Tm)(j:Nat)(hk:ts[j]? = some y)(hl:(j:Int)<ts.length)(hj:decide ((j:Int)>2)=true)(r67:run prog ext (.call 67 [tbV x,dcV d,tmV y,dV nilD] [])=some (.ret [.agg [.d (.v (.int .i64 0)),.d (.v (.slice none 0 0))]] []))(out:Option Out)(h:H61c ext 0 (E61c (.s 5 (ts.map tmD)) (wr ((j:Int)+1))) (O60b x d)=out):H61c ext 0 (E61c (.s 5 (ts.map tmD)) j) (O60b x d)=out:=by
 have h0:(0:Int)≤j:=by omega
 unfold H61c at h ⊢
 simp only[tbV,tbC,dcV,dcC,tmV,tmC,dV,iV,nilD,E61c,O60b]at r67 h ⊢
 (rw[wC1];simp only[B61,K61c,sub,f61,↓reduceIte,zG])
 simp only[zS,zD,zT24,zT39,zT33,zT45,bL0,aK0,aC0,aD0,Array.size,List.length,h0,hl,Int.toNat_natCast,hk,aH0 y,r67,hj,simprocAttr]
 rw[aB0 _ _ _ _ (by kernel_rfl)]
 simp only[zS,zD,bP0,zT27,simprocAttr]
 (refine(aA0 ?_).trans h;kernel_rfl)
theorem yh61 (c:Int)(F:D)(hc:¬ c=0)(x:Tb)(d:Dc)(ts:List Tm)(y:Tm)(j:Nat)(hk:ts[j]? = some y)(hl:(j:Int)<ts.length)(hj:decide ((j:Int)>2)=true)(r67:run prog ext (.call 67 [tbV x,dcV d,tmV y,dV nilD] [])=some (.ret [.agg [.d (.v (.int .i64 c)),.d F]] [])):H61c ext 0 (E61c (.s 5 (ts.map tmD)) j) (O60b x d)=some (.ret [iV c] []):=by
 have h0:(0:Int)≤j:=by omega
 unfold H61c
 simp only[tbV,tbC,dcV,dcC,tmV,tmC,dV,iV,nilD,E61c,O60b]at r67 ⊢
 (rw[wC1];simp only[B61,K61c,sub,f61,↓reduceIte,zG])
 simp only[zS,zD,zT24,zT39,zT33,zT45,bL0,aK0,aC0,aD0,Array.size,List.length,h0,hl,Int.toNat_natCast,hk,aH0 y,r67,hj,simprocAttr]
 rw[aB0 _ _ _ _ (by kernel_rfl)]
 simp only[zS,zD,bP0,zT27,hc,simprocAttr]
 (refine .trans ?_ rfl;kernel_rfl)
theorem yi61 (x:Tb)(d:Dc)(ts:List Tm)(y:Tm)(j:Nat)(hk:ts[j]? = some y)(hl:(j:Int)<ts.length)(hj:decide ((j:Int)>2)=false)(r67:run prog ext (.call 67 [tbV x,dcV zDc,tmV y,dV nilD] [])=some (.ret [.agg [.d (.v (.int .i64 0)),.d (.v (.slice none 0 0))]] []))(out:Option Out)(h:H61c ext 0 (E61c (.s 5 (ts.map tmD)) (wr ((j:Int)+1))) (O60b x d)=out):H61c ext 0 (E61c (.s 5 (ts.map tmD)) j) (O60b x d)=out:=by
 have h0:(0:Int)≤j:=by omega
 rw[dcV_z]at r67
 unfold H61c at h ⊢
 simp only[tbV,tbC,dcC,tmV,tmC,dV,iV,nilD,E61c,O60b]at r67 h ⊢
 (rw[wC1];simp only[B61,K61c,sub,f61,↓reduceIte,zG])
 simp only[zS,zD,zT24,zT39,zT33,zT45,bL0,aK0,aC0,aD0,Array.size,List.length,h0,hl,Int.toNat_natCast,hk,aH0 y,r67,hj,simprocAttr]
 rw[aB0 _ _ _ _ (by kernel_rfl)]
 simp only[zS,zD,bP0,zT27,simprocAttr]
 (refine(aA0 ?_).trans h;kernel_rfl)
theorem yj61 (c:Int)(F:D)(hc:¬ c=0)(x:Tb)(d:Dc)(ts:List Tm)(y:Tm)(j:Nat)(hk:ts[j]? = some y)(hl:(j:Int)<ts.length)(hj:decide ((j:Int)>2)=false)(r67:run prog ext (.call 67 [tbV x,dcV zDc,tmV y,dV nilD] [])=some (.ret [.agg [.d (.v (.int .i64 c)),.d F]] [])):H61c ext 0 (E61c (.s 5 (ts.map tmD)) j) (O60b x d)=some (.ret [iV c] []):=by
 have h0:(0:Int)≤j:=by omega
 rw[dcV_z]at r67
 unfold H61c
 simp only[tbV,tbC,dcC,tmV,tmC,dV,iV,nilD,E61c,O60b]at r67 ⊢
 (rw[wC1];simp only[B61,K61c,sub,f61,↓reduceIte,zG])
 simp only[zS,zD,zT24,zT39,zT33,zT45,bL0,aK0,aC0,aD0,Array.size,List.length,h0,hl,Int.toNat_natCast,hk,aH0 y,r67,hj,simprocAttr]
 rw[aB0 _ _ _ _ (by kernel_rfl)]
 simp only[zS,zD,bP0,zT27,hc,simprocAttr]
 (refine .trans ?_ rfl;kernel_rfl)
theorem yk61 (x:Tb)(d:Dc)(ts:List Tm)(c:Int)(F:D)(r105:run prog ext (.call 105 [tbV x,dcV d] [])=some (.ret [.agg [.d (.v (.int .i64 c)),.d F]] [])):H61c ext 0 (E61c (.s 5 (ts.map tmD)) ts.length) (O60b x d)=some (.ret [iV c] []):=by
 unfold H61c
 simp only[tbV,tbC,dcV,dcC,dV,iV,E61c,O60b]at r105 ⊢
 (rw[wC1];simp only[B61,K61c,sub,f61,↓reduceIte,zG])
 simp only[zS,zD,zT24,zT39,bP0,zT27,bL0,Int.lt_irrefl,r105,simprocAttr]
 (refine .trans ?_ rfl;kernel_rfl)
end
section
open Go
variable (ext:Ext)
def aU1 (a b:Con):Bool:=a.name.toList==b.name.toList
theorem in61 (x:Tb)(d:Dc)(hs:d.cons.length<2^50)(k:Nat)(c:Con)(hk:d.cons[k]? = some c)(hl:(k:Int)<d.cons.length) :
  H61b ext 0 (E61b k 0) (O60b x d)=if(d.cons.take k).any (aU1 c)=true then some (.ret [iV 40] []) else H61a ext 0 (E61a (wr ((k:Int)+1))) (O60b x d):=by
 have hlen:(d.cons.take k).length=k:=by rw[List.length_take];omega
 have:=bS0 (d.cons.take k) (fun j=>H61b ext 0 (E61b k j) (O60b x d)) (aU1 c) (fun _=>some (.ret [iV 40] [])) (H61a ext 0 (E61a (wr ((k:Int)+1))) (O60b x d)) (by rw[hlen];omega) (fun j c2 hj hlj=>by
  rw[hlen]at hlj
  have hjk:j<k:=by omega
  have hj':d.cons[j]? = some c2:=by rw[List.getElem?_take,if_pos hjk]at hj;exact hj
  exact⟨fun hp=>yx61 ext x d c c2 k j hk hl hj' hlj hp,fun hp out ho=>yb61 ext x d c c2 k j hk hl hj' hlj hp out ho⟩) (by rw[hlen];exact yd61 ext x d k _ rfl)
 refine Eq.trans this ?_
 rw[← List.findIdx?_isSome]
 cases (d.cons.take k).findIdx? (aU1 c) <;> rfl
def dupR (d:Dc):Bool:=(cD0 (fun k c=>(d.cons.take k).any (aU1 c)) 0 d.cons).isSome
theorem out61 (x:Tb)(d:Dc)(hs:d.cons.length<2^50)(L:D)(r76:run prog ext (.call 76 [dcV d] [])=some (.ret [dV L] [])) :
  H61a ext 0 (E61a 0) (O60b x d)=if dupR d=true then some (.ret [iV 40] []) else H61c ext 0 (E61c L 0) (O60b x d):=by
 have:=dJ0 d.cons (fun k=>H61a ext 0 (E61a k) (O60b x d)) (fun k c=>(d.cons.take k).any (aU1 c)) (fun _=>some (.ret [iV 40] [])) (H61c ext 0 (E61c L 0) (O60b x d)) (by omega) (fun k c hk hl=>by
  have h:=in61 ext x d hs k c hk hl
  refine⟨fun hp=> ?_,fun hp out ho=> ?_⟩
  ·rw[if_pos hp]at h;exact ya61 ext x d k hl _ h
  ·rw[if_neg (by rw[hp];decide)]at h;exact ya61 ext x d k hl _ (h.trans ho)) (ye61 ext x d L r76 _ rfl)
 refine Eq.trans this ?_
 unfold dupR
 cases cD0 (fun k c=>(d.cons.take k).any (aU1 c)) 0 d.cons <;> rfl
section
variable (bd:Tm→Bool) (eR:Dc→Tm→Int)
def nS0 (d:Dc)(j:Nat):Dc:=if j>2 then d else zDc
theorem uP2 (x:Tb)(d:Dc)(ts:List Tm)(hs:ts.length<2^50)(r67:∀ (j:Nat)(t:Tm),ts[j]? = some t→run prog ext (.call 67 [tbV x,dcV (nS0 d j),tmV t,dV nilD] [])=some (.ret [resF [] (firstE (eR (nS0 d j)) t)] []))
  (hne:∀ j t q,firstE (eR (nS0 d j)) t=some q→¬ q.1=0) (r105:run prog ext (.call 105 [tbV x,dcV d] [])=some (.ret [resQ [] (posD bd d)] [])) :
  H61c ext 0 (E61c (.s 5 (ts.map tmD)) 0) (O60b x d)=some (.ret [iV (match bH0 (fun j t=>firstE (eR (nS0 d j)) t) 0 ts with | some q=>q.1 | none=>if(posD bd d).isSome=true then 43 else 0)] []):=by
 have:=dK0 ts (fun j=>H61c ext 0 (E61c (.s 5 (ts.map tmD)) j) (O60b x d)) (fun j t=>firstE (eR (nS0 d j)) t) (fun q=>some (.ret [iV q.1] [])) (some (.ret [iV (if(posD bd d).isSome=true then 43 else 0)] [])) (by omega) (fun j t hk hl=>by
  have hr:=r67 j t hk
  have hn:=hne j t
  try dsimp only
  by_cases hj:j>2
  ·have hj':decide ((j:Int)>2)=true:=by simp;omega
   have eo:nS0 d j=d:=if_pos hj
   rw[eo]at hr hn ⊢
   cases hq:firstE (eR d) t with
   | none=>rw[hq]at hr;exact fun out ho=>yg61 ext x d ts t j hk hl hj' hr out ho
   | some q=>rw[hq]at hr;exact yh61 ext q.1 _ (hn q hq) x d ts t j hk hl hj' hr
  ·have hj':decide ((j:Int)>2)=false:=by simp;omega
   have eo:nS0 d j=zDc:=if_neg hj
   rw[eo]at hr hn ⊢
   cases hq:firstE (eR zDc) t with
   | none=>rw[hq]at hr;exact fun out ho=>yi61 ext x d ts t j hk hl hj' hr out ho
   | some q=>rw[hq]at hr;exact yj61 ext q.1 _ (hn q hq) x d ts t j hk hl hj' hr) (by
   cases hp:posD bd d with
   | none=>rw[hp]at r105;exact yk61 ext x d ts _ _ r105
   | some q=>rw[hp]at r105;exact yk61 ext x d ts _ _ r105)
 refine Eq.trans this ?_
 cases bH0 (fun j t=>firstE (eR (nS0 d j)) t) 0 ts <;> rfl
end
end
section
open Go
theorem bsTm3 {look:Look}{slot:Nat}{a1 b1 a2 b2 a3 b3:Int}{s1 s2 s3:ByteArray}{x1 y1 x2 y2 x3 y3:D} :
  aV0 prog look slot 31 3 [(0,.agg [.d (.v (.int .i64 a1)),.d (.v (.int .i64 b1)),.d (.v (.string s1)),.d x1,.d y1]),(1,.agg [.d (.v (.int .i64 a2)),.d (.v (.int .i64 b2)),.d (.v (.string s2)),.d x2,.d y2]),(2,.agg [.d (.v (.int .i64 a3)),.d (.v (.int .i64 b3)),.d (.v (.string s3)),.d x3,.d y3])] =
   some ⟨.val (.c (.own slot)),[(slot,.arr 5 [[.v (.int .i64 a1),.v (.int .i64 b1),.v (.string s1),x1,y1],[.v (.int .i64 a2),.v (.int .i64 b2),.v (.string s2),x2,y2],[.v (.int .i64 a3),.v (.int .i64 b3),.v (.string s3),x3,y3]])],[]⟩:=by
 simp only[aV0,nG0,hG0,List.map_cons,List.map_nil,kN0,cells,List.all_cons,List.all_nil,okC,Bool.and_self,if_true,toDs,toD,List.append_nil]
 rw[if_pos]
 ·rfl
 ·exact⟨rfl,by decide,by decide,rfl,i31⟩
end
section
open Go
variable (ext:Ext)
def parts (d:Dc):List Tm:=[d.type,d.body,d.param]++d.cons.map Con.arg
end
section
open Go
variable (ext:Ext)
noncomputable def B76 : Code:=(f76.body.getD .skip)
noncomputable def L76a : Code:=sub B76 [1,1,0,1,0,0]
theorem hL76a : It.code L76a=It.code (sub B76 [1,1,0,1,0,0]):=rfl
noncomputable def K76a : List It:=[.inBlock 0,.code (sub B76 [1,1,1])]
noncomputable def H76a (ext:Ext)(m:Nat)(env:Env)(loc:List O):Option Out:=run prog ext (.k ⟨29,m,[.tmp 2],false⟩ (.code L76a :: .inLoop L76a::K76a) env loc)
def E76 (k:Int):Env:=[(1,.c (.ptr 0 0)),(3,.c (.own 1)),(4,iV k)]
def O76 (d:Dc)(ps:List Tm):List O:=[.box (dcC d),.arr 5 (ps.map tmD)]
theorem qG2 (hx:ext 76=none)(d:Dc)(out:Option Out)(h:H76a ext 0 (E76 0) (O76 d [d.type,d.body,d.param])=out):run prog ext (.call 76 [dcV d] [])=out:=by
 unfold H76a at h
 (rw[enT hx func76 rfl];simp only[f76,zR,simprocAttr,zE])
 simp only[dcV,dcC,iV,E76,O76,List.map_cons,List.map_nil,aH0]at h ⊢
 simp only[zS,zD,zT39,zT33,bsTm3,simprocAttr]
 (refine(aA0 ?_).trans h;kernel_rfl)
theorem step76 (d:Dc)(c:Con)(p:Tm)(ps:List Tm)(hb:ps.length<2^29)(k:Nat)(hk:d.cons[k]? = some c)(hl:(k:Int)<d.cons.length)(out:Option Out)
  (h:H76a ext 0 (E76 (wr ((k:Int)+1))) (O76 d (p::ps++[c.arg]))=out):H76a ext 0 (E76 k) (O76 d (p::ps))=out:=by
 have h0:(0:Int)≤k:=by omega
 have hb':ps.length+1≤1000000000:=by omega
 unfold H76a at h ⊢
 simp only[dcC,iV,E76,O76,cZ0 hl,List.map_append,List.map_cons,List.map_nil,List.cons_append,aH0 c.arg]at h ⊢
 (rw[hL76a];simp only[B76,K76a,sub,f76,↓reduceIte,zG])
 simp only[zS,zD,cM0,zT98,zT37,zT33,h0,hl,Int.toNat_natCast,hk,dM0 c,bsTm,oo31,dP0,hb',simprocAttr]
 (refine(aA0 ?_).trans h;kernel_rfl)
theorem done76 (d:Dc)(p:Tm)(ps:List Tm):H76a ext 0 (E76 d.cons.length) (O76 d (p::ps))=some (.ret [dV (.s 5 ((p::ps).map tmD))] []):=by
 unfold H76a
 simp only[dcC,dV,iV,E76,O76,List.map_cons]
 (rw[hL76a];simp only[B76,K76a,sub,f76,↓reduceIte,zG])
 simp only[zS,zD,cM0,zT37,aS0,Int.lt_irrefl,simprocAttr]
 (refine .trans ?_ rfl;kernel_rfl)
theorem uQ2 (hx:ext 76=none)(d:Dc)(hs:d.cons.length<2^28):run prog ext (.call 76 [dcV d] [])=some (.ret [dV (.s 5 ((parts d).map tmD))] []):=by
 refine qG2 ext hx d _ ?_
 have:=gS0 d.cons (fun k ps=>H76a ext 0 (E76 k) (O76 d (d.type::ps))) (fun k ps=>ps=[d.body,d.param]++(d.cons.take k).map Con.arg) (fun o=>o=some (.ret [dV (.s 5 ((parts d).map tmD))] [])) (by omega)
  (fun k c ps hI hk hl=>⟨ps++[c.arg],by rw[hI,List.take_add_one,hk];simp,fun out ho=>step76 ext d c d.type ps (by rw[hI];simp;omega) k hk hl out ho⟩) (fun ps hI=>by
   rw[done76,hI,List.take_length];rfl) [d.body,d.param] (by simp)
 exact this
end
section
open Go
variable (ext:Ext)
section
variable (bd:Tm→Bool) (eR:Dc→Tm→Int)
def oU1 (x:Tb)(d:Dc):Int:=
 if(!hI0 d)=true then 4
 else if(!decide (find x d.name<0)||dupR d)=true then 40
 else match bH0 (fun j t=>firstE (eR (nS0 d j)) t) 0 (parts d) with
  | some q=>q.1
  | none=>if(posD bd d).isSome=true then 43 else 0
theorem pE1 (hx:ext 61=none)(x:Tb)(d:Dc)(hs:d.cons.length<2^50)(hp:(parts d).length<2^50)(r104:run prog ext (.call 104 [dcV d] [])=some (.ret [bV (hI0 d)] []))
  (r37:run prog ext (.call 37 [tbV x,sV d.name] [])=some (.ret [iV (find x d.name)] []))(r76:hI0 d=true→run prog ext (.call 76 [dcV d] [])=some (.ret [dV (.s 5 ((parts d).map tmD))] []))
  (r67:hI0 d=true→find x d.name<0→∀ (j:Nat) (t:Tm),(parts d)[j]? = some t→run prog ext (.call 67 [tbV x,dcV (nS0 d j),tmV t,dV nilD] [])=some (.ret [resF [] (firstE (eR (nS0 d j)) t)] []))
  (hne:∀ j t q,firstE (eR (nS0 d j)) t=some q→¬ q.1=0) (r105:hI0 d=true→run prog ext (.call 105 [tbV x,dcV d] [])=some (.ret [resQ [] (posD bd d)] [])) :
  run prog ext (.call 61 [tbV x,dcV d] [])=some (.ret [iV (oU1 bd eR x d)] []):=by
 unfold oU1
 cases c1:hI0 d with
 | false=>
  rw[c1]at r104
  rw[Bool.not_false,if_pos rfl]
  exact ey61a ext hx x d r104
 | true=>
 rw[c1]at r104
 rw[if_neg (by decide)]
 by_cases hf:find x d.name<0
 case neg=>
  rw[decide_eq_false hf,Bool.not_false,Bool.true_or,if_pos rfl]
  exact ey61b ext hx x d _ hf r104 r37
 rw[decide_eq_true hf,Bool.not_true,Bool.false_or]
 refine ey61 ext hx x d _ hf r104 r37 _ ?_
 have h:=out61 ext x d hs _ (r76 c1)
 cases c2:dupR d with
 | true=>rw[c2,if_pos rfl]at h;exact h
 | false=>
  rw[c2,if_neg (by decide)]at h
  rw[if_neg (by decide)]
  exact h.trans (uP2 ext bd eR x d _ hp (r67 c1 hf) hne (r105 c1))
end
end
section
open Go
theorem lK1 (hb:∀ a b:ByteArray,(a==b)=(a.toList==b.toList))(d:Dc):∀ (r p:List Con),p++r=d.cons→(cD0 (fun k c=>(d.cons.take k).any (aU1 c)) p.length r).isSome=dupN (p.map Con.name) (r.map Con.name)
 | [],_,_=>rfl
 | c::r,p,h=>by
  have e:d.cons.take p.length=p:=by rw[← h];simp
  have eh:hasT c.name (p.map Con.name)=p.any (aU1 c):=by
   unfold hasT
   rw[List.any_map]
   congr 1
   funext a
   exact hb _ _
  rw[cD0,List.map_cons,dupN,e,eh]
  have ih:=lK1 hb d r (p++[c]) (by rw[← h];simp)
  rw[List.length_append,List.length_cons,List.length_nil,List.map_append,List.map_cons,List.map_nil]at ih
  cases hq:p.any (aU1 c) with
  | true=>simp
  | false=>simp only[Bool.false_or,Bool.false_eq_true,if_false];exact ih
theorem ba_beq (a b:ByteArray):(a==b)=(a.toList==b.toList):=by
 rw[ByteArray.toList_eq,ByteArray.toList_eq]
 show(a.data==b.data)=_
 rw[Bool.eq_iff_iff,beq_iff_eq,beq_iff_eq]
 exact⟨fun h=>by rw[h],fun h=>Array.toList_inj.1 h⟩
theorem dup_eq (d:Dc):dupR d=dupN [] (d.cons.map Con.name):=lK1 ba_beq d d.cons [] rfl
end
section
open Go
theorem xQ0 {α ρ:Type} (f:Nat→α→Option ρ):∀ (l m:List α)(k:Nat),bH0 f k (l++m)=match bH0 f k l with | some r=>some r | none=>bH0 f (k+l.length) m
 | [],m,k=>rfl
 | x::l,m,k=>by
  rw[List.cons_append,bH0,bH0]
  cases f k x with
  | some r=>rfl
  | none=>
   dsimp only
   rw[xQ0 f l m (k+1)]
   rw[show k+1+l.length=k+(x::l).length by simp only[List.length_cons];omega]
theorem xR0 {α β ρ:Type} (f:Nat→α→Option ρ)(g:β→α):∀ (m:List β)(k:Nat),bH0 f k (m.map g)=bH0 (fun i x=>f i (g x)) k m
 | [],_=>rfl
 | x::m,k=>by
  rw[List.map_cons,bH0,bH0,xR0 f g m]
theorem rT0 {α ρ:Type} (f:Nat→α→Option ρ)(h:α→Option ρ):∀ (m:List α)(k k':Nat),(∀ i,k≤i→∀ x,f i x=h x)→bH0 f k m=bH0 (fun _ x=>h x) k' m
 | [],_,_,_=>rfl
 | x::m,k,k',hf=>by
  rw[bH0,bH0,hf k (Nat.le_refl _)]
  cases h x with
  | some r=>rfl
  | none=>exact rT0 f h m (k+1) (k'+1) fun i hi=>hf i (by omega)
section
variable (bd:Tm→Bool) (eR:Dc→Tm→Int)
def pC2 (q:Option (Int × List Int)):Int:=match q with | none=>0 | some q=>q.1
theorem dI1 (x:Tb)(d:Dc):oU1 bd eR x d=pC2 (exam bd (eR zDc) (eR d) x d):=by
 unfold oU1 exam
 rw[dup_eq]
 cases hI0 d with
 | false=>rfl
 | true=>
  have nt:¬ ((!true)=true):=by decide
  rw[if_neg nt,if_neg nt]
  by_cases hg:(!decide (find x d.name<0)||dupN [] (d.cons.map Con.name))=true
  ·rw[if_pos hg,if_pos hg];rfl
  ·rw[if_neg hg,if_neg hg]
   have e:bH0 (fun j t=>firstE (eR (nS0 d j)) t) 0 (parts d)=match bH0 (fun _ t=>firstE (eR zDc) t) 0 [d.type,d.body,d.param] with
     | some q=>some q
     | none=>bH0 (fun _ c=>firstE (eR d) (Con.arg c)) 0 d.cons:=by
    unfold parts
    rw[xQ0]
    have e1:bH0 (fun j t=>firstE (eR (nS0 d j)) t) 0 [d.type,d.body,d.param]=bH0 (fun _ t=>firstE (eR zDc) t) 0 [d.type,d.body,d.param]:=rfl
    rw[e1,xR0]
    have e2:bH0 (fun i c=>firstE (eR (nS0 d i)) (Con.arg c)) (0+[d.type,d.body,d.param].length) d.cons=bH0 (fun _ c=>firstE (eR d) (Con.arg c)) 0 d.cons:=
     rT0 _ (fun c=>firstE (eR d) (Con.arg c)) d.cons _ 0 fun i hi c=>by
      have hi':i>2:=hi
      have:nS0 d i=d:=if_pos hi'
      rw[this]
    rw[e2]
    cases bH0 (fun _ t=>firstE (eR zDc) t) 0 [d.type,d.body,d.param] <;> rfl
   rw[e]
   cases bH0 (fun _ t=>firstE (eR zDc) t) 0 [d.type,d.body,d.param] with
   | some q=>rfl
   | none=>
    dsimp only
    cases bH0 (fun _ c=>firstE (eR d) (Con.arg c)) 0 d.cons with
    | some q=>rfl
    | none=>dsimp only;cases posD bd d <;> rfl
end
end
section
open Go
def ndZ (x:Tb)(o:Dc)(t:Tm):Int:=ndR o t (nT0 x t.s) (gX0 x t.s)
theorem lT1 {x:Tb}{s:ByteArray} (h:find x s<0):x.ds.find? (isNm s)=none:=by
 cases hf:x.ds.find? (isNm s) with
 | none=>rfl
 | some d=>
  obtain⟨k,h1,_⟩:=kC0 hf
  omega
theorem ba_eq {a b:ByteArray} (h:(a.toList==b.toList)=true):a=b:=by
 rw[ByteArray.toList_eq,ByteArray.toList_eq,beq_iff_eq]at h
 exact ByteArray.ext (Array.toList_inj.1 h)
theorem ndZ_z (x:Tb)(hx:x.wt<2^49)(t:Tm)(ht:t.small):ndZ x zDc t=ndE t (nT0 x t.s) (gX0 x t.s):=ndR_z x hx t ht
theorem ndO_R (x:Tb)(hx:x.wt<2^49)(o:Dc)(ho:o.wt<2^49)(hk:(o.kind==4)=true)(hf:find x o.name<0)(t:Tm)(ht:t.small) :
  ndO o t (nT0 x t.s) (gX0 x t.s) (find x t.s)=ndZ x o t:=by
 have z:=ndZ_z x hx t ht
 have e0:ownB zDc t=false:=rfl
 unfold ndO
 rw[← z]
 unfold ndZ ndR
 rw[e0]
 cases e26:(t.op==26) with
 | false=>simp only[Bool.false_and,Bool.false_eq_true,if_false]
 | true=>
  have e2:(t.op==2)=false:=by
   rw[beq_iff_eq]at e26
   rw[e26];rfl
  cases hn:(t.s.toList==o.name.toList) with
  | false=>
   have e1:ownB o t=false:=by
    unfold ownB
    rw[hk,Bool.true_and]
    rw[Bool.eq_false_iff]at hn ⊢
    intro h
    rw[beq_iff_eq]at h
    exact hn (by rw[beq_iff_eq];exact h.symm)
   rw[e1]
   simp only[Bool.false_and,Bool.and_false,Bool.false_eq_true,if_false]
  | true=>
   have es:=ba_eq hn
   have e1:ownB o t=true:=by
    unfold ownB
    rw[hk,Bool.true_and,es]
    exact beq_self_eq_true _
   have efa:gX0 x t.s=(zDc,false):=by
    unfold gX0
    rw[es,lT1 hf]
   have hlt:=t.len_lt
   have hsz:=t.sz_le_wt
   have hcl:=o.cons_lt
   unfold Tm.small at ht
   have ea:arR t o=arB t o:=arB_R t o (by omega) (by omega)
   have ed:decide (find x t.s<0)=true:=by rw[es];exact decide_eq_true hf
   rw[e1,e2,ed,efa,ea]
   rfl
end
end Go.Proofs.YteenjodhmppgjaaGreatDoor.Am
