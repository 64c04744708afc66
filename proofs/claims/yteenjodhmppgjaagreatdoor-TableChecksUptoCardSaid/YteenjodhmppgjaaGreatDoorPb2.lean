/- A part of the proof of a card. No conditions. -/
import Derived.Test.YteenjodhmppgjaaGreatDoorPb1
set_option linter.all false
set_option maxHeartbeats 16000000
set_option maxRecDepth 10000
namespace Go.Proofs.YteenjodhmppgjaaGreatDoor.Am
open Go.Proofs.Tryz
section
open Go
variable (ext:Ext)
noncomputable def B198 : Code:=(f198.body.getD .skip)
noncomputable def mQ2 : Code:=sub B198 [1,1,1,0,1,0,0]
theorem kB2 : It.code mQ2=It.code (sub B198 [1,1,1,0,1,0,0]):=rfl
noncomputable def lK2 : List It:=[.inBlock 0,.code (sub B198 [1,1,1,1])]
noncomputable def cD1 (ext:Ext)(m:Nat)(env:Env)(loc:List O):Option Out:=run prog ext (.k ⟨27,m,[.tmp 2],false⟩ (.code mQ2 :: .inLoop mQ2::lK2) env loc)
theorem bs0_34 {look:Look}{slot:Nat}:aV0 prog look slot 34 0 []=some ⟨.val (.c (.own slot)),[(slot,.arr 2 [])],[]⟩:=by
 simp only[aV0,nH0,cV0];rfl
theorem bs0_30 {look:Look}{slot:Nat}:aV0 prog look slot 30 0 []=some ⟨.val (.c (.own slot)),[(slot,.arr 2 [])],[]⟩:=by
 simp only[aV0,zO0,zT36];rfl
theorem os30 {look:Look}{slot id:Nat}{new:List (List D)}:bI0 prog look slot [30,30] [.c (.own id),.c (.d (.s 2 new))]=apI 2 32 slot id new (look id) (apD prog look slot 30 (.c (.own id)) (.c (.d (.s 2 new)))):=kP1 zO0 nK1 dB1 z30 (by decide) id new
def iI0 : Prop:=∀ (z:Bool)(l:List LV),l.length<2^29→run prog ext (.call 240 [dV (aJ0 z 2 (l.map lvD))] [])=some (.ret [dV (aJ0 z 2 (l.map lvD))] [])
theorem cQ2 (hx:ext 240=none)(x:LV)(l:List LV)(hl:l.length<2^29):run prog ext (.call 240 [dV (.s 2 ((x::l).map lvD))] [])=some (.ret [dV (.s 2 ((x::l).map lvD))] []):=by
 have hb:l.length+1≤1000000000:=by omega
 (rw[enT hx func240 rfl];simp only[f240,zR,simprocAttr,zE])
 simp only[dV]
 simp only[zS,zD,vN0,bs0_34,os34,uO0,hb,Nat.zero_le,simprocAttr]
 (refine .trans ?_ rfl;kernel_rfl)
theorem cP2 (hx:ext 239=none)(x:Lev)(l:List Lev)(hl:l.length<2^29):run prog ext (.call 239 [dV (.s 2 ((x::l).map levD))] [])=some (.ret [.c (.own 0)] [.arr 2 ((x::l).map levD)]):=by
 have hb:l.length+1≤1000000000:=by omega
 (rw[enT hx func239 rfl];simp only[f239,zR,simprocAttr,zE])
 simp only[dV]
 simp only[zS,zD,vM0,bs0_30,os30,uO0,hb,Nat.zero_le,simprocAttr]
 (refine .trans ?_ rfl;kernel_rfl)
def E198 (n k:Int):Env:=[(3,.c (.own 0)),(11,iV n),(12,iV k)]
def O198 (l:List Lev):List O:=[.arr 2 (l.map levD)]
theorem uF2 (hx:ext 198=none)(z:Bool):run prog ext (.call 198 [dV (aJ0 z 2 [])] [])=some (.ret [dV (.v (.slice none 0 0))] []):=by
 have e0:((0:Nat):Int)=0:=rfl
 (rw[enT hx func198 rfl];simp only[f198,zR,simprocAttr,zE])
 simp only[dV]
 simp only[zS,zD,eN0,e0,simprocAttr]
 (refine .trans ?_ rfl;kernel_rfl)
theorem dU2 (hx:ext 198=none)(h239:ext 239=none)(x:Lev)(l:List Lev)(hl:l.length<2^29)(out:Option Out)(h:cD1 ext 0 (E198 (x::l).length 0) (O198 (x::l))=out):run prog ext (.call 198 [dV (.s 2 ((x::l).map levD))] [])=out:=by
 have hr:=cP2 ext h239 x l hl
 have hne:¬ ((l.length+1:Nat):Int)=0:=by omega
 unfold cD1 at h
 (rw[enT hx func198 rfl];simp only[f198,zR,simprocAttr,zE])
 simp only[dV,iV,E198,O198,List.map_cons,List.length_cons]at h hr ⊢
 simp only[zS,zD,eN0,hne,hr,kU0,simprocAttr]
 (refine(aA0 ?_).trans h;kernel_rfl)
theorem wA2 (hc:iI0 ext)(l:List Lev)(u:Lev)(k:Nat)(hk:l[k]? = some u)(hl:(k:Int)<l.length)(hv:u.vs.length<2^29)(out:Option Out)(h:cD1 ext 0 (E198 l.length (wr ((k:Int)+1))) (O198 l)=out):cD1 ext 0 (E198 l.length k) (O198 l)=out:=by
 have h0:(0:Int)≤k:=by omega
 have hr:=hc u.z u.vs hv
 have e:aJ0 u.z 2 (u.vs.map lvD)=u.d:=rfl
 rw[e]at hr
 have hs:(l.map levD).set k [.v (.int .i64 u.c),u.d]=l.map levD:=by
  have:(l.map levD)[k]? = some (levD u):=by rw[List.getElem?_map,hk];rfl
  have hlt:=vU0 this
  rw[List.getElem?_eq_getElem hlt]at this
  have h2:(l.map levD)[k]=[.v (.int .i64 u.c),u.d]:=Option.some.inj this
  rw[← h2,List.set_getElem_self]
 unfold cD1 at h ⊢
 simp only[dV,iV,E198,O198]at h hr ⊢
 (rw[kB2];simp only[B198,lK2,sub,f198,↓reduceIte,zG])
 simp only[zS,zD,eN0,zT36,zT34,h0,hl,Int.toNat_natCast,hk,iR0 u,hr,stK,toDs,toD,bE0,List.contains_nil,hs,simprocAttr]
 (refine(aA0 ?_).trans h;kernel_rfl)
theorem pU2 (l:List Lev):cD1 ext 0 (E198 l.length l.length) (O198 l)=some (.ret [dV (.s 2 (l.map levD))] []):=by
 unfold cD1
 simp only[dV,iV,E198,O198]
 (rw[kB2];simp only[B198,lK2,sub,f198,↓reduceIte,zG])
 simp only[zS,zD,Int.lt_irrefl,simprocAttr]
 (refine .trans ?_ rfl;kernel_rfl)
theorem dM1 (hx:ext 198=none)(h239:ext 239=none)(hc:iI0 ext)(z:Bool)(l:List Lev)(hl:l.length<2^29)(hv:∀ u∈l,u.vs.length<2^29):run prog ext (.call 198 [dV (aJ0 z 2 (l.map levD))] [])=some (.ret [dV (aJ0 true 2 (l.map levD))] []):=by
 cases l with
 | nil=>exact uF2 ext hx z
 | cons x r=>
  have e1:aJ0 z 2 ((x::r).map levD) = .s 2 ((x::r).map levD):=dV0 (by simp)
  have e2:aJ0 true 2 ((x::r).map levD) = .s 2 ((x::r).map levD):=dV0 (by simp)
  rw[e1,e2]
  refine dU2 ext hx h239 x r (by simp at hl;omega) _ ?_
  have:=rH0 (σ:=Unit) (ρ:=Unit) (x::r) (fun k _=>cD1 ext 0 (E198 (x::r).length k) (O198 (x::r))) (fun s _=> .inl s) (fun _=>none) (fun _=>some (.ret [dV (.s 2 ((x::r).map levD))] [])) (by omega)
   (fun k u s hk hl=>by dsimp only;exact fun out h=>wA2 ext hc (x::r) u k hk hl (hv u (List.mem_of_getElem? hk)) out h) (fun _=>pU2 ext (x::r)) ()
  rw[this]
  have hf:∀ (l:List Lev),eC1 (ρ:=Unit) (fun(s:Unit) (_:Lev)=> .inl s) () l = .inl ():=fun l=>by induction l with | nil=>rfl | cons a l ih=>simp only[eC1,ih]
  rw[hf]
end
section
open Go
variable (ext:Ext)
noncomputable def B197 : Code:=(f197.body.getD .skip)
noncomputable def mP2 : Code:=sub B197 [1,1,1,0,1,0,0]
theorem lM0 : It.code mP2=It.code (sub B197 [1,1,1,0,1,0,0]):=rfl
noncomputable def qG0 : List It:=[.inBlock 0,.code (sub B197 [1,1,1,1])]
noncomputable def jM0 (ext:Ext)(m:Nat)(env:Env)(loc:List O):Option Out:=run prog ext (.k ⟨43,m,[.cell 6 33],false⟩ (.code mP2 :: .inLoop mP2::qG0) env loc)
def kI1 (x:Tm):Tm:= .mk x.op x.n x.s x.u true x.l x.zl
theorem hM0 (x:Tm):tmC (kI1 x)=[.d (.v (.int .i64 x.op)),.d (.v (.int .i64 x.n)),.d (.v (.string x.s)),.d (aJ0 true 2 (x.u.map levD)),.d x.lD]:=rfl
def mkT (x:Tm)(ls:List Tm):Tm:= .mk x.op x.n x.s x.u true ls true
end
section
open Go
variable (ext:Ext)
theorem nJ0 (x:List D)(l:List (List D)):aJ0 true 5 (x::l) = .s 5 (x::l):=dV0 (by simp)
theorem sW0 : aJ0 true 5 [] = .v (.slice none 0 0):=rfl
end
section
open Go
variable (ext:Ext)
end
section
open Go
variable (ext:Ext)
end
section
open Go
variable (ext:Ext)
end
section
open Go
variable (ext:Ext)
end
section
open Go
variable (ext:Ext)
end
section
open Go
variable (ext:Ext)
end
section
open Go
variable (ext:Ext)
end
end Go.Proofs.YteenjodhmppgjaaGreatDoor.Am
