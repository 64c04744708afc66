/- A part of the proof of a card. No conditions. -/
import Derived.Test.YteenjodhmppgjaaGreatDoorPb1
set_option linter.all false
set_option maxHeartbeats 16000000
set_option maxRecDepth 10000
namespace Go.Proofs.YteenjodhmppgjaaGreatDoor.Am
open Go.Proofs.Tryz
section
open Go
variable (ext:Ext)
noncomputable def B234 : Code:=(f234.body.getD .skip)
noncomputable def qI1 : Code:=sub B234 [1,0,1,0,0]
theorem gR1 : It.code qI1=It.code (sub B234 [1,0,1,0,0]):=rfl
noncomputable def jS1 : List It:=[.inBlock 0,.code (sub B234 [1,1])]
noncomputable def qQ0 (ext:Ext)(m:Nat)(env:Env)(loc:List O):Option Out:=run prog ext (.k ⟨19,m,[.tmp 4],false⟩ (.code qI1 :: .inLoop qI1::jS1) env loc)
noncomputable def B120 : Code:=(f120.body.getD .skip)
noncomputable def qD1 : Code:=sub B120 [1,1,0,1,0,0]
theorem oG0 : It.code qD1=It.code (sub B120 [1,1,0,1,0,0]):=rfl
noncomputable def sS0 : List It:=[.inBlock 0,.code (sub B120 [1,1,1])]
noncomputable def qP0 (ext:Ext)(m:Nat)(env:Env)(loc:List O):Option Out:=run prog ext (.k ⟨56,m,[.tmp 2],false⟩ (.code qD1 :: .inLoop qD1::sS0) env loc)
theorem clo235 (hx:ext 235=none)(x:LV)(v:Int):run prog ext (.call 235 [lvV x,.c (.ptr 0 0)] [.box [.d (.v (.int .i64 v))]])=some (.ret [bV (x.v==v)] [.box [.d (.v (.int .i64 v))]]):=by
 (rw[enT hx func235 rfl];simp only[f235,zR,Nat.zero_le,simprocAttr,zE])
 simp only[lvV,lvC,bV]
 simp only[zS,zD,aB0,aA0,aR0,zT3,simprocAttr]
 (refine .trans ?_ rfl;kernel_rfl)
def E234 (z:Fl)(l:List LV)(k:Int):Env:=[(0,dV (listD z 2 (l.map lvD))),(1,.c (.fn 235 [] [0])),(7,iV l.length),(8,iV k)]
def O234 (v:Int):List O:=[.box [.d (.v (.int .i64 v))]]
theorem mB1 (hx:ext 234=none)(z:Fl)(l:List LV)(v:Int)(out:Option Out)(h:qQ0 ext 1 (E234 z l 0) (O234 v)=out):run prog ext (.call 234 [dV (listD z 2 (l.map lvD)),.c (.fn 235 [] [0])] (O234 v))=out:=by
 unfold qQ0 at h
 (rw[enT hx func234 rfl];simp only[f234,zR,Nat.zero_le,simprocAttr,zE])
 simp only[dV,E234,O234,iV]at h ⊢
 simp only[zS,zD,aB0,aA0,aQ0,aM0,aJ0,aZ0,aK0,aG0,aN0,aO0,aR0,zT3,simprocAttr]
 (refine(aC0 ?_).trans h;kernel_rfl)
theorem vK1 (hx:ext 235=none)(z:Fl)(l:List LV)(x:LV)(v:Int)(k:Nat)(hk:l[k]? = some x)(hl:(k:Int)<l.length) :
  ((x.v==v)=true→qQ0 ext 1 (E234 z l k) (O234 v)=some (.ret [iV k] (O234 v)))∧((x.v==v)=false→∀ out,qQ0 ext 1 (E234 z l (wr ((k:Int)+1))) (O234 v)=out→qQ0 ext 1 (E234 z l k) (O234 v)=out):=by
 have h0:(0:Int)≤k:=by omega
 have hd:listD z 2 (l.map lvD) = .s 2 (l.map lvD) z.g:=aP0 h0 (by simpa using hl)
 have hr:=clo235 ext hx x v
 have e:=cF0 (rec:=run prog ext) (look:=lk (O234 v)) (slot:=1) (f:=235) (args:=[lvV x,.c (.ptr 0 0)]) (ids:=[0]) (bor:=[]) (e:=⟨.val (bV (x.v==v)),[(0,.box [.d (.v (.int .i64 v))])],[0]⟩) (by kernel_rfl) hr (by kernel_rfl)
 unfold qQ0
 refine⟨fun hp=> ?_,fun hp out h=> ?_⟩
 ·rw[hp]at e
  simp only[dV,E234,O234,iV,bV,hd,lvV,lvC]at e ⊢
  (rw[gR1];simp only[B234,jS1,sub,f234,↓reduceIte,zG])
  simp only[zS,zD,aB0,aA0,aQ0,aM0,aJ0,aZ0,aK0,aG0,aN0,aO0,aR0,zT3,h0,hl,Int.toNat_natCast,hk,lvD,e,simprocAttr]
  (refine .trans ?_ rfl;kernel_rfl)
 ·rw[hp]at e
  simp only[dV,E234,O234,iV,bV,hd,lvV,lvC]at e h ⊢
  (rw[gR1];simp only[B234,jS1,sub,f234,↓reduceIte,zG])
  simp only[zS,zD,aB0,aA0,aQ0,aM0,aJ0,aZ0,aK0,aG0,aN0,aO0,aR0,zT3,h0,hl,Int.toNat_natCast,hk,lvD,e,simprocAttr]
  (refine(aC0 ?_).trans h;kernel_rfl)
theorem rT1 (z:Fl)(l:List LV)(v:Int):qQ0 ext 1 (E234 z l l.length) (O234 v)=some (.ret [iV (-1)] (O234 v)):=by
 unfold qQ0
 simp only[dV,E234,O234,iV]
 (rw[gR1];simp only[B234,jS1,sub,f234,↓reduceIte,zG])
 simp only[zS,zD,aB0,aA0,aQ0,aM0,aJ0,aZ0,aK0,aG0,aN0,aO0,aR0,zT3,Int.lt_irrefl,simprocAttr]
 (refine .trans ?_ rfl;kernel_rfl)
theorem idx234 (hx:ext 234=none)(hx':ext 235=none)(z:Fl)(l:List LV)(v:Int)(hl:l.length<2^62):run prog ext (.call 234 [dV (listD z 2 (l.map lvD)),.c (.fn 235 [] [0])] (O234 v))=some (.ret [iV (idxI (fun x=>x.v==v) l)] (O234 v)):=by
 refine mB1 ext hx z l v _ ?_
 have:=oL0 l (fun k=>qQ0 ext 1 (E234 z l k) (O234 v)) (fun x=>x.v==v) (fun k=>some (.ret [iV k] (O234 v))) (some (.ret [iV (-1)] (O234 v))) hl (fun k x hk hkl=>vK1 ext hx' z l x v k hk hkl) (rT1 ext z l v)
 rw[this]
 unfold idxI
 cases l.findIdx? (fun x=>x.v==v) <;> rfl
theorem sH1 (hx:ext 190=none)(hx1:ext 234=none)(hx2:ext 235=none)(z:Fl)(l:List LV)(v:Int)(hl:l.length<2^62):run prog ext (.call 190 [dV (listD z 2 (l.map lvD)),iV v] [])=some (.ret [iV (idxI (fun x=>x.v==v) l)] []):=by
 have hr:=idx234 ext hx1 hx2 z l v hl
 have e:=cF0 (rec:=run prog ext) (look:=lk (O234 v)) (slot:=1) (f:=234) (args:=[dV (listD z 2 (l.map lvD)),.c (.fn 235 [] [0])]) (ids:=[0]) (bor:=[]) (e:=⟨.val (iV (idxI (fun x=>x.v==v) l)),[(0,.box [.d (.v (.int .i64 v))])],[0]⟩) (by kernel_rfl) hr (by kernel_rfl)
 (rw[enT hx func190 rfl];simp only[f190,zR,Nat.zero_le,simprocAttr,zE])
 simp only[dV,O234,iV]at e ⊢
 simp only[zS,zD,aB0,aA0,aQ0,aM0,aJ0,aZ0,aK0,aG0,aN0,aO0,zT3,e,simprocAttr]
 (refine .trans ?_ rfl;kernel_rfl)
def E120 (x:Lev)(k:Int):Env:=[(1,.c (.ptr 0 0)),(20,dV x.d),(21,iV x.vs.length),(22,iV k)]
def O120 (x:Lev):List O:=[.box (levC x)]
theorem lW1 (hx:ext 120=none)(x:Lev)(out:Option Out)(h1:¬ x.c<0)(h2:¬ x.c>1000)(h3:¬ (x.vs.length:Int)>8)(h:qP0 ext 0 (E120 x 0) (O120 x)=out):run prog ext (.call 120 [levV x] [])=out:=by
 unfold qP0 at h
 (rw[enT hx func120 rfl];simp only[f120,zR,Nat.zero_le,simprocAttr,zE])
 simp only[levV,E120,O120,levC,Lev.d,dV,iV]at h ⊢
 simp only[zS,zD,aB0,aA0,zT36,zT34,aR0,zT3,h1,h2,h3,simprocAttr]
 (refine(aC0 ?_).trans h;kernel_rfl)
theorem bad120 (hx:ext 120=none)(x:Lev)(h:x.c<0∨x.c>1000∨(x.vs.length:Int)>8):run prog ext (.call 120 [levV x] [])=some (.ret [bV false] []):=by
 by_cases h1:x.c<0
 ·(rw[enT hx func120 rfl];simp only[f120,zR,Nat.zero_le,simprocAttr,zE])
  simp only[levV,levC,Lev.d]
  simp only[zS,zD,aB0,aA0,zT36,zT34,aR0,zT3,h1,simprocAttr]
  (refine .trans ?_ rfl;kernel_rfl)
 by_cases h2:x.c>1000
 ·(rw[enT hx func120 rfl];simp only[f120,zR,Nat.zero_le,simprocAttr,zE])
  simp only[levV,levC,Lev.d]
  simp only[zS,zD,aB0,aA0,zT36,zT34,aR0,zT3,h1,h2,simprocAttr]
  (refine .trans ?_ rfl;kernel_rfl)
 have h3:(x.vs.length:Int)>8:=by omega
 (rw[enT hx func120 rfl];simp only[f120,zR,Nat.zero_le,simprocAttr,zE])
 simp only[levV,levC,Lev.d]
 simp only[zS,zD,aB0,aA0,zT36,zT34,aR0,zT3,h1,h2,h3,simprocAttr]
 (refine .trans ?_ rfl;kernel_rfl)
def okLV (x:LV):Bool:=decide (0≤x.v)&&decide (x.v<1200)&&decide (0≤x.p)&&decide (x.p≤1000)
def mT0 (l:List LV)(k:Nat)(x:LV):Bool:= !okLV x||(l.take k).any fun y=>y.v==x.v
def Lev.valid (x:Lev):Bool:=decide (0≤x.c)&&decide (x.c≤1000)&&decide (x.vs.length≤8)&&(eG0 (mT0 x.vs) 0 x.vs).isNone
theorem mG1 (hx:ext 190=none)(hx1:ext 234=none)(hx2:ext 235=none)(g:Bool)(l:List LV)(v:Int)(hl:l.length<2^62):run prog ext (.call 190 [dV (.s 2 (l.map lvD) g),iV v] [])=some (.ret [iV (idxI (fun x=>x.v==v) l)] []):=by
 have:=sH1 ext hx hx1 hx2 ⟨false,g⟩ l v hl
 have e:listD ⟨false,g⟩ 2 (l.map lvD) = .s 2 (l.map lvD) g:=by simp[listD]
 rwa[e]at this
theorem vF1 (hx:ext 190=none)(hx1:ext 234=none)(hx2:ext 235=none)(x:Lev)(y:LV)(k:Nat)(hk:x.vs[k]? = some y)(hl:(k:Int)<x.vs.length)(hs:x.vs.length<2^62) :
  (mT0 x.vs k y=true→qP0 ext 0 (E120 x k) (O120 x)=some (.ret [bV false] []))∧(mT0 x.vs k y=false→∀ out,qP0 ext 0 (E120 x (wr ((k:Int)+1))) (O120 x)=out→qP0 ext 0 (E120 x k) (O120 x)=out):=by
 have h0:(0:Int)≤k:=by omega
 have hkl:(k:Int)≤x.vs.length:=by omega
 have hd:listD x.z 2 (x.vs.map lvD) = .s 2 (x.vs.map lvD) x.z.g:=aP0 h0 (by simpa using hl)
 have hr:=mG1 ext hx hx1 hx2 x.z.g (x.vs.take k) y.v (by simp;omega)
 have hi:=uB1 (fun z=>z.v==y.v) (x.vs.take k)
 rw[List.map_take]at hr
 unfold qP0
 generalize hI:idxI (fun z=>z.v==y.v) (x.vs.take k)=i at hr hi
 by_cases a1:y.v<0
 ·refine⟨fun hp=> ?_,fun hp out h=> ?_⟩
  ·simp only[dV,E120,O120,levC,Lev.d,iV,bV,hd]at hr ⊢
   (rw[oG0];simp only[B120,sS0,sub,f120,↓reduceIte,zG])
   simp only[zS,zD,aB0,aA0,zT34,zT36,aR0,zT3,bD0,aH0,aI0,Array.size,List.length,h0,hl,Int.toNat_natCast,hk,lvD,a1,simprocAttr]
   rw[aE0 _ _ _ _ (by kernel_rfl)]
   simp only[zS,zD,aB0,aA0,simprocAttr]
   (refine .trans ?_ rfl;kernel_rfl)
  ·exfalso
   simp[mT0,okLV]at hp;omega
 by_cases a2:y.v≥1200
 ·refine⟨fun hp=> ?_,fun hp out h=> ?_⟩
  ·simp only[dV,E120,O120,levC,Lev.d,iV,bV,hd]at hr ⊢
   (rw[oG0];simp only[B120,sS0,sub,f120,↓reduceIte,zG])
   simp only[zS,zD,aB0,aA0,zT34,zT36,aR0,zT3,bD0,aH0,aI0,Array.size,List.length,h0,hl,Int.toNat_natCast,hk,lvD,a1,a2,simprocAttr]
   rw[aE0 _ _ _ _ (by kernel_rfl)]
   simp only[zS,zD,aB0,aA0,simprocAttr]
   (refine .trans ?_ rfl;kernel_rfl)
  ·exfalso
   simp[mT0,okLV]at hp;omega
 by_cases a3:y.p<0
 ·refine⟨fun hp=> ?_,fun hp out h=> ?_⟩
  ·simp only[dV,E120,O120,levC,Lev.d,iV,bV,hd]at hr ⊢
   (rw[oG0];simp only[B120,sS0,sub,f120,↓reduceIte,zG])
   simp only[zS,zD,aB0,aA0,zT34,zT36,aR0,zT3,bD0,aH0,aI0,Array.size,List.length,h0,hl,Int.toNat_natCast,hk,lvD,a1,a2,a3,simprocAttr]
   rw[aE0 _ _ _ _ (by kernel_rfl)]
   simp only[zS,zD,aB0,aA0,simprocAttr]
   (refine .trans ?_ rfl;kernel_rfl)
  ·exfalso
   simp[mT0,okLV]at hp;omega
 by_cases a4:y.p>1000
 ·refine⟨fun hp=> ?_,fun hp out h=> ?_⟩
  ·simp only[dV,E120,O120,levC,Lev.d,iV,bV,hd]at hr ⊢
   (rw[oG0];simp only[B120,sS0,sub,f120,↓reduceIte,zG])
   simp only[zS,zD,aB0,aA0,zT34,zT36,aR0,zT3,bD0,aH0,aI0,Array.size,List.length,h0,hl,Int.toNat_natCast,hk,lvD,a1,a2,a3,a4,simprocAttr]
   rw[aE0 _ _ _ _ (by kernel_rfl)]
   simp only[zS,zD,aB0,aA0,simprocAttr]
   (refine .trans ?_ rfl;kernel_rfl)
  ·exfalso
   simp[mT0,okLV]at hp;omega
 have hok:okLV y=true:=by simp[okLV];omega
 by_cases a5:i≥0
 ·refine⟨fun hp=> ?_,fun hp out h=> ?_⟩
  ·simp only[dV,E120,O120,levC,Lev.d,iV,bV,hd]at hr ⊢
   (rw[oG0];simp only[B120,sS0,sub,f120,↓reduceIte,zG])
   simp only[zS,zD,aB0,aA0,zT34,zT36,aR0,zT3,bD0,aH0,aI0,Array.size,List.length,jD0,gZ0,h0,hl,hkl,Int.toNat_natCast,hk,lvD,a1,a2,a3,a4,a5,hr,simprocAttr]
   rw[aE0 _ _ _ _ (by kernel_rfl)]
   simp only[zS,zD,aB0,aA0,simprocAttr]
   (refine .trans ?_ rfl;kernel_rfl)
  ·exfalso
   rw[mT0,hok,← hi]at hp
   simp[a5]at hp
 ·refine⟨fun hp=> ?_,fun hp out h=> ?_⟩
  ·exfalso
   rw[mT0,hok,← hi]at hp
   simp[a5]at hp
  ·simp only[dV,E120,O120,levC,Lev.d,iV,bV,hd]at hr h ⊢
   (rw[oG0];simp only[B120,sS0,sub,f120,↓reduceIte,zG])
   simp only[zS,zD,aB0,aA0,zT34,zT36,aR0,zT3,bD0,aH0,aI0,Array.size,List.length,jD0,gZ0,h0,hl,hkl,Int.toNat_natCast,hk,lvD,a1,a2,a3,a4,a5,hr,simprocAttr]
   rw[aE0 _ _ _ _ (by kernel_rfl)]
   simp only[zS,zD,aB0,aA0,simprocAttr]
   (refine(aC0 ?_).trans h;kernel_rfl)
end
section
open Go
theorem eK1 {P:Program}{look:Look}{slot:Nat}{t e:TypeId}{k:Nat}{v:V}{cs:List C}{ds:List D}{own:List Nat} (h1:iF0 P t=some e)(h2:bN0 P e=some k)(h3:(cV0 P e).isSome=true)(h4:cells v=some cs)(h5:toDs look cs=some (ds,own))(h6:ds.length=k)(h7:0<k)(h8:k≤100) :
  aS0 P look slot t 1 [(0,v)]=some ⟨.val (.c (.own slot)),aU0 own++[(slot,.arr k [ds])],own⟩:=by
 simp only[aS0,h1,h2,List.map_cons,List.map_nil,hZ0,h4,h5,List.append_nil,List.zip_cons_cons,List.zip_nil_right,kB0]
 rw[if_pos]
 refine⟨rfl,h7,by omega,?_,h3⟩
 simp[kB0,h6]
def mkV (i:Nat)(els:List (List D)):V:=match els with | []=> .c (.d (.v (.slice none 0 0))) | _::_=> .c (.own i)
def mkO (k:Nat)(els:List (List D)):List O:=match els with | []=>[] | a::r=>[.arr k (a::r)]
theorem bZ0 (i:Nat):mkV i [] = .c (.d (.v (.slice none 0 0))):=rfl
theorem cC0 (i:Nat)(a:List D)(r:List (List D)):mkV i (a::r) = .c (.own i):=rfl
theorem bT0 (k:Nat):mkO k []=[]:=rfl
theorem bS0 (k:Nat)(a:List D)(r:List (List D)):mkO k (a::r)=[.arr k (a::r)]:=rfl
theorem dC0 (i:Nat)(els:List (List D))(x:List D):mkV i (els++[x]) = .c (.own i):=by cases els <;> rfl
theorem cP0 (k:Nat)(els:List (List D))(x:List D):mkO k (els++[x])=[.arr k (els++[x])]:=by cases els <;> rfl
theorem z34 : (cV0 prog 110).map List.length=some 2:=by rw[pD0];rfl
theorem z30 : (cV0 prog 36).map List.length=some 2:=by rw[sP0];rfl
theorem z31 : (cV0 prog 33).map List.length=some 5:=by rw[sO0];rfl
theorem i34 : (cV0 prog 110).isSome=true:=by rw[pD0];rfl
theorem i30 : (cV0 prog 36).isSome=true:=by rw[sP0];rfl
theorem i31 : (cV0 prog 33).isSome=true:=by rw[sO0];rfl
theorem bsLV {look:Look}{slot:Nat}{a b:Int}:aS0 prog look slot 34 1 [(0,.agg [.d (.v (.int .i64 a)),.d (.v (.int .i64 b))])]=some ⟨.val (.c (.own slot)),[(slot,.arr 2 [[.v (.int .i64 a),.v (.int .i64 b)]])],[]⟩:=
 eK1 (cs:=[.d (.v (.int .i64 a)),.d (.v (.int .i64 b))]) gQ0 eB0 i34 rfl rfl rfl (by decide) (by decide)
def apD (P:Program)(look:Look)(slot:Nat)(t:TypeId)(x y:V):Option Eff:=bH0 P look slot [t,t] [x,y]
def apG (k b slot id j:Nat)(o1 o2:Option O)(d:Option Eff):Option Eff:=
 match o2 with
 | some (.arr k2 new)=>if k2=k then match o1 with
  | some (.arr k1 els)=>if k1=k∧(els.length+new.length)*b≤140737488355328∧els.length+new.length≤9223372036854775807∧[j].contains id=false then some ⟨.val (.c (.own slot)),aU0 [j]++[(id,.gone),(slot,.arr k (els++new))],[j]++[id]⟩ else none
  | _=>d
  else none
 | _=>d
def apH (k b slot j:Nat)(o2:Option O)(d:Option Eff):Option Eff:=
 match o2 with
 | some (.arr k2 new)=>if k2=k then match new with
  | []=>some ⟨.val (.c (.d (.v (.slice none 0 0)))),[],[j]⟩
  | _::_=>if new.length*b≤140737488355328∧new.length≤9223372036854775807 then some ⟨.val (.c (.own slot)),aU0 [j]++[(slot,.arr k new)],[j]⟩ else none
  else none
 | _=>d
def apI (k b slot id:Nat)(new:List (List D))(o1:Option O)(d:Option Eff):Option Eff:=
 match o1 with
 | some (.arr k1 els)=>if k1=k∧(els.length+new.length)*b≤140737488355328∧els.length+new.length≤9223372036854775807∧([]:List Nat).contains id=false then some ⟨.val (.c (.own slot)),aU0 []++[(id,.gone),(slot,.arr k (els++new))],[]++[id]⟩ else none
 | _=>d
section
variable {P:Program}{look:Look}{slot:Nat}{t e:TypeId}{k b:Nat} (h1:iF0 P t=some e) (h2:bN0 P e=some k) (h3:cL0 P e=some b) (h4:(cV0 P e).map List.length=some k) (h5:0<k)
include h1 h2 h3 h4 h5
theorem dY1 (id j:Nat):bH0 P look slot [t,t] [.c (.own id),.c (.own j)]=apG k b slot id j (look id) (look j) (apD P look slot t (.c (.own id)) (.c (.own j))):=by
 unfold apG apD
 cases hj:look j with
 | none=>rfl
 | some o=>
  cases o with
  | arr k2 new=>
   dsimp only
   by_cases hk:k2=k
   ·rw[if_pos hk]
    cases hi:look id with
    | none=>rfl
    | some o=>
     cases o with
     | arr k1 els=>simp only[bH0,h1,h2,h3,h4,h5,eS0,eT0,bI0,hj,hi,hk,ne_eq,not_true_eq_false,if_false,and_self,if_true,List.append_nil,Bool.false_eq_true]
     | _=>rfl
   ·rw[if_neg hk]
    simp only[bH0,h1,h2,h3,h4,h5,eS0,hj,if_neg hk,ne_eq,not_true_eq_false,if_false,and_self,if_true]
  | _=>rfl
theorem dX1 (j:Nat):bH0 P look slot [t,t] [.c (.d (.v (.slice none 0 0))),.c (.own j)]=apH k b slot j (look j) (apD P look slot t (.c (.d (.v (.slice none 0 0)))) (.c (.own j))):=by
 unfold apH apD
 cases hj:look j with
 | none=>rfl
 | some o=>
  cases o with
  | arr k2 new=>
   dsimp only
   by_cases hk:k2=k
   ·rw[if_pos hk]
    cases new <;> simp only[bH0,h1,h2,h3,h4,h5,eS0,eT0,bI0,hj,hk,ne_eq,not_true_eq_false,if_false,and_self,if_true,List.append_nil,Bool.false_eq_true]
   ·rw[if_neg hk]
    simp only[bH0,h1,h2,h3,h4,h5,eS0,hj,if_neg hk,ne_eq,not_true_eq_false,if_false,and_self,if_true]
  | _=>rfl
theorem dZ1 (id:Nat)(new:List (List D))(gc:Bool):bH0 P look slot [t,t] [.c (.own id),.c (.d (.s k new gc))]=apI k b slot id new (look id) (apD P look slot t (.c (.own id)) (.c (.d (.s k new gc)))):=by
 unfold apI apD
 cases hi:look id with
 | none=>rfl
 | some o=>
  cases o with
  | arr k1 els=>simp only[bH0,h1,h2,h3,h4,h5,eS0,eT0,hi,ne_eq,not_true_eq_false,if_false,and_self,if_true,true_or,List.append_nil]
  | _=>rfl
theorem app_on (id:Nat):bH0 P look slot [t,t] [.c (.own id),.c (.d (.v (.slice none 0 0)))]=apI k b slot id [] (look id) (apD P look slot t (.c (.own id)) (.c (.d (.v (.slice none 0 0))))):=by
 unfold apI apD
 cases hi:look id with
 | none=>rfl
 | some o=>
  cases o with
  | arr k1 els=>simp only[bH0,h1,h2,h3,h4,h5,eS0,eT0,hi,ne_eq,not_true_eq_false,if_false,and_self,if_true,true_or,List.append_nil]
  | _=>rfl
end
theorem mk34 (slot:Nat){c:Int} (h0:0≤c)(h1:c≤1000000000):hD0 prog slot 34 (.c (.d (.v (.int .i64 0)))) (.c (.d (.v (.int .i64 c))))=some ⟨.val (.c (.own slot)),[(slot,.arr 2 [])],[]⟩:=by
 simp only[hD0,gQ0,aR0,num,toDs,toD,List.append_nil]
 rw[if_pos]
 ·rfl
 ·exact⟨by omega,h0,by omega,by omega,by decide,rfl⟩
theorem gD0 {d:Option Eff}{k b slot id j:Nat}{els new:List (List D)} (h6:els.length≤1000000000)(h7:new.length≤1000000000)(hne:¬ j=id)(hb:b≤1000):apG k b slot id j (some (.arr k els)) (some (.arr k new)) d=some ⟨.val (.c (.own slot)),[(j,.gone),(id,.gone),(slot,.arr k (els++new))],[j,id]⟩:=by
 have hc:([j].contains id)=false:=by simp;exact fun e=>hne e.symm
 unfold apG
 dsimp only
 rw[if_pos rfl,if_pos ⟨rfl,Nat.le_trans (Nat.mul_le_mul (Nat.add_le_add h6 h7) hb) (by decide),by omega,hc⟩]
 rfl
theorem iK0 {d:Option Eff}{k b slot j:Nat}{x:List D}{new:List (List D)} (h7:new.length≤1000000000)(hb:b≤1000):apH k b slot j (some (.arr k (x::new))) d=some ⟨.val (.c (.own slot)),[(j,.gone),(slot,.arr k (x::new))],[j]⟩:=by
 unfold apH
 dsimp only
 rw[if_pos rfl,if_pos ⟨Nat.le_trans (Nat.mul_le_mul (Nat.le_refl _) hb) (by simp only[List.length_cons];omega),by simp only[List.length_cons];omega⟩]
 rfl
theorem nN0 {d:Option Eff}{k b slot id:Nat}{els new:List (List D)} (h6:els.length≤1000000000)(h7:new.length≤1000000000)(hb:b≤1000):apI k b slot id new (some (.arr k els)) d=some ⟨.val (.c (.own slot)),[(id,.gone),(slot,.arr k (els++new))],[id]⟩:=by
 unfold apI
 dsimp only
 rw[if_pos ⟨rfl,Nat.le_trans (Nat.mul_le_mul (Nat.add_le_add h6 h7) hb) (by decide),by omega,rfl⟩]
 rfl
section
variable (look:Look) (slot id j:Nat) (new:List (List D))
theorem oo34 : bH0 prog look slot [34,34] [.c (.own id),.c (.own j)]=apG 2 16 slot id j (look id) (look j) (apD prog look slot 34 (.c (.own id)) (.c (.own j))):=dY1 gQ0 eB0 eY0 z34 (by decide) id j
theorem no34 : bH0 prog look slot [34,34] [.c (.d (.v (.slice none 0 0))),.c (.own j)]=apH 2 16 slot j (look j) (apD prog look slot 34 (.c (.d (.v (.slice none 0 0)))) (.c (.own j))):=dX1 gQ0 eB0 eY0 z34 (by decide) j
theorem os34 (gc:Bool):bH0 prog look slot [34,34] [.c (.own id),.c (.d (.s 2 new gc))]=apI 2 16 slot id new (look id) (apD prog look slot 34 (.c (.own id)) (.c (.d (.s 2 new gc)))):=dZ1 gQ0 eB0 eY0 z34 (by decide) id new gc
theorem on34 : bH0 prog look slot [34,34] [.c (.own id),.c (.d (.v (.slice none 0 0)))]=apI 2 16 slot id [] (look id) (apD prog look slot 34 (.c (.own id)) (.c (.d (.v (.slice none 0 0))))):=app_on gQ0 eB0 eY0 z34 (by decide) id
theorem ol34 (z:Fl):bH0 prog look slot [34,34] [.c (.own id),.c (.d (listD z 2 new))]=apI 2 16 slot id new (look id) (apD prog look slot 34 (.c (.own id)) (.c (.d (listD z 2 new)))):=by
 unfold listD
 split
 ·rename_i h;rw[h.2];exact on34 look slot id
 ·exact os34 look slot id new _
theorem bs0 : aS0 prog look slot 144 0 []=some ⟨.val (.c (.own slot)),[(slot,.arr 2 [])],[]⟩:=by
 simp only[aS0,aK0,eB0,List.map_nil,hZ0]
 rw[if_pos]
 ·rfl
 ·exact⟨rfl,by decide,by decide,rfl,i34⟩
theorem os144 (gc:Bool):bH0 prog look slot [144,144] [.c (.own id),.c (.d (.s 2 new gc))]=apI 2 16 slot id new (look id) (apD prog look slot 144 (.c (.own id)) (.c (.d (.s 2 new gc)))):=dZ1 aK0 eB0 eY0 z34 (by decide) id new gc
theorem oo30 : bH0 prog look slot [30,30] [.c (.own id),.c (.own j)]=apG 2 32 slot id j (look id) (look j) (apD prog look slot 30 (.c (.own id)) (.c (.own j))):=dY1 jI0 lI0 kT0 z30 (by decide) id j
theorem no30 : bH0 prog look slot [30,30] [.c (.d (.v (.slice none 0 0))),.c (.own j)]=apH 2 32 slot j (look j) (apD prog look slot 30 (.c (.d (.v (.slice none 0 0)))) (.c (.own j))):=dX1 jI0 lI0 kT0 z30 (by decide) j
theorem oo31 : bH0 prog look slot [31,31] [.c (.own id),.c (.own j)]=apG 5 80 slot id j (look id) (look j) (apD prog look slot 31 (.c (.own id)) (.c (.own j))):=dY1 kW0 lH0 nU0 z31 (by decide) id j
theorem no31 : bH0 prog look slot [31,31] [.c (.d (.v (.slice none 0 0))),.c (.own j)]=apH 5 80 slot j (look j) (apD prog look slot 31 (.c (.d (.v (.slice none 0 0)))) (.c (.own j))):=dX1 kW0 lH0 nU0 z31 (by decide) j
end
def coK (rec:Rec)(slot:Nat)(f:FuncId)(pre:List V)(id:Nat)(post:List V)(o:Option O):Option Eff:=
 match o with
 | some (.arr k els)=>stkB (bB0 [] [id] slot (rec (.call f (pre ++ .c (.d (.s k els))::post) [])))
 | _=>none
theorem mJ0 {look:Look}:∀ {pre xs ys:List V}{a:List Nat},pre.all hQ0=true→dW0 look xs=some (ys,a)→dW0 look (pre++xs)=some (pre++ys,a)
 | [],_,_,_,_,h=>h
 | v::pre,xs,ys,a,hp,h=>by
  simp only[List.all_cons,Bool.and_eq_true]at hp
  obtain⟨h1,_,_⟩:=bU0 (look:=look) hp.1
  have:=mJ0 hp.2 h
  simp only[List.cons_append,dW0,h1,this,List.nil_append]
theorem nV0 (rec:Rec)(look:Look)(slot:Nat)(f:FuncId)(pre:List V)(id:Nat)(post:List V)(hf:ownF f=false)(hp:pre.all hQ0=true)(hq:post.all hQ0=true) :
  dD0 rec look slot f (pre ++ .c (.own id)::post)=coK rec slot f pre id post (look id):=by
 obtain⟨h1,h2,h3⟩:=eF0 (look:=look) hp
 obtain⟨k1,k2,k3⟩:=eF0 (look:=look) hq
 unfold dD0 cB0 coK
 have e1:dW0 look (.c (.own id)::post)=match look id with | some (.arr k els)=>some (.c (.d (.s k els))::post,[id]) | _=>none:=by
  simp only[dW0,argV,argC,k1]
  cases look id with
  | none=>rfl
  | some o=>cases o <;> rfl
 rw[hf]
 simp only[eD0]
 cases hl:look id with
 | none=>
  have:dW0 look (pre ++ .c (.own id)::post)=none:=by
   rw[hl]at e1
   clear h1 h2 h3
   induction pre with
   | nil=>exact e1
   | cons v pre ih=>
    simp only[List.all_cons,Bool.and_eq_true]at hp
    simp only[List.cons_append,dW0,(bU0 (look:=look) hp.1).1,ih hp.2]
  rw[this];rfl
 | some o=>
  cases o with
  | arr k els=>
   rw[hl]at e1
   rw[mJ0 hp e1]
   dsimp only
   have e2:(pre++V.c (C.d (D.s k els))::post).flatMap iZ0=[]:=by rw[List.flatMap_append,List.flatMap_cons,h2,k2];rfl
   rw[e2]
   have hr:Am.reach look 200 [] []=[]:=rfl
   have hm:mapO (renV (pos [])) (pre++V.c (C.d (D.s k els))::post)=some (pre++V.c (C.d (D.s k els))::post):=(eF0 (look:=look) (by rw[List.all_append,List.all_cons,hp,hq];rfl)).2.2 _
   rw[hr,hm]
   have h1:mapO look []=some ([]:List O):=rfl
   exact kL0 (by
     intro i hi;have:i=id:=by simpa using hi
     rw[this,hl];rfl)
  | box _ | raw _ | gone | hole | stk _ _ _ _=>
   rw[hl]at e1
   have:dW0 look (pre ++ .c (.own id)::post)=none:=by
    clear h1 h2 h3
    induction pre with
    | nil=>exact e1
    | cons v pre ih=>
     simp only[List.all_cons,Bool.and_eq_true]at hp
     simp only[List.cons_append,dW0,(bU0 (look:=look) hp.1).1,ih hp.2]
   rw[this];rfl
theorem kU1 (rec:Rec)(look:Look)(slot:Nat)(f:FuncId)(id:Nat)(hf:ownF f=false):dD0 rec look slot f [.c (.own id)]=coK rec slot f [] id [] (look id):=nV0 rec look slot f [] id [] hf rfl rfl
theorem kV1 (rec:Rec)(look:Look)(slot:Nat)(f:FuncId)(v:V)(id:Nat)(hf:ownF f=false)(hv:hQ0 v=true):dD0 rec look slot f [v,.c (.own id)]=coK rec slot f [v] id [] (look id):=nV0 rec look slot f [v] id [] hf (by simp[hv]) rfl
theorem uB0 (rec:Rec)(look:Look)(slot:Nat)(f:FuncId)(v u w:V)(id:Nat)(hf:ownF f=false)(hv:hQ0 v=true)(hu:hQ0 u=true)(hw:hQ0 w=true):dD0 rec look slot f [v,.c (.own id),u,w]=coK rec slot f [v] id [u,w] (look id):=nV0 rec look slot f [v] id [u,w] hf (by simp[hv]) (by simp[hu,hw])
theorem qW0 (rec:Rec)(slot:Nat)(f:FuncId)(pre:List V)(id:Nat)(post:List V)(k:Nat)(els:List (List D)):coK rec slot f pre id post (some (.arr k els))=stkB (bB0 [] [id] slot (rec (.call f (pre ++ .c (.d (.s k els))::post) []))):=rfl
theorem jY0 {bor:List Nat}{slot:Nat}{v:V}{b:Bool} (h:hQ0 v=true)(hb:cA0 v=b):bB0 [] bor slot (some (.ret [v] []))=some { res:= .val v,upd:=if b=true then [] else aU0 bor,rd:=bor }:=by
 obtain⟨_,_,h3⟩:=bU0 (look:=fun _=>none) h
 simp only[bB0,cK0,mapO,h3,bK0,List.length_nil,Nat.lt_irrefl,if_false,List.all_cons,List.all_nil,Bool.and_true,hb,List.isEmpty_nil]
 cases b <;> rfl
def cwK (rec:Rec)(look:Look)(slot:Nat)(f:FuncId)(id:Nat)(post:List V)(o:Option O):Option Eff:=
 match o with
 | some (.arr k els)=>if uG0 f=true then dD0 rec look slot f (.c (.own id)::post) else stkB (bB0 [id] [] slot (rec (.call f (.c (.own 0)::post) [.arr k els])))
 | _=>dD0 rec look slot f (.c (.own id)::post)
theorem lP0 (rec:Rec)(look:Look)(slot:Nat)(f:FuncId)(id:Nat)(post:List V)(hf:ownF f=true)(hq:post.all hQ0=true):dD0 rec look slot f (.c (.own id)::post)=cwK rec look slot f id post (look id):=by
 cases hl:look id with
 | none=>rfl
 | some o=>
  cases o with
  | arr k els=>
   obtain⟨k1,k2,k3⟩:=eF0 (look:=look) hq
   unfold dD0 cB0 cwK
   rw[hf]
   simp only[eD0]
   have a2:(V.c (C.own id)::post).flatMap iZ0=[id]:=by rw[List.flatMap_cons,k2];rfl
   have a3:Am.reach look 200 [] [id]=[id]:=by
    show(if([]:List Nat).contains id=true then _ else Am.reach look 199 ([]++[id]) ([]++dH1 (look id)))=[id]
    rw[hl]
    rfl
   have a4:mapO (renV (pos [id])) (.c (.own id)::post)=some (.c (.own 0)::post):=by
    have e:renV (pos [id]) (.c (.own id))=some (.c (.own 0)):=by simp[renV,renC,pos]
    simp only[mapO,e,k3]
   have a5:mapO look [id]=some [.arr k els]:=by simp only[mapO,hl]
   have a6:mapO (renO (pos [id])) [.arr k els]=some [.arr k els]:=rfl
   cases hcf:uG0 f with
   | true=>simp[dD0,cB0,hf,eD0]
   | false=>
   have a7:dX0 rec f (.c (.own 0)::post) [.arr k els]=rec (.call f (.c (.own 0)::post) [.arr k els]):=by unfold dX0;rw[hcf];rfl
   have a8:oW0 look [id]=true:=by simp[oW0,bC1,hl,bI0]
   have a9:[O.arr k els].map iB0=[O.arr k els]:=rfl
   simp only[a2,a3,a4,a5,a9,a6,a8]
   refine Eq.trans (b:=eR0 look slot (bB0 [id] [] slot (dX0 rec f (.c (.own 0)::post) [.arr k els]))) (by simp[hN0]) ?_
   rw[a7,if_neg (by decide)]
   exact kL0 (by
     intro i hi;have:i=id:=by simpa using hi
     rw[this,hl];rfl)
  | _=>rfl
theorem wV0 (rec:Rec)(look:Look)(slot:Nat)(f:FuncId)(id:Nat)(post:List V)(k:Nat)(els:List (List D))(hc:uG0 f=false):cwK rec look slot f id post (some (.arr k els))=stkB (bB0 [id] [] slot (rec (.call f (.c (.own 0)::post) [.arr k els]))):=by unfold cwK;dsimp only;rw[if_neg (by rw[hc];decide)]
theorem iM0 (id slot k:Nat)(els:List (List D)):bB0 [id] [] slot (some (.ret [] [.arr k els]))=some ⟨.val (.tup []),[(id,.arr k els)],[id]⟩:=rfl
theorem hO0 (slot k:Nat)(els:List (List D)):bB0 [] [] slot (some (.ret [.c (.own 0)] [.arr k els]))=some ⟨.val (.c (.own slot)),[(slot,.arr k els)],[]⟩:=rfl
end
section
open Go
variable (ext:Ext)
noncomputable def B195 : Code:=(f195.body.getD .skip)
noncomputable def qF1 : Code:=sub B195 [1,1,0,1,0,0]
theorem pG1 : It.code qF1=It.code (sub B195 [1,1,0,1,0,0]):=rfl
noncomputable def qA1 : List It:=[.inBlock 0,.code (sub B195 [1,1,1])]
noncomputable def sQ0 (ext:Ext)(m:Nat)(env:Env)(loc:List O):Option Out:=run prog ext (.k ⟨18,m,[.tmp 2],false⟩ (.code qF1 :: .inLoop qF1::qA1) env loc)
def zLev : Lev:=⟨0,[],true⟩
theorem dO0 : levC zLev=[.d (.v (.int .i64 0)),.d (.v (.slice none 0 0))]:=rfl
theorem rT0 {α:Type}{p:Nat→α→Bool}:∀ {l:List α}{k:Nat},eG0 p k l=none↔∀ (i:Nat) x,l[i]? = some x→p (k+i) x=false
 | [],k=>by simp[eG0]
 | a::l,k=>by
  rw[eG0]
  constructor
  ·intro h i x hx
   split at h
   ·cases h
   ·rename_i hp
    cases i with
    | zero=>simp at hx;subst hx;simpa using hp
    | succ i=>have:=(rT0.1 h) i x (by simpa using hx);rw[← this];congr 1;omega
  ·intro h
   have h0:=h 0 a (by simp)
   rw[if_neg (by simpa using h0)]
   exact rT0.2 fun i x hx=>by have:=h (i+1) x (by simpa using hx);rw[← this];congr 1;omega
theorem oD1 (h120:ext 120=none)(hx:ext 190=none)(hx1:ext 234=none)(hx2:ext 235=none)(x:Lev):run prog ext (.call 120 [levV x] [])=some (.ret [bV x.valid] []):=by
 by_cases h:x.c<0∨x.c>1000∨(x.vs.length:Int)>8
 ·rw[bad120 ext h120 x h]
  have:x.valid=false:=by
   unfold Lev.valid
   rcases h with h | h | h
   ·have:decide (0≤x.c)=false:=decide_eq_false (by omega)
    simp[this]
   ·have:decide (x.c≤1000)=false:=decide_eq_false (by omega)
    simp[this]
   ·have:decide (x.vs.length≤8)=false:=decide_eq_false (by omega)
    simp[this]
  rw[this]
 ·have a1:¬ x.c<0:=fun e=>h (.inl e)
  have a2:¬ x.c>1000:=fun e=>h (.inr (.inl e))
  have a3:¬ (x.vs.length:Int)>8:=fun e=>h (.inr (.inr e))
  refine lW1 ext h120 x _ a1 a2 a3 ?_
  have hd:qP0 ext 0 (E120 x x.vs.length) (O120 x)=some (.ret [bV true] []):=by
   unfold qP0
   simp only[dV,E120,O120,levC,iV,bV]
   (rw[oG0];simp only[B120,sS0,sub,f120,↓reduceIte,zG])
   simp only[zS,zD,aB0,aA0,zT34,zT36,aR0,zT3,Int.lt_irrefl,simprocAttr]
   (refine .trans ?_ rfl;kernel_rfl)
  have:=jK0 x.vs (fun k=>qP0 ext 0 (E120 x k) (O120 x)) (mT0 x.vs) (fun _=>some (.ret [bV false] [])) (some (.ret [bV true] [])) (by omega) (fun k y hk hl=>vF1 ext hx hx1 hx2 x y k hk hl (by omega)) hd
  rw[this]
  have b1:decide (0≤x.c)=true:=decide_eq_true (by omega)
  have b2:decide (x.c≤1000)=true:=decide_eq_true (by omega)
  have b3:decide (x.vs.length≤8)=true:=decide_eq_true (by omega)
  unfold Lev.valid
  rw[b1,b2,b3]
  cases eG0 (mT0 x.vs) 0 x.vs <;> rfl
def mx (a b:Int):Int:=if b>a then b else a
def rP0 (l:List LV):Int:=l.foldl (fun m x=>mx m x.p) (-1)
def E195 (z:Bool)(l:List LV)(m k:Int):Env:=[(3,iV m),(6,dV (listD z 2 (l.map lvD))),(7,iV l.length),(8,iV k)]
theorem lY1 (hx:ext 195=none)(z:Bool)(l:List LV)(out:Option Out)(h:sQ0 ext 0 (E195 z l (-1) 0) []=out):run prog ext (.call 195 [dV (listD z 2 (l.map lvD))] [])=out:=by
 unfold sQ0 at h
 (rw[enT hx func195 rfl];simp only[f195,zR,Nat.zero_le,simprocAttr,zE])
 simp only[dV,E195,iV]at h ⊢
 simp only[zS,zD,aB0,aA0,aQ0,aM0,aJ0,aZ0,aK0,aG0,aN0,aO0,zT34,aR0,zT3,simprocAttr]
 (refine(aC0 ?_).trans h;kernel_rfl)
theorem vH1 (z:Bool)(l:List LV)(x:LV)(m:Int)(k:Nat)(hk:l[k]? = some x)(hl:(k:Int)<l.length)(out:Option Out)(h:sQ0 ext 0 (E195 z l (mx m x.p) (wr ((k:Int)+1))) []=out):sQ0 ext 0 (E195 z l m k) []=out:=by
 have h0:(0:Int)≤k:=by omega
 have hd:listD z 2 (l.map lvD) = .s 2 (l.map lvD):=aP0 h0 (by simpa using hl)
 unfold sQ0 at h ⊢
 simp only[dV,E195,iV,mx,hd]at h ⊢
 (rw[pG1];simp only[B195,qA1,sub,f195,↓reduceIte,zG])
 simp only[zS,zD,aB0,aA0,aQ0,aM0,aJ0,aZ0,aK0,aG0,aN0,aO0,zT34,aR0,zT3,maxA,h0,hl,Int.toNat_natCast,hk,lvD,simprocAttr]
 (refine(aC0 ?_).trans h;kernel_rfl)
theorem uK1 (hx:ext 195=none)(z:Bool)(l:List LV)(hs:l.length<2^62):run prog ext (.call 195 [dV (listD z 2 (l.map lvD))] [])=some (.ret [iV (rP0 l)] []):=by
 refine lY1 ext hx z l _ ?_
 have hd:∀ m,sQ0 ext 0 (E195 z l m l.length) []=some (.ret [iV m] []):=by
  intro m
  unfold sQ0
  simp only[dV,E195,iV]
  (rw[pG1];simp only[B195,qA1,sub,f195,↓reduceIte,zG])
  simp only[zS,zD,aB0,aA0,aQ0,aM0,aJ0,aZ0,aK0,aG0,aN0,aO0,zT34,aR0,zT3,Int.lt_irrefl,simprocAttr]
  (refine .trans ?_ rfl;kernel_rfl)
 have:=cS1 (ρ:=Unit) l (fun k m=>sQ0 ext 0 (E195 z l m k) []) (fun m x=> .inl (mx m x.p)) (fun _=>none) (fun m=>some (.ret [iV m] [])) hs (fun k x m hk hl=>fun out h=>vH1 ext z l x m k hk hl out h) hd (-1)
 rw[this]
 have hf:∀ (l:List LV) (m:Int),gP1 (ρ:=Unit) (fun m x=> .inl (mx m x.p)) m l = .inl (l.foldl (fun m x=>mx m x.p) m):=by
  intro l
  induction l with
  | nil=>intro m;rfl
  | cons a l ih=>intro m;exact ih _
 rw[hf];rfl
theorem z8 : ¬ ((0:Int)>8):=by decide
def dN0 (c:Int)(l:List LV)(z:Bool):Lev × Int:=
 if(if c≤rP0 l then 0 else c)>1000∨rP0 l>1000∨(l.length:Int)>8 then(zLev,2) else(⟨if c≤rP0 l then 0 else c,l,z||l.isEmpty⟩,0)
theorem zQ0 (hx:ext 125=none)(hx1:ext 195=none)(c:Int)(l:List LV)(z:Bool)(hs:l.length<2^62):run prog ext (.call 125 [iV c,dV (listD z 2 (l.map lvD))] [])=some (.ret [levV (dN0 c l z).1,iV (dN0 c l z).2] []):=by
 have hr:=uK1 ext hx1 z l hs
 generalize hm:rP0 l=m at hr
 by_cases h1:c≤m
 ·by_cases h3:m>1000
  ·have e:dN0 c l z=(zLev,2):=by unfold dN0;rw[if_pos (by rw[hm];exact .inr (.inl h3))]
   rw[e]
   (rw[enT hx func125 rfl];simp only[f125,zR,Nat.zero_le,simprocAttr,zE])
   simp only[dV,iV,levV,dO0]at hr ⊢
   simp only[zS,zD,aB0,aA0,aQ0,aM0,aJ0,aZ0,aK0,aG0,aN0,aO0,zT34,zT36,aR0,zT3,hr,h1,h3,simprocAttr]
   (refine .trans ?_ rfl;kernel_rfl)
  by_cases h4:(l.length:Int)>8
  ·have e:dN0 c l z=(zLev,2):=by unfold dN0;rw[if_pos (by rw[hm];exact .inr (.inr h4))]
   rw[e]
   (rw[enT hx func125 rfl];simp only[f125,zR,Nat.zero_le,simprocAttr,zE])
   simp only[dV,iV,levV,dO0]at hr ⊢
   simp only[zS,zD,aB0,aA0,aQ0,aM0,aJ0,aZ0,aK0,aG0,aN0,aO0,zT34,zT36,aR0,zT3,hr,h1,h3,h4,simprocAttr]
   (refine .trans ?_ rfl;kernel_rfl)
  have e:dN0 c l z=(⟨0,l,z||l.isEmpty⟩,0):=by unfold dN0;rw[hm,if_pos h1,if_neg (show ¬ ((0:Int)>1000∨m>1000∨(l.length:Int)>8) by omega)]
  rw[e]
  by_cases h5:(l.length:Int)=0
  ·have hl:l=[]:=List.eq_nil_of_length_eq_zero (by omega)
   subst hl
   (rw[enT hx func125 rfl];simp only[f125,zR,Nat.zero_le,simprocAttr,zE])
   simp only[dV,iV,levV,levC,Lev.d,List.map_nil,List.isEmpty_nil,Bool.or_true]at hr ⊢
   simp only[zS,zD,aB0,aA0,aQ0,aM0,aJ0,aZ0,aK0,aG0,aN0,aO0,zT34,zT36,aR0,zT3,hr,h1,h3,z8,Int.natCast_zero,simprocAttr]
   (refine .trans ?_ rfl;kernel_rfl)
  ·have hne:l.map lvD≠[]:=by intro e;rw[List.map_eq_nil_iff]at e;simp[e]at h5
   (rw[enT hx func125 rfl];simp only[f125,zR,Nat.zero_le,simprocAttr,zE])
   simp only[dV,iV,levV,levC,Lev.d,dY0 hne]at hr ⊢
   simp only[zS,zD,aB0,aA0,aQ0,aM0,aJ0,aZ0,aK0,aG0,aN0,aO0,zT34,zT36,aR0,zT3,hr,h1,h3,h4,h5,simprocAttr]
   (refine .trans ?_ rfl;kernel_rfl)
 ·by_cases h2:c>1000
  ·have e:dN0 c l z=(zLev,2):=by unfold dN0;rw[hm,if_neg h1,if_pos (.inl h2)]
   rw[e]
   (rw[enT hx func125 rfl];simp only[f125,zR,Nat.zero_le,simprocAttr,zE])
   simp only[dV,iV,levV,dO0]at hr ⊢
   simp only[zS,zD,aB0,aA0,aQ0,aM0,aJ0,aZ0,aK0,aG0,aN0,aO0,zT34,zT36,aR0,zT3,hr,h1,h2,simprocAttr]
   (refine .trans ?_ rfl;kernel_rfl)
  by_cases h3:m>1000
  ·exfalso;omega
  by_cases h4:(l.length:Int)>8
  ·have e:dN0 c l z=(zLev,2):=by unfold dN0;rw[if_pos (by rw[hm];exact .inr (.inr h4))]
   rw[e]
   (rw[enT hx func125 rfl];simp only[f125,zR,Nat.zero_le,simprocAttr,zE])
   simp only[dV,iV,levV,dO0]at hr ⊢
   simp only[zS,zD,aB0,aA0,aQ0,aM0,aJ0,aZ0,aK0,aG0,aN0,aO0,zT34,zT36,aR0,zT3,hr,h1,h2,h3,h4,simprocAttr]
   (refine .trans ?_ rfl;kernel_rfl)
  have e:dN0 c l z=(⟨c,l,z||l.isEmpty⟩,0):=by unfold dN0;rw[hm,if_neg h1,if_neg (show ¬ (c>1000∨m>1000∨(l.length:Int)>8) by omega)]
  rw[e]
  by_cases h5:(l.length:Int)=0
  ·have hl:l=[]:=List.eq_nil_of_length_eq_zero (by omega)
   subst hl
   (rw[enT hx func125 rfl];simp only[f125,zR,Nat.zero_le,simprocAttr,zE])
   simp only[dV,iV,levV,levC,Lev.d,List.map_nil,List.isEmpty_nil,Bool.or_true]at hr ⊢
   simp only[zS,zD,aB0,aA0,aQ0,aM0,aJ0,aZ0,aK0,aG0,aN0,aO0,zT34,zT36,aR0,zT3,hr,h1,h2,h3,z8,Int.natCast_zero,simprocAttr]
   (refine .trans ?_ rfl;kernel_rfl)
  ·have hne:l.map lvD≠[]:=by intro e;rw[List.map_eq_nil_iff]at e;simp[e]at h5
   (rw[enT hx func125 rfl];simp only[f125,zR,Nat.zero_le,simprocAttr,zE])
   simp only[dV,iV,levV,levC,Lev.d,dY0 hne]at hr ⊢
   simp only[zS,zD,aB0,aA0,aQ0,aM0,aJ0,aZ0,aK0,aG0,aN0,aO0,zT34,zT36,aR0,zT3,hr,h1,h2,h3,h4,h5,simprocAttr]
   (refine .trans ?_ rfl;kernel_rfl)
end
section
open Go
variable (ext:Ext)
theorem lB0 (x:LV):lvD x=[.v (.int .i64 x.v),.v (.int .i64 x.p)]:=rfl
theorem qE0 (k:Nat)(els:List (List D)):V.c (.d (listD true k els))=match els with | []=>V.c (.d (.v (.slice none 0 0))) | a::r=>V.c (.d (.s k (a::r))):=by cases els <;> rfl
def iD0 (n:Int)(x:LV):LV:=⟨x.v,wr (x.p+n)⟩
end
section
open Go
variable (ext:Ext)
theorem pX0 (slot:Nat)(cs:List C)(x:D)(h:cs.all lW0=true):bB0 [] [] slot (some (.ret [.agg cs,.c (.d x)] []))=some ⟨.val (.tup [(true,cs),(false,[.d x])]),[],[]⟩:=by
 obtain⟨_,_,h3⟩:=eX0 (look:=fun _=>none) h
 simp only[bB0,cK0,mapO,renV,h3,renC,bK0,comp,List.length_nil,Nat.lt_irrefl,if_false]
 split <;> rfl
theorem rU0 {x:Lev} (h:x.valid=true){k:Nat}{y:LV} (hk:x.vs[k]? = some y):okLV y=true:=by
 unfold Lev.valid at h
 simp only[Bool.and_eq_true,Option.isNone_iff_eq_none]at h
 have:=rT0.1 h.2 k y hk
 simp[mT0]at this
 exact this.1
theorem lL0 {x:Lev} (h:x.valid=true):x.vs.length≤8:=by
 unfold Lev.valid at h
 simp only[Bool.and_eq_true,decide_eq_true_eq]at h
 exact h.1.2
theorem zD0 {k:Nat} (h:k<2^62):wr ((k:Int)+1)=((k+1:Nat):Int):=by rw[hK0 (by omega) (by omega)];rfl
end
end Go.Proofs.YteenjodhmppgjaaGreatDoor.Am
