/- A part of the proof of a card. No conditions. -/
import Derived.Test.YteenjodhmppgjaaGreatDoorPa4
set_option linter.all false
set_option maxHeartbeats 16000000
set_option maxRecDepth 10000
namespace Go.Proofs.YteenjodhmppgjaaGreatDoor.Am
open Go.Proofs.Tryz
section
open Go
variable (ext:Ext)
noncomputable def B234 : Code:=(f234.body.getD .skip)
noncomputable def mZ2 : Code:=sub B234 [1,0,1,0,0]
theorem vX1 : It.code mZ2=It.code (sub B234 [1,0,1,0,0]):=rfl
noncomputable def bA2 : List It:=[.inBlock 0,.code (sub B234 [1,1])]
noncomputable def yN0 (ext:Ext)(m:Nat)(env:Env)(loc:List O):Option Out:=run prog ext (.k ⟨19,m,[.tmp 4],false⟩ (.code mZ2 :: .inLoop mZ2::bA2) env loc)
noncomputable def B120 : Code:=(f120.body.getD .skip)
noncomputable def lW2 : Code:=sub B120 [1,1,0,1,0,0]
theorem vH0 : It.code lW2=It.code (sub B120 [1,1,0,1,0,0]):=rfl
noncomputable def cG1 : List It:=[.inBlock 0,.code (sub B120 [1,1,1])]
noncomputable def yJ0 (ext:Ext)(m:Nat)(env:Env)(loc:List O):Option Out:=run prog ext (.k ⟨56,m,[.tmp 2],false⟩ (.code lW2 :: .inLoop lW2::cG1) env loc)
theorem clo235 (hx:ext 235=none)(x:LV)(v:Int):run prog ext (.call 235 [lvV x,.c (.ptr 0 0)] [.box [.d (.v (.int .i64 v))]])=some (.ret [bV (x.v==v)] [.box [.d (.v (.int .i64 v))]]):=by
 (rw[enT hx func235 rfl];simp only[f235,zR,simprocAttr,zE])
 simp only[lvV,lvC,bV]
 simp only[zS,zD,jD0,zT3,simprocAttr]
 (refine .trans ?_ rfl;kernel_rfl)
def E234 (z:Bool)(l:List LV)(k:Int):Env:=[(0,dV (aJ0 z 2 (l.map lvD))),(1,.c (.fn 235 [] [0])),(7,iV l.length),(8,iV k)]
def O234 (v:Int):List O:=[.box [.d (.v (.int .i64 v))]]
theorem dW2 (hx:ext 234=none)(z:Bool)(l:List LV)(v:Int)(out:Option Out)(h:yN0 ext 1 (E234 z l 0) (O234 v)=out):run prog ext (.call 234 [dV (aJ0 z 2 (l.map lvD)),.c (.fn 235 [] [0])] (O234 v))=out:=by
 unfold yN0 at h
 (rw[enT hx func234 rfl];simp only[f234,zR,simprocAttr,zE])
 simp only[dV,E234,O234,iV]at h ⊢
 simp only[zS,zD,hS0,simprocAttr]
 (refine(aA0 ?_).trans h;kernel_rfl)
theorem wB2 (hx:ext 235=none)(z:Bool)(l:List LV)(x:LV)(v:Int)(k:Nat)(hk:l[k]? = some x)(hl:(k:Int)<l.length) :
  ((x.v==v)=true→yN0 ext 1 (E234 z l k) (O234 v)=some (.ret [iV k] (O234 v)))∧((x.v==v)=false→∀ out,yN0 ext 1 (E234 z l (wr ((k:Int)+1))) (O234 v)=out→yN0 ext 1 (E234 z l k) (O234 v)=out):=by
 have h0:(0:Int)≤k:=by omega
 have hd:aJ0 z 2 (l.map lvD) = .s 2 (l.map lvD):=aM0 h0 (by simpa using hl)
 have hr:=clo235 ext hx x v
 have e:=aL0 (rec:=run prog ext) (look:=lk (O234 v)) (slot:=1) (f:=235) (args:=[lvV x,.c (.ptr 0 0)]) (ids:=[0]) (bor:=[]) (e:=⟨.val (bV (x.v==v)),[(0,.box [.d (.v (.int .i64 v))])],[0]⟩) (by kernel_rfl) hr (by kernel_rfl)
 unfold yN0
 refine⟨fun hp=> ?_,fun hp out h=> ?_⟩
 ·rw[hp]at e
  simp only[dV,E234,O234,iV,bV,hd,lvV,lvC]at e ⊢
  (rw[vX1];simp only[B234,bA2,sub,f234,↓reduceIte,zG])
  simp only[zS,zD,hS0,cV0,h0,hl,Int.toNat_natCast,hk,lvD,e,simprocAttr]
  (refine .trans ?_ rfl;kernel_rfl)
 ·rw[hp]at e
  simp only[dV,E234,O234,iV,bV,hd,lvV,lvC]at e h ⊢
  (rw[vX1];simp only[B234,bA2,sub,f234,↓reduceIte,zG])
  simp only[zS,zD,hS0,cV0,h0,hl,Int.toNat_natCast,hk,lvD,e,simprocAttr]
  (refine(aA0 ?_).trans h;kernel_rfl)
theorem pV2 (z:Bool)(l:List LV)(v:Int):yN0 ext 1 (E234 z l l.length) (O234 v)=some (.ret [iV (-1)] (O234 v)):=by
 unfold yN0
 simp only[dV,E234,O234,iV]
 (rw[vX1];simp only[B234,bA2,sub,f234,↓reduceIte,zG])
 simp only[zS,zD,Int.lt_irrefl,simprocAttr]
 (refine .trans ?_ rfl;kernel_rfl)
theorem idx234 (hx:ext 234=none)(hx':ext 235=none)(z:Bool)(l:List LV)(v:Int)(hl:l.length<2^62):run prog ext (.call 234 [dV (aJ0 z 2 (l.map lvD)),.c (.fn 235 [] [0])] (O234 v))=some (.ret [iV (idxI (fun x=>x.v==v) l)] (O234 v)):=by
 refine dW2 ext hx z l v _ ?_
 have:=bS0 l (fun k=>yN0 ext 1 (E234 z l k) (O234 v)) (fun x=>x.v==v) (fun k=>some (.ret [iV k] (O234 v))) (some (.ret [iV (-1)] (O234 v))) hl (fun k x hk hkl=>wB2 ext hx' z l x v k hk hkl) (pV2 ext z l v)
 rw[this]
 unfold idxI
 cases l.findIdx? (fun x=>x.v==v) <;> rfl
theorem qH2 (hx:ext 190=none)(hx1:ext 234=none)(hx2:ext 235=none)(z:Bool)(l:List LV)(v:Int)(hl:l.length<2^62):run prog ext (.call 190 [dV (aJ0 z 2 (l.map lvD)),iV v] [])=some (.ret [iV (idxI (fun x=>x.v==v) l)] []):=by
 have hr:=idx234 ext hx1 hx2 z l v hl
 have e:=aL0 (rec:=run prog ext) (look:=lk (O234 v)) (slot:=1) (f:=234) (args:=[dV (aJ0 z 2 (l.map lvD)),.c (.fn 235 [] [0])]) (ids:=[0]) (bor:=[]) (e:=⟨.val (iV (idxI (fun x=>x.v==v) l)),[(0,.box [.d (.v (.int .i64 v))])],[0]⟩) (by kernel_rfl) hr (by kernel_rfl)
 (rw[enT hx func190 rfl];simp only[f190,zR,simprocAttr,zE])
 simp only[dV,O234,iV]at e ⊢
 simp only[zS,zD,cE0,e,simprocAttr]
 (refine .trans ?_ rfl;kernel_rfl)
def E120 (x:Lev)(k:Int):Env:=[(1,.c (.ptr 0 0)),(20,dV x.d),(21,iV x.vs.length),(22,iV k)]
def O120 (x:Lev):List O:=[.box (levC x)]
theorem dK2 (hx:ext 120=none)(x:Lev)(out:Option Out)(h1:¬ x.c<0)(h2:¬ x.c>1000)(h3:¬ (x.vs.length:Int)>8)(h:yJ0 ext 0 (E120 x 0) (O120 x)=out):run prog ext (.call 120 [levV x] [])=out:=by
 unfold yJ0 at h
 (rw[enT hx func120 rfl];simp only[f120,zR,simprocAttr,zE])
 simp only[levV,E120,O120,levC,Lev.d,dV,iV]at h ⊢
 simp only[zS,zD,zT36,zT34,zT3,h1,h2,h3,simprocAttr]
 (refine(aA0 ?_).trans h;kernel_rfl)
theorem bad120 (hx:ext 120=none)(x:Lev)(h:x.c<0∨x.c>1000∨(x.vs.length:Int)>8):run prog ext (.call 120 [levV x] [])=some (.ret [bV false] []):=by
 by_cases h1:x.c<0
 ·(rw[enT hx func120 rfl];simp only[f120,zR,simprocAttr,zE])
  simp only[levV,levC,Lev.d]
  simp only[zS,zD,eK0,zT3,h1,simprocAttr]
  (refine .trans ?_ rfl;kernel_rfl)
 by_cases h2:x.c>1000
 ·(rw[enT hx func120 rfl];simp only[f120,zR,simprocAttr,zE])
  simp only[levV,levC,Lev.d]
  simp only[zS,zD,eK0,zT3,h1,h2,simprocAttr]
  (refine .trans ?_ rfl;kernel_rfl)
 have h3:(x.vs.length:Int)>8:=by omega
 (rw[enT hx func120 rfl];simp only[f120,zR,simprocAttr,zE])
 simp only[levV,levC,Lev.d]
 simp only[zS,zD,zT36,zT34,zT3,h1,h2,h3,simprocAttr]
 (refine .trans ?_ rfl;kernel_rfl)
def okLV (x:LV):Bool:=decide (0≤x.v)&&decide (x.v<1200)&&decide (0≤x.p)&&decide (x.p≤1000)
def jY0 (l:List LV)(k:Nat)(x:LV):Bool:= !okLV x||(l.take k).any fun y=>y.v==x.v
def Lev.valid (x:Lev):Bool:=decide (0≤x.c)&&decide (x.c≤1000)&&decide (x.vs.length≤8)&&(cD0 (jY0 x.vs) 0 x.vs).isNone
theorem eJ2 (hx:ext 190=none)(hx1:ext 234=none)(hx2:ext 235=none)(l:List LV)(v:Int)(hl:l.length<2^62):run prog ext (.call 190 [dV (.s 2 (l.map lvD)),iV v] [])=some (.ret [iV (idxI (fun x=>x.v==v) l)] []):=by
 have:=qH2 ext hx hx1 hx2 false l v hl
 rwa[oM0]at this
theorem vN2 (hx:ext 190=none)(hx1:ext 234=none)(hx2:ext 235=none)(x:Lev)(y:LV)(k:Nat)(hk:x.vs[k]? = some y)(hl:(k:Int)<x.vs.length)(hs:x.vs.length<2^62) :
  (jY0 x.vs k y=true→yJ0 ext 0 (E120 x k) (O120 x)=some (.ret [bV false] []))∧(jY0 x.vs k y=false→∀ out,yJ0 ext 0 (E120 x (wr ((k:Int)+1))) (O120 x)=out→yJ0 ext 0 (E120 x k) (O120 x)=out):=by
 have h0:(0:Int)≤k:=by omega
 have hkl:(k:Int)≤x.vs.length:=by omega
 have hd:aJ0 x.z 2 (x.vs.map lvD) = .s 2 (x.vs.map lvD):=aM0 h0 (by simpa using hl)
 have hr:=eJ2 ext hx hx1 hx2 (x.vs.take k) y.v (by simp;omega)
 have hi:=rS2 (fun z=>z.v==y.v) (x.vs.take k)
 rw[List.map_take]at hr
 unfold yJ0
 generalize hI:idxI (fun z=>z.v==y.v) (x.vs.take k)=i at hr hi
 by_cases a1:y.v<0
 ·refine⟨fun hp=> ?_,fun hp out h=> ?_⟩
  ·simp only[dV,E120,O120,levC,Lev.d,iV,bV,hd]at hr ⊢
   (rw[vH0];simp only[B120,cG1,sub,f120,↓reduceIte,zG])
   simp only[zS,zD,dB0,cV0,zT3,aK0,aC0,aD0,Array.size,List.length,h0,hl,Int.toNat_natCast,hk,lvD,a1,simprocAttr]
   rw[aB0 _ _ _ _ (by kernel_rfl)]
   simp only[zS,zD,simprocAttr]
   (refine .trans ?_ rfl;kernel_rfl)
  ·exfalso
   simp[jY0,okLV]at hp;omega
 by_cases a2:y.v≥1200
 ·refine⟨fun hp=> ?_,fun hp out h=> ?_⟩
  ·simp only[dV,E120,O120,levC,Lev.d,iV,bV,hd]at hr ⊢
   (rw[vH0];simp only[B120,cG1,sub,f120,↓reduceIte,zG])
   simp only[zS,zD,dB0,cV0,zT3,aK0,aC0,aD0,Array.size,List.length,h0,hl,Int.toNat_natCast,hk,lvD,a1,a2,simprocAttr]
   rw[aB0 _ _ _ _ (by kernel_rfl)]
   simp only[zS,zD,simprocAttr]
   (refine .trans ?_ rfl;kernel_rfl)
  ·exfalso
   simp[jY0,okLV]at hp;omega
 by_cases a3:y.p<0
 ·refine⟨fun hp=> ?_,fun hp out h=> ?_⟩
  ·simp only[dV,E120,O120,levC,Lev.d,iV,bV,hd]at hr ⊢
   (rw[vH0];simp only[B120,cG1,sub,f120,↓reduceIte,zG])
   simp only[zS,zD,dB0,cV0,zT3,aK0,aC0,aD0,Array.size,List.length,h0,hl,Int.toNat_natCast,hk,lvD,a1,a2,a3,simprocAttr]
   rw[aB0 _ _ _ _ (by kernel_rfl)]
   simp only[zS,zD,simprocAttr]
   (refine .trans ?_ rfl;kernel_rfl)
  ·exfalso
   simp[jY0,okLV]at hp;omega
 by_cases a4:y.p>1000
 ·refine⟨fun hp=> ?_,fun hp out h=> ?_⟩
  ·simp only[dV,E120,O120,levC,Lev.d,iV,bV,hd]at hr ⊢
   (rw[vH0];simp only[B120,cG1,sub,f120,↓reduceIte,zG])
   simp only[zS,zD,dB0,cV0,zT3,aK0,aC0,aD0,Array.size,List.length,h0,hl,Int.toNat_natCast,hk,lvD,a1,a2,a3,a4,simprocAttr]
   rw[aB0 _ _ _ _ (by kernel_rfl)]
   simp only[zS,zD,simprocAttr]
   (refine .trans ?_ rfl;kernel_rfl)
  ·exfalso
   simp[jY0,okLV]at hp;omega
 have hok:okLV y=true:=by simp[okLV];omega
 by_cases a5:i≥0
 ·refine⟨fun hp=> ?_,fun hp out h=> ?_⟩
  ·simp only[dV,E120,O120,levC,Lev.d,iV,bV,hd]at hr ⊢
   (rw[vH0];simp only[B120,cG1,sub,f120,↓reduceIte,zG])
   simp only[zS,zD,zT34,bF0,cV0,zT3,aK0,aC0,aD0,Array.size,List.length,oE0,lP0,h0,hl,hkl,Int.toNat_natCast,hk,lvD,a1,a2,a3,a4,a5,hr,simprocAttr]
   rw[aB0 _ _ _ _ (by kernel_rfl)]
   simp only[zS,zD,simprocAttr]
   (refine .trans ?_ rfl;kernel_rfl)
  ·exfalso
   rw[jY0,hok,← hi]at hp
   simp[a5]at hp
 ·refine⟨fun hp=> ?_,fun hp out h=> ?_⟩
  ·exfalso
   rw[jY0,hok,← hi]at hp
   simp[a5]at hp
  ·simp only[dV,E120,O120,levC,Lev.d,iV,hd]at hr h ⊢
   (rw[vH0];simp only[B120,cG1,sub,f120,↓reduceIte,zG])
   simp only[zS,zD,zT34,bF0,cV0,zT3,aK0,aC0,aD0,Array.size,List.length,oE0,lP0,h0,hl,hkl,Int.toNat_natCast,hk,lvD,a1,a2,a3,a4,a5,hr,simprocAttr]
   rw[aB0 _ _ _ _ (by kernel_rfl)]
   simp only[zS,zD,simprocAttr]
   (refine(aA0 ?_).trans h;kernel_rfl)
end
section
open Go
theorem cZ1 {P:Program}{look:Look}{slot:Nat}{t e:TypeId}{k:Nat}{v:V}{cs:List C}{ds:List D}{own:List Nat} (h1:jJ0 P t=some e)(h2:cT0 P e=some k)(h3:(dT0 P e).isSome=true)(h4:cells v=some cs)(h5:toDs look cs=some (ds,own))(h6:ds.length=k)(h7:0<k)(h8:k≤100) :
  aV0 P look slot t 1 [(0,v)]=some ⟨.val (.c (.own slot)),bE0 own++[(slot,.arr k [ds])],own⟩:=by
 simp only[aV0,h1,h2,List.map_cons,List.map_nil,kN0,h4,h5,List.append_nil,List.zip_cons_cons,List.zip_nil_right,rE0]
 rw[if_pos]
 refine⟨rfl,h7,by omega,?_,h3⟩
 simp[h6]
def mkV (i:Nat)(els:List (List D)):V:=match els with | []=> .c (.d (.v (.slice none 0 0))) | _::_=> .c (.own i)
def mkO (k:Nat)(els:List (List D)):List O:=match els with | []=>[] | a::r=>[.arr k (a::r)]
theorem cF0 (i:Nat):mkV i [] = .c (.d (.v (.slice none 0 0))):=rfl
theorem cA0 (i:Nat)(a:List D)(r:List (List D)):mkV i (a::r) = .c (.own i):=rfl
theorem cR0 (k:Nat):mkO k []=[]:=rfl
theorem bZ0 (k:Nat)(a:List D)(r:List (List D)):mkO k (a::r)=[.arr k (a::r)]:=rfl
theorem iC0 (i:Nat)(els:List (List D))(x:List D):mkV i (els++[x]) = .c (.own i):=by cases els <;> rfl
theorem iB0 (k:Nat)(els:List (List D))(x:List D):mkO k (els++[x])=[.arr k (els++[x])]:=by cases els <;> rfl
theorem z34 : (dT0 prog 110).map List.length=some 2:=by rw[wN0];rfl
theorem z30 : (dT0 prog 36).map List.length=some 2:=by rw[nU1];rfl
theorem z31 : (dT0 prog 33).map List.length=some 5:=by rw[bL1];rfl
theorem i34 : (dT0 prog 110).isSome=true:=by rw[wN0];rfl
theorem i31 : (dT0 prog 33).isSome=true:=by rw[bL1];rfl
theorem bsLV {look:Look}{slot:Nat}{a b:Int}:aV0 prog look slot 34 1 [(0,.agg [.d (.v (.int .i64 a)),.d (.v (.int .i64 b))])]=some ⟨.val (.c (.own slot)),[(slot,.arr 2 [[.v (.int .i64 a),.v (.int .i64 b)]])],[]⟩:=
 cZ1 (cs:=[.d (.v (.int .i64 a)),.d (.v (.int .i64 b))]) nH0 iY0 i34 rfl rfl rfl (by decide) (by decide)
def apD (P:Program)(look:Look)(slot:Nat)(t:TypeId)(x y:V):Option Eff:=bI0 P look slot [t,t] [x,y]
def apG (k b slot id j:Nat)(o1 o2:Option O)(d:Option Eff):Option Eff:=
 match o2 with
 | some (.arr k2 new)=>if k2=k then match o1 with
  | some (.arr k1 els)=>if k1=k∧(els.length+new.length)*b≤140737488355328∧els.length+new.length≤9223372036854775807∧[j].contains id=false then some ⟨.val (.c (.own slot)),bE0 [j]++[(id,.gone),(slot,.arr k (els++new))],[j]++[id]⟩ else none
  | _=>d
  else none
 | _=>d
def apH (k b slot j:Nat)(o2:Option O)(d:Option Eff):Option Eff:=
 match o2 with
 | some (.arr k2 new)=>if k2=k then match new with
  | []=>some ⟨.val (.c (.d (.v (.slice none 0 0)))),[],[j]⟩
  | _::_=>if new.length*b≤140737488355328∧new.length≤9223372036854775807 then some ⟨.val (.c (.own slot)),bE0 [j]++[(slot,.arr k new)],[j]⟩ else none
  else none
 | _=>d
def apI (k b slot id:Nat)(new:List (List D))(o1:Option O)(d:Option Eff):Option Eff:=
 match o1 with
 | some (.arr k1 els)=>if k1=k∧(els.length+new.length)*b≤140737488355328∧els.length+new.length≤9223372036854775807∧([]:List Nat).contains id=false then some ⟨.val (.c (.own slot)),bE0 []++[(id,.gone),(slot,.arr k (els++new))],[]++[id]⟩ else none
 | _=>d
section
variable {P:Program}{look:Look}{slot:Nat}{t e:TypeId}{k b:Nat} (h1:jJ0 P t=some e) (h2:cT0 P e=some k) (h3:eJ0 P e=some b) (h4:(dT0 P e).map List.length=some k) (h5:0<k)
include h1 h2 h3 h4 h5
theorem cN1 (id j:Nat):bI0 P look slot [t,t] [.c (.own id),.c (.own j)]=apG k b slot id j (look id) (look j) (apD P look slot t (.c (.own id)) (.c (.own j))):=by
 unfold apG apD
 cases hj:look j with
 | none=>rfl
 | some o=>
  cases o with
  | arr k2 new=>
   dsimp only
   by_cases hk:k2=k
   ·rw[if_pos hk]
    cases hi:look id with
    | none=>rfl
    | some o=>
     cases o with
     | arr k1 els=>simp only[bI0,h1,h2,h3,h4,h5,eT0,gM0,bK0,hj,hi,hk,ne_eq,not_true_eq_false,if_false,and_self,if_true,List.append_nil,Bool.false_eq_true]
     | _=>rfl
   ·rw[if_neg hk]
    simp only[bI0,h1,h2,h3,h4,h5,eT0,hj,if_neg hk,ne_eq,not_true_eq_false,if_false,and_self,if_true]
  | _=>rfl
theorem cM1 (j:Nat):bI0 P look slot [t,t] [.c (.d (.v (.slice none 0 0))),.c (.own j)]=apH k b slot j (look j) (apD P look slot t (.c (.d (.v (.slice none 0 0)))) (.c (.own j))):=by
 unfold apH apD
 cases hj:look j with
 | none=>rfl
 | some o=>
  cases o with
  | arr k2 new=>
   dsimp only
   by_cases hk:k2=k
   ·rw[if_pos hk]
    cases new <;> simp only[bI0,h1,h2,h3,h4,h5,eT0,gM0,bK0,hj,hk,ne_eq,not_true_eq_false,if_false,and_self,if_true,List.append_nil,Bool.false_eq_true]
   ·rw[if_neg hk]
    simp only[bI0,h1,h2,h3,h4,h5,eT0,hj,if_neg hk,ne_eq,not_true_eq_false,if_false,and_self,if_true]
  | _=>rfl
theorem kP1 (id:Nat)(new:List (List D)):bI0 P look slot [t,t] [.c (.own id),.c (.d (.s k new))]=apI k b slot id new (look id) (apD P look slot t (.c (.own id)) (.c (.d (.s k new)))):=by
 unfold apI apD
 cases hi:look id with
 | none=>rfl
 | some o=>
  cases o with
  | arr k1 els=>simp only[bI0,h1,h2,h3,h4,h5,eT0,gM0,hi,ne_eq,not_true_eq_false,if_false,and_self,if_true,true_or,List.append_nil]
  | _=>rfl
theorem app_on (id:Nat):bI0 P look slot [t,t] [.c (.own id),.c (.d (.v (.slice none 0 0)))]=apI k b slot id [] (look id) (apD P look slot t (.c (.own id)) (.c (.d (.v (.slice none 0 0))))):=by
 unfold apI apD
 cases hi:look id with
 | none=>rfl
 | some o=>
  cases o with
  | arr k1 els=>simp only[bI0,h1,h2,h3,h4,h5,eT0,gM0,hi,ne_eq,not_true_eq_false,if_false,and_self,if_true,List.append_nil]
  | _=>rfl
theorem app_nn : bI0 P look slot [t,t] [.c (.d (.v (.slice none 0 0))),.c (.d (.v (.slice none 0 0)))]=some ⟨.val (.c (.d (.v (.slice none 0 0)))),[],[]⟩:=by
 simp only[bI0,h1,h2,h3,h4,h5,eT0,ne_eq,not_true_eq_false,if_false,and_self,if_true]
 rfl
theorem app_ns {x:List D}{new:List (List D)} (hn:new.length<1000000000)(hb:b≤1000):bI0 P look slot [t,t] [.c (.d (.v (.slice none 0 0))),.c (.d (.s k (x::new)))]=some ⟨.val (.c (.own slot)),[(slot,.arr k (x::new))],[]⟩:=
 by
  have h6:(new.length+1)*b≤140737488355328:=Nat.le_trans (Nat.mul_le_mul (by omega:new.length+1≤1000000000) hb) (by decide)
  have h7:new.length+1≤9223372036854775807:=by omega
  simp only[bI0,h1,h2,h3,h4,h5,eT0,ne_eq,not_true_eq_false,if_false,and_self,if_true,true_or]
  rw[if_pos ⟨h6,h7⟩]
  rfl
end
theorem dP0 {d:Option Eff}{k b slot id j:Nat}{els new:List (List D)} (h6:els.length≤1000000000)(h7:new.length≤1000000000)(hne:¬ j=id)(hb:b≤1000):apG k b slot id j (some (.arr k els)) (some (.arr k new)) d=some ⟨.val (.c (.own slot)),[(j,.gone),(id,.gone),(slot,.arr k (els++new))],[j,id]⟩:=by
 have hc:([j].contains id)=false:=by simp;exact fun e=>hne e.symm
 unfold apG
 dsimp only
 rw[if_pos rfl,if_pos ⟨rfl,Nat.le_trans (Nat.mul_le_mul (Nat.add_le_add h6 h7) hb) (by decide),by omega,hc⟩]
 rfl
theorem dL0 {d:Option Eff}{k b slot j:Nat}{x:List D}{new:List (List D)} (h7:new.length≤1000000000)(hb:b≤1000):apH k b slot j (some (.arr k (x::new))) d=some ⟨.val (.c (.own slot)),[(j,.gone),(slot,.arr k (x::new))],[j]⟩:=by
 unfold apH
 dsimp only
 rw[if_pos rfl,if_pos ⟨Nat.le_trans (Nat.mul_le_mul (Nat.le_refl _) hb) (by simp only[List.length_cons];omega),by simp only[List.length_cons];omega⟩]
 rfl
theorem uO0 {d:Option Eff}{k b slot id:Nat}{els new:List (List D)} (h6:els.length≤1000000000)(h7:new.length≤1000000000)(hb:b≤1000):apI k b slot id new (some (.arr k els)) d=some ⟨.val (.c (.own slot)),[(id,.gone),(slot,.arr k (els++new))],[id]⟩:=by
 unfold apI
 dsimp only
 rw[if_pos ⟨rfl,Nat.le_trans (Nat.mul_le_mul (Nat.add_le_add h6 h7) hb) (by decide),by omega,rfl⟩]
 rfl
section
variable (look:Look) (slot id j:Nat) (new:List (List D))
theorem oo34 : bI0 prog look slot [34,34] [.c (.own id),.c (.own j)]=apG 2 16 slot id j (look id) (look j) (apD prog look slot 34 (.c (.own id)) (.c (.own j))):=cN1 nH0 iY0 kA0 z34 (by decide) id j
theorem no34 : bI0 prog look slot [34,34] [.c (.d (.v (.slice none 0 0))),.c (.own j)]=apH 2 16 slot j (look j) (apD prog look slot 34 (.c (.d (.v (.slice none 0 0)))) (.c (.own j))):=cM1 nH0 iY0 kA0 z34 (by decide) j
theorem os34 : bI0 prog look slot [34,34] [.c (.own id),.c (.d (.s 2 new))]=apI 2 16 slot id new (look id) (apD prog look slot 34 (.c (.own id)) (.c (.d (.s 2 new)))):=kP1 nH0 iY0 kA0 z34 (by decide) id new
theorem bs0 : aV0 prog look slot 144 0 []=some ⟨.val (.c (.own slot)),[(slot,.arr 2 [])],[]⟩:=by
 simp only[aV0,dO1,iY0,List.map_nil,kN0]
 rw[if_pos]
 ·rfl
 ·exact⟨rfl,by decide,by decide,rfl,i34⟩
theorem os144 : bI0 prog look slot [144,144] [.c (.own id),.c (.d (.s 2 new))]=apI 2 16 slot id new (look id) (apD prog look slot 144 (.c (.own id)) (.c (.d (.s 2 new)))):=kP1 dO1 iY0 kA0 z34 (by decide) id new
theorem oo31 : bI0 prog look slot [31,31] [.c (.own id),.c (.own j)]=apG 5 80 slot id j (look id) (look j) (apD prog look slot 31 (.c (.own id)) (.c (.own j))):=cN1 nG0 hG0 uV0 z31 (by decide) id j
theorem no31 : bI0 prog look slot [31,31] [.c (.d (.v (.slice none 0 0))),.c (.own j)]=apH 5 80 slot j (look j) (apD prog look slot 31 (.c (.d (.v (.slice none 0 0)))) (.c (.own j))):=cM1 nG0 hG0 uV0 z31 (by decide) j
end
def coK (rec:Rec)(slot:Nat)(f:FuncId)(pre:List V)(id:Nat)(post:List V)(o:Option O):Option Eff:=
 match o with
 | some (.arr k els)=>stkB (aY0 [] [id] slot (rec (.call f (pre ++ .c (.d (.s k els))::post) [])))
 | _=>none
theorem rR0 {look:Look}:∀ {pre xs ys:List V}{a:List Nat},pre.all gA0=true→gO0 look xs=some (ys,a)→gO0 look (pre++xs)=some (pre++ys,a)
 | [],_,_,_,_,h=>h
 | v::pre,xs,ys,a,hp,h=>by
  simp only[List.all_cons,Bool.and_eq_true]at hp
  obtain⟨h1,_,_⟩:=bR0 (look:=look) hp.1
  have:=rR0 hp.2 h
  simp only[List.cons_append,gO0,h1,this,List.nil_append]
theorem dC1 (rec:Rec)(look:Look)(slot:Nat)(f:FuncId)(pre:List V)(id:Nat)(post:List V)(hf:ownF f=false)(hp:pre.all gA0=true)(hq:post.all gA0=true) :
  cH0 rec look slot f (pre ++ .c (.own id)::post)=coK rec slot f pre id post (look id):=by
 obtain⟨h1,h2,h3⟩:=gG0 (look:=look) hp
 obtain⟨k1,k2,k3⟩:=gG0 (look:=look) hq
 unfold cH0 cI0 coK
 have e1:gO0 look (.c (.own id)::post)=match look id with | some (.arr k els)=>some (.c (.d (.s k els))::post,[id]) | _=>none:=by
  simp only[gO0,argV,argC,k1]
  cases look id with
  | none=>rfl
  | some o=>cases o <;> rfl
 rw[hf]
 simp only[eU0]
 cases hl:look id with
 | none=>
  have:gO0 look (pre ++ .c (.own id)::post)=none:=by
   rw[hl]at e1
   clear h1 h2 h3
   induction pre with
   | nil=>exact e1
   | cons v pre ih=>
    simp only[List.all_cons,Bool.and_eq_true]at hp
    simp only[List.cons_append,gO0,(bR0 (look:=look) hp.1).1,ih hp.2]
  rw[this];rfl
 | some o=>
  cases o with
  | arr k els=>
   rw[hl]at e1
   rw[rR0 hp e1]
   dsimp only
   have e2:(pre++V.c (C.d (D.s k els))::post).flatMap jK0=[]:=by rw[List.flatMap_append,List.flatMap_cons,h2,k2];rfl
   rw[e2]
   have hr:Am.reach look 200 [] []=[]:=rfl
   have hm:mapO (renV (pos [])) (pre++V.c (C.d (D.s k els))::post)=some (pre++V.c (C.d (D.s k els))::post):=(gG0 (look:=look) (by rw[List.all_append,List.all_cons,hp,hq];rfl)).2.2 _
   rw[hr,hm]
   have h1:mapO look []=some ([]:List O):=rfl
   exact oW0 (by
     intro i hi;have:i=id:=by simpa using hi
     rw[this,hl];rfl)
  | box _ | raw _ | gone | hole | stk _ _ _ _=>
   rw[hl]at e1
   have:gO0 look (pre ++ .c (.own id)::post)=none:=by
    clear h1 h2 h3
    induction pre with
    | nil=>exact e1
    | cons v pre ih=>
     simp only[List.all_cons,Bool.and_eq_true]at hp
     simp only[List.cons_append,gO0,(bR0 (look:=look) hp.1).1,ih hp.2]
   rw[this];rfl
theorem cF2 (rec:Rec)(look:Look)(slot:Nat)(f:FuncId)(v:V)(id:Nat)(hf:ownF f=false)(hv:gA0 v=true):cH0 rec look slot f [v,.c (.own id)]=coK rec slot f [v] id [] (look id):=dC1 rec look slot f [v] id [] hf (by simp[hv]) rfl
theorem iC1 (rec:Rec)(slot:Nat)(f:FuncId)(pre:List V)(id:Nat)(post:List V)(k:Nat)(els:List (List D)):coK rec slot f pre id post (some (.arr k els))=stkB (aY0 [] [id] slot (rec (.call f (pre ++ .c (.d (.s k els))::post) []))):=rfl
theorem uX0 {bor:List Nat}{slot:Nat}{v:V}{b:Bool} (h:gA0 v=true)(hb:cS0 v=b):aY0 [] bor slot (some (.ret [v] []))=some { res:= .val v,upd:=if b=true then [] else bE0 bor,rd:=bor }:=by
 obtain⟨_,_,h3⟩:=bR0 (look:=fun _=>none) h
 simp only[aY0,bW0,mapO,h3,aZ0,List.length_nil,Nat.lt_irrefl,if_false,List.all_cons,List.all_nil,Bool.and_true,hb,List.isEmpty_nil]
 cases b <;> rfl
def cwK (rec:Rec)(look:Look)(slot:Nat)(f:FuncId)(id:Nat)(post:List V)(o:Option O):Option Eff:=
 match o with
 | some (.arr k els)=>if gJ0 f=true then cH0 rec look slot f (.c (.own id)::post) else stkB (aY0 [id] [] slot (rec (.call f (.c (.own 0)::post) [.arr k els])))
 | _=>cH0 rec look slot f (.c (.own id)::post)
theorem qW0 (rec:Rec)(look:Look)(slot:Nat)(f:FuncId)(id:Nat)(post:List V)(hf:ownF f=true)(hq:post.all gA0=true):cH0 rec look slot f (.c (.own id)::post)=cwK rec look slot f id post (look id):=by
 cases hl:look id with
 | none=>rfl
 | some o=>
  cases o with
  | arr k els=>
   obtain⟨k1,k2,k3⟩:=gG0 (look:=look) hq
   unfold cH0 cI0 cwK
   rw[hf]
   simp only[eU0]
   have a2:(V.c (C.own id)::post).flatMap jK0=[id]:=by rw[List.flatMap_cons,k2];rfl
   have a3:Am.reach look 200 [] [id]=[id]:=by
    show(if([]:List Nat).contains id=true then _ else Am.reach look 199 ([]++[id]) ([]++sK0 (look id)))=[id]
    rw[hl]
    rfl
   have a4:mapO (renV (pos [id])) (.c (.own id)::post)=some (.c (.own 0)::post):=by
    have e:renV (pos [id]) (.c (.own id))=some (.c (.own 0)):=by simp[renV,renC,pos]
    simp only[mapO,e,k3]
   have a5:mapO look [id]=some [.arr k els]:=by simp only[mapO,hl]
   have a6:mapO (renO (pos [id])) [.arr k els]=some [.arr k els]:=rfl
   cases hcf:gJ0 f with
   | true=>simp[cH0,cI0,hf,eU0]
   | false=>
   have a7:cW0 rec f (.c (.own 0)::post) [.arr k els]=rec (.call f (.c (.own 0)::post) [.arr k els]):=by unfold cW0;rw[hcf];rfl
   have a8:lH0 look [id]=true:=by simp[lH0,rX0,hl,bK0]
   have a9:[O.arr k els].map hV0=[O.arr k els]:=rfl
   simp only[a2,a3,a4,a5,a9,a6,a8]
   refine Eq.trans (b:=cG0 look slot (aY0 [id] [] slot (cW0 rec f (.c (.own 0)::post) [.arr k els]))) (by simp[gY0]) ?_
   rw[a7,if_neg (by decide)]
   exact oW0 (by
     intro i hi;have:i=id:=by simpa using hi
     rw[this,hl];rfl)
  | _=>rfl
theorem iF1 (rec:Rec)(look:Look)(slot:Nat)(f:FuncId)(id:Nat)(post:List V)(k:Nat)(els:List (List D))(hc:gJ0 f=false):cwK rec look slot f id post (some (.arr k els))=stkB (aY0 [id] [] slot (rec (.call f (.c (.own 0)::post) [.arr k els]))):=by unfold cwK;dsimp only;rw[if_neg (by rw[hc];decide)]
theorem lW0 (id slot k:Nat)(els:List (List D)):aY0 [id] [] slot (some (.ret [] [.arr k els]))=some ⟨.val (.tup []),[(id,.arr k els)],[id]⟩:=rfl
theorem kU0 (slot k:Nat)(els:List (List D)):aY0 [] [] slot (some (.ret [.c (.own 0)] [.arr k els]))=some ⟨.val (.c (.own slot)),[(slot,.arr k els)],[]⟩:=rfl
end
section
open Go
variable (ext:Ext)
noncomputable def B126 : Code:=(f126.body.getD .skip)
noncomputable def bG2 : Code:=sub B126 [1,1,0,1,0,0]
theorem vF1 : It.code bG2=It.code (sub B126 [1,1,0,1,0,0]):=rfl
noncomputable def aI2 : List It:=[.inBlock 0,.code (sub B126 [1,1,1])]
noncomputable def oG0 (ext:Ext)(m:Nat)(env:Env)(loc:List O):Option Out:=run prog ext (.k ⟨64,m,[.tmp 2],false⟩ (.code bG2 :: .inLoop bG2::aI2) env loc)
noncomputable def lX2 : Code:=sub B126 [1,1,0,1,0,0,1,0,0,1,1,1,0,0]
theorem vG1 : It.code lX2=It.code (sub B126 [1,1,0,1,0,0,1,0,0,1,1,1,0,0]):=rfl
noncomputable def aJ2 : List It:=[.inBlock 2,.inBlock 1,.code (sub B126 [1,1,0,1,0,0,1,1]),.inLoop bG2,.inBlock 0,.code (sub B126 [1,1,1])]
noncomputable def wR0 (ext:Ext)(m:Nat)(env:Env)(loc:List O):Option Out:=run prog ext (.k ⟨64,m,[.tmp 2],false⟩ (.code lX2 :: .inLoop lX2::aJ2) env loc)
noncomputable def B195 : Code:=(f195.body.getD .skip)
noncomputable def mN2 : Code:=sub B195 [1,1,0,1,0,0]
theorem kA2 : It.code mN2=It.code (sub B195 [1,1,0,1,0,0]):=rfl
noncomputable def lJ2 : List It:=[.inBlock 0,.code (sub B195 [1,1,1])]
noncomputable def cB1 (ext:Ext)(m:Nat)(env:Env)(loc:List O):Option Out:=run prog ext (.k ⟨18,m,[.tmp 2],false⟩ (.code mN2 :: .inLoop mN2::lJ2) env loc)
def zLev : Lev:=⟨0,[],true⟩
theorem rV0 : levC zLev=[.d (.v (.int .i64 0)),.d (.v (.slice none 0 0))]:=rfl
theorem uA0 {α:Type}{p:Nat→α→Bool}:∀ {l:List α}{k:Nat},cD0 p k l=none↔∀ (i:Nat) x,l[i]? = some x→p (k+i) x=false
 | [],k=>by simp[cD0]
 | a::l,k=>by
  rw[cD0]
  constructor
  ·intro h i x hx
   split at h
   ·cases h
   ·rename_i hp
    cases i with
    | zero=>simp at hx;subst hx;simpa using hp
    | succ i=>have:=(uA0.1 h) i x (by simpa using hx);rw[← this];congr 1;omega
  ·intro h
   have h0:=h 0 a (by simp)
   rw[if_neg (by simpa using h0)]
   exact uA0.2 fun i x hx=>by have:=h (i+1) x (by simpa using hx);rw[← this];congr 1;omega
theorem iO2 (h120:ext 120=none)(hx:ext 190=none)(hx1:ext 234=none)(hx2:ext 235=none)(x:Lev):run prog ext (.call 120 [levV x] [])=some (.ret [bV x.valid] []):=by
 by_cases h:x.c<0∨x.c>1000∨(x.vs.length:Int)>8
 ·rw[bad120 ext h120 x h]
  have:x.valid=false:=by
   unfold Lev.valid
   rcases h with h | h | h
   ·have:decide (0≤x.c)=false:=decide_eq_false (by omega)
    simp[this]
   ·have:decide (x.c≤1000)=false:=decide_eq_false (by omega)
    simp[this]
   ·have:decide (x.vs.length≤8)=false:=decide_eq_false (by omega)
    simp[this]
  rw[this]
 ·have a1:¬ x.c<0:=fun e=>h (.inl e)
  have a2:¬ x.c>1000:=fun e=>h (.inr (.inl e))
  have a3:¬ (x.vs.length:Int)>8:=fun e=>h (.inr (.inr e))
  refine dK2 ext h120 x _ a1 a2 a3 ?_
  have hd:yJ0 ext 0 (E120 x x.vs.length) (O120 x)=some (.ret [bV true] []):=by
   unfold yJ0
   simp only[dV,E120,O120,levC,iV,bV]
   (rw[vH0];simp only[B120,cG1,sub,f120,↓reduceIte,zG])
   simp only[zS,zD,Int.lt_irrefl,simprocAttr]
   (refine .trans ?_ rfl;kernel_rfl)
  have:=dJ0 x.vs (fun k=>yJ0 ext 0 (E120 x k) (O120 x)) (jY0 x.vs) (fun _=>some (.ret [bV false] [])) (some (.ret [bV true] [])) (by omega) (fun k y hk hl=>vN2 ext hx hx1 hx2 x y k hk hl (by omega)) hd
  rw[this]
  have b1:decide (0≤x.c)=true:=decide_eq_true (by omega)
  have b2:decide (x.c≤1000)=true:=decide_eq_true (by omega)
  have b3:decide (x.vs.length≤8)=true:=decide_eq_true (by omega)
  unfold Lev.valid
  rw[b1,b2,b3]
  cases cD0 (jY0 x.vs) 0 x.vs <;> rfl
def E126 (k:Int):Env:=[(1,.c (.ptr 0 0)),(3,iV k)]
theorem dL2 (hx:ext 126=none)(x:Lev)(out:Option Out)(h1:¬ x.c<0)(h2:¬ x.c>1000)(h3:¬ (x.vs.length:Int)>8)(h:oG0 ext 0 (E126 0) (O120 x)=out):run prog ext (.call 126 [levV x] [])=out:=by
 unfold oG0 at h
 (rw[enT hx func126 rfl];simp only[f126,zR,simprocAttr,zE])
 simp only[levV,E126,O120,levC,Lev.d,iV]at h ⊢
 simp only[zS,zD,zT36,zT34,zT3,h1,h2,h3,simprocAttr]
 (refine(aA0 ?_).trans h;kernel_rfl)
theorem bad126 (hx:ext 126=none)(x:Lev)(h:x.c<0∨x.c>1000∨(x.vs.length:Int)>8):run prog ext (.call 126 [levV x] [])=some (.ret [bV false] []):=by
 by_cases h1:x.c<0
 ·(rw[enT hx func126 rfl];simp only[f126,zR,simprocAttr,zE])
  simp only[levV,levC,Lev.d]
  simp only[zS,zD,eK0,zT3,h1,simprocAttr]
  (refine .trans ?_ rfl;kernel_rfl)
 by_cases h2:x.c>1000
 ·(rw[enT hx func126 rfl];simp only[f126,zR,simprocAttr,zE])
  simp only[levV,levC,Lev.d]
  simp only[zS,zD,eK0,zT3,h1,h2,simprocAttr]
  (refine .trans ?_ rfl;kernel_rfl)
 have h3:(x.vs.length:Int)>8:=by omega
 (rw[enT hx func126 rfl];simp only[f126,zR,simprocAttr,zE])
 simp only[levV,levC,Lev.d]
 simp only[zS,zD,zT36,zT34,zT3,h1,h2,h3,simprocAttr]
 (refine .trans ?_ rfl;kernel_rfl)
def uH0 (k j:Int):Env:=[(1,.c (.ptr 0 0)),(3,iV k),(4,.c (.ptr 1 0)),(5,iV j)]
def uJ0 (x:Lev)(y:LV):List O:=[.box (levC x),.box (lvC y)]
theorem oF2 (x:Lev)(y:LV)(k:Nat)(hk:x.vs[k]? = some y)(hl:(k:Int)<x.vs.length)(hb:okLV y=false):oG0 ext 0 (E126 k) (O120 x)=some (.ret [bV false] []):=by
 have h0:(0:Int)≤k:=by omega
 have hd:aJ0 x.z 2 (x.vs.map lvD) = .s 2 (x.vs.map lvD):=aM0 h0 (by simpa using hl)
 unfold oG0
 simp only[E126,O120,levC,Lev.d,iV,bV,hd]
 (rw[vF1];simp only[B126,aI2,sub,f126,↓reduceIte,zG])
 by_cases a1:y.v<0
 ·simp only[zS,zD,zT34,bF0,cV0,zT3,h0,hl,Int.toNat_natCast,hk,lvD,a1,simprocAttr]
  (refine .trans ?_ rfl;kernel_rfl)
 by_cases a2:y.v≥1200
 ·simp only[zS,zD,zT34,bF0,cV0,zT3,h0,hl,Int.toNat_natCast,hk,lvD,a1,a2,simprocAttr]
  (refine .trans ?_ rfl;kernel_rfl)
 by_cases a3:y.p<0
 ·simp only[zS,zD,zT34,bF0,cV0,zT3,h0,hl,Int.toNat_natCast,hk,lvD,a1,a2,a3,simprocAttr]
  (refine .trans ?_ rfl;kernel_rfl)
 by_cases a4:y.p>1000
 ·simp only[zS,zD,zT34,bF0,cV0,zT3,h0,hl,Int.toNat_natCast,hk,lvD,a1,a2,a3,a4,simprocAttr]
  (refine .trans ?_ rfl;kernel_rfl)
 simp[okLV]at hb;omega
theorem kR2 (x:Lev)(y:LV)(k:Nat)(hk:x.vs[k]? = some y)(hl:(k:Int)<x.vs.length)(hb:okLV y=true)(out:Option Out)(h:wR0 ext 0 (uH0 k 0) (uJ0 x y)=out):oG0 ext 0 (E126 k) (O120 x)=out:=by
 have h0:(0:Int)≤k:=by omega
 have hd:aJ0 x.z 2 (x.vs.map lvD) = .s 2 (x.vs.map lvD):=aM0 h0 (by simpa using hl)
 simp[okLV]at hb
 have a1:¬ y.v<0:=by omega
 have a2:¬ y.v≥1200:=by omega
 have a3:¬ y.p<0:=by omega
 have a4:¬ y.p>1000:=by omega
 unfold oG0
 unfold wR0 at h
 simp only[E126,uH0,uJ0,O120,levC,lvC,Lev.d,iV,hd]at h ⊢
 (rw[vF1];simp only[B126,aI2,sub,f126,↓reduceIte,zG])
 simp only[zS,zD,zT34,bF0,cV0,zT3,h0,hl,Int.toNat_natCast,hk,lvD,a1,a2,a3,a4,simprocAttr]
 (refine(aA0 ?_).trans h;kernel_rfl)
theorem hY2 (x:Lev)(y w:LV)(k j:Nat)(hj:x.vs[j]? = some w)(hjk:(j:Int)<k)(hl:(j:Int)<x.vs.length) :
  ((w.v==y.v)=true→wR0 ext 0 (uH0 k j) (uJ0 x y)=some (.ret [bV false] []))∧((w.v==y.v)=false→∀ out,wR0 ext 0 (uH0 k (wr ((j:Int)+1))) (uJ0 x y)=out→wR0 ext 0 (uH0 k j) (uJ0 x y)=out):=by
 have h0:(0:Int)≤j:=by omega
 have hd:aJ0 x.z 2 (x.vs.map lvD) = .s 2 (x.vs.map lvD):=aM0 h0 (by simpa using hl)
 unfold wR0
 refine⟨fun hp=> ?_,fun hp out h=> ?_⟩
 ·simp only[uH0,uJ0,levC,lvC,Lev.d,iV,bV,hd]
  (rw[vG1];simp only[B126,aJ2,sub,f126,↓reduceIte,zG])
  simp only[zS,zD,zT34,bF0,cV0,zT3,aK0,aC0,aD0,Array.size,List.length,h0,hl,hjk,Int.toNat_natCast,hj,lvD,hp,simprocAttr]
  rw[aB0 _ _ _ _ (by kernel_rfl)]
  simp only[zS,zD,simprocAttr]
  (refine .trans ?_ rfl;kernel_rfl)
 ·simp only[uH0,uJ0,levC,lvC,Lev.d,iV,hd]at h ⊢
  (rw[vG1];simp only[B126,aJ2,sub,f126,↓reduceIte,zG])
  simp only[zS,zD,zT34,bF0,cV0,zT3,aK0,aC0,aD0,Array.size,List.length,h0,hl,hjk,Int.toNat_natCast,hj,lvD,hp,simprocAttr]
  rw[aB0 _ _ _ _ (by kernel_rfl)]
  simp only[zS,zD,simprocAttr]
  (refine(aA0 ?_).trans h;kernel_rfl)
theorem dB2 (x:Lev)(y:LV)(k:Nat)(out:Option Out)(h:oG0 ext 0 (E126 (wr ((k:Int)+1))) (O120 x)=out):wR0 ext 0 (uH0 k k) (uJ0 x y)=out:=by
 unfold wR0
 unfold oG0 at h
 simp only[E126,uH0,uJ0,O120,levC,lvC,Lev.d,iV]at h ⊢
 (rw[vG1];simp only[B126,aJ2,sub,f126,↓reduceIte,zG])
 simp only[zS,zD,Int.lt_irrefl,simprocAttr]
 (refine(aA0 ?_).trans h;kernel_rfl)
theorem pN2 (x:Lev):oG0 ext 0 (E126 x.vs.length) (O120 x)=some (.ret [bV true] []):=by
 unfold oG0
 simp only[E126,O120,levC,Lev.d,iV,bV]
 (rw[vF1];simp only[B126,aI2,sub,f126,↓reduceIte,zG])
 simp only[zS,zD,zT34,bF0,Int.lt_irrefl,simprocAttr]
 (refine .trans ?_ rfl;kernel_rfl)
theorem vO2 (x:Lev)(y:LV)(k:Nat)(hk:x.vs[k]? = some y)(hl:(k:Int)<x.vs.length)(hs:x.vs.length<2^62) :
  (jY0 x.vs k y=true→oG0 ext 0 (E126 k) (O120 x)=some (.ret [bV false] []))∧(jY0 x.vs k y=false→∀ out,oG0 ext 0 (E126 (wr ((k:Int)+1))) (O120 x)=out→oG0 ext 0 (E126 k) (O120 x)=out):=by
 cases hok:okLV y with
 | false=>exact⟨fun _=>oF2 ext x y k hk hl hok,fun hp=>by simp[jY0,hok]at hp⟩
 | true=>
  have hlen:(x.vs.take k).length=k:=by simp;omega
  have key:∀ out,oG0 ext 0 (E126 (wr ((k:Int)+1))) (O120 x)=out→wR0 ext 0 (uH0 k 0) (uJ0 x y)=match (x.vs.take k).findIdx? (fun w=>w.v==y.v) with | some _=>some (.ret [bV false] []) | none=>out:=by
   intro out h
   refine bS0 (x.vs.take k) (fun j=>wR0 ext 0 (uH0 k j) (uJ0 x y)) (fun w=>w.v==y.v) (fun _=>some (.ret [bV false] [])) out (by omega) (fun j w hj hjl=> ?_) ?_
   ·rw[hlen]at hjl
    have hj':x.vs[j]? = some w:=by rw[List.getElem?_take_of_lt (by omega)]at hj;exact hj
    exact hY2 ext x y w k j hj' hjl (by omega)
   ·rw[hlen];exact dB2 ext x y k out h
  have hany:=vF0 (l:=x.vs.take k) (p:=fun w:LV=>w.v==y.v)
  refine⟨fun hp=> ?_,fun hp out h=> ?_⟩
  ·refine kR2 ext x y k hk hl hok _ ?_
   rw[key _ rfl]
   have:(x.vs.take k).any (fun w=>w.v==y.v)=true:=by simpa [jY0,hok] using hp
   rw[← hany]at this
   cases hf:(x.vs.take k).findIdx? (fun w=>w.v==y.v) with
   | none=>rw[hf]at this;cases this
   | some i=>rfl
  ·refine kR2 ext x y k hk hl hok _ ?_
   rw[key _ h]
   have:(x.vs.take k).any (fun w=>w.v==y.v)=false:=by simpa [jY0,hok] using hp
   rw[← hany]at this
   cases hf:(x.vs.take k).findIdx? (fun w=>w.v==y.v) with
   | none=>rfl
   | some i=>rw[hf]at this;cases this
theorem iP2 (hx:ext 126=none)(x:Lev):run prog ext (.call 126 [levV x] [])=some (.ret [bV x.valid] []):=by
 by_cases h:x.c<0∨x.c>1000∨(x.vs.length:Int)>8
 ·rw[bad126 ext hx x h]
  have:x.valid=false:=by
   unfold Lev.valid
   rcases h with h | h | h
   ·have:decide (0≤x.c)=false:=decide_eq_false (by omega)
    simp[this]
   ·have:decide (x.c≤1000)=false:=decide_eq_false (by omega)
    simp[this]
   ·have:decide (x.vs.length≤8)=false:=decide_eq_false (by omega)
    simp[this]
  rw[this]
 ·have a1:¬ x.c<0:=fun e=>h (.inl e)
  have a2:¬ x.c>1000:=fun e=>h (.inr (.inl e))
  have a3:¬ (x.vs.length:Int)>8:=fun e=>h (.inr (.inr e))
  refine dL2 ext hx x _ a1 a2 a3 ?_
  have:=dJ0 x.vs (fun k=>oG0 ext 0 (E126 k) (O120 x)) (jY0 x.vs) (fun _=>some (.ret [bV false] [])) (some (.ret [bV true] [])) (by omega) (fun k y hk hl=>vO2 ext x y k hk hl (by omega)) (pN2 ext x)
  rw[this]
  have b1:decide (0≤x.c)=true:=decide_eq_true (by omega)
  have b2:decide (x.c≤1000)=true:=decide_eq_true (by omega)
  have b3:decide (x.vs.length≤8)=true:=decide_eq_true (by omega)
  unfold Lev.valid
  rw[b1,b2,b3]
  cases cD0 (jY0 x.vs) 0 x.vs <;> rfl
def mx (a b:Int):Int:=if b>a then b else a
def sJ0 (l:List LV):Int:=l.foldl (fun m x=>mx m x.p) (-1)
def E195 (z:Bool)(l:List LV)(m k:Int):Env:=[(3,iV m),(6,dV (aJ0 z 2 (l.map lvD))),(7,iV l.length),(8,iV k)]
theorem dS2 (hx:ext 195=none)(z:Bool)(l:List LV)(out:Option Out)(h:cB1 ext 0 (E195 z l (-1) 0) []=out):run prog ext (.call 195 [dV (aJ0 z 2 (l.map lvD))] [])=out:=by
 unfold cB1 at h
 (rw[enT hx func195 rfl];simp only[f195,zR,simprocAttr,zE])
 simp only[dV,E195,iV]at h ⊢
 simp only[zS,zD,hS0,simprocAttr]
 (refine(aA0 ?_).trans h;kernel_rfl)
theorem vY2 (z:Bool)(l:List LV)(x:LV)(m:Int)(k:Nat)(hk:l[k]? = some x)(hl:(k:Int)<l.length)(out:Option Out)(h:cB1 ext 0 (E195 z l (mx m x.p) (wr ((k:Int)+1))) []=out):cB1 ext 0 (E195 z l m k) []=out:=by
 have h0:(0:Int)≤k:=by omega
 have hd:aJ0 z 2 (l.map lvD) = .s 2 (l.map lvD):=aM0 h0 (by simpa using hl)
 unfold cB1 at h ⊢
 simp only[dV,E195,iV,mx,hd]at h ⊢
 (rw[kA2];simp only[B195,lJ2,sub,f195,↓reduceIte,zG])
 simp only[zS,zD,hS0,cV0,zT3,maxA,h0,hl,Int.toNat_natCast,hk,lvD,simprocAttr]
 (refine(aA0 ?_).trans h;kernel_rfl)
theorem sN2 (hx:ext 195=none)(z:Bool)(l:List LV)(hs:l.length<2^62):run prog ext (.call 195 [dV (aJ0 z 2 (l.map lvD))] [])=some (.ret [iV (sJ0 l)] []):=by
 refine dS2 ext hx z l _ ?_
 have hd:∀ m,cB1 ext 0 (E195 z l m l.length) []=some (.ret [iV m] []):=by
  intro m
  unfold cB1
  simp only[dV,E195,iV]
  (rw[kA2];simp only[B195,lJ2,sub,f195,↓reduceIte,zG])
  simp only[zS,zD,Int.lt_irrefl,simprocAttr]
  (refine .trans ?_ rfl;kernel_rfl)
 have:=rH0 (ρ:=Unit) l (fun k m=>cB1 ext 0 (E195 z l m k) []) (fun m x=> .inl (mx m x.p)) (fun _=>none) (fun m=>some (.ret [iV m] [])) hs (fun k x m hk hl=>fun out h=>vY2 ext z l x m k hk hl out h) hd (-1)
 rw[this]
 have hf:∀ (l:List LV) (m:Int),eC1 (ρ:=Unit) (fun m x=> .inl (mx m x.p)) m l = .inl (l.foldl (fun m x=>mx m x.p) m):=by
  intro l
  induction l with
  | nil=>intro m;rfl
  | cons a l ih=>intro m;exact ih _
 rw[hf];rfl
theorem z8 : ¬ ((0:Int)>8):=by decide
def eZ0 (c:Int)(l:List LV)(z:Bool):Lev × Int:=
 if(if c≤sJ0 l then 0 else c)>1000∨sJ0 l>1000∨(l.length:Int)>8 then(zLev,2) else(⟨if c≤sJ0 l then 0 else c,l,z||l.isEmpty⟩,0)
theorem cH2 (hx:ext 125=none)(hx1:ext 195=none)(c:Int)(l:List LV)(z:Bool)(hs:l.length<2^62):run prog ext (.call 125 [iV c,dV (aJ0 z 2 (l.map lvD))] [])=some (.ret [levV (eZ0 c l z).1,iV (eZ0 c l z).2] []):=by
 have hr:=sN2 ext hx1 z l hs
 generalize hm:sJ0 l=m at hr
 by_cases h1:c≤m
 ·by_cases h3:m>1000
  ·have e:eZ0 c l z=(zLev,2):=by unfold eZ0;rw[if_pos (by rw[hm];exact .inr (.inl h3))]
   rw[e]
   (rw[enT hx func125 rfl];simp only[f125,zR,simprocAttr,zE])
   simp only[dV,iV,levV,rV0]at hr ⊢
   simp only[zS,zD,zT36,hr,h1,h3,simprocAttr]
   (refine .trans ?_ rfl;kernel_rfl)
  by_cases h4:(l.length:Int)>8
  ·have e:eZ0 c l z=(zLev,2):=by unfold eZ0;rw[if_pos (by rw[hm];exact .inr (.inr h4))]
   rw[e]
   (rw[enT hx func125 rfl];simp only[f125,zR,simprocAttr,zE])
   simp only[dV,iV,levV,rV0]at hr ⊢
   simp only[zS,zD,hS0,zT36,hr,h1,h3,h4,simprocAttr]
   (refine .trans ?_ rfl;kernel_rfl)
  have e:eZ0 c l z=(⟨0,l,z||l.isEmpty⟩,0):=by unfold eZ0;rw[hm,if_pos h1,if_neg (show ¬ ((0:Int)>1000∨m>1000∨(l.length:Int)>8) by omega)]
  rw[e]
  by_cases h5:(l.length:Int)=0
  ·have hl:l=[]:=List.eq_nil_of_length_eq_zero (by omega)
   subst hl
   (rw[enT hx func125 rfl];simp only[f125,zR,simprocAttr,zE])
   simp only[dV,iV,levV,levC,Lev.d,List.map_nil,List.isEmpty_nil,Bool.or_true]at hr ⊢
   simp only[zS,zD,hS0,zT36,hr,h1,h3,z8,Int.natCast_zero,simprocAttr]
   (refine .trans ?_ rfl;kernel_rfl)
  ·have hne:l.map lvD≠[]:=by intro e;rw[List.map_eq_nil_iff]at e;simp[e]at h5
   (rw[enT hx func125 rfl];simp only[f125,zR,simprocAttr,zE])
   simp only[dV,iV,levV,levC,Lev.d,dV0 hne]at hr ⊢
   simp only[zS,zD,hS0,zT36,hr,h1,h3,h4,h5,simprocAttr]
   (refine .trans ?_ rfl;kernel_rfl)
 ·by_cases h2:c>1000
  ·have e:eZ0 c l z=(zLev,2):=by unfold eZ0;rw[hm,if_neg h1,if_pos (.inl h2)]
   rw[e]
   (rw[enT hx func125 rfl];simp only[f125,zR,simprocAttr,zE])
   simp only[dV,iV,levV,rV0]at hr ⊢
   simp only[zS,zD,zT36,hr,h1,h2,simprocAttr]
   (refine .trans ?_ rfl;kernel_rfl)
  by_cases h3:m>1000
  ·exfalso;omega
  by_cases h4:(l.length:Int)>8
  ·have e:eZ0 c l z=(zLev,2):=by unfold eZ0;rw[if_pos (by rw[hm];exact .inr (.inr h4))]
   rw[e]
   (rw[enT hx func125 rfl];simp only[f125,zR,simprocAttr,zE])
   simp only[dV,iV,levV,rV0]at hr ⊢
   simp only[zS,zD,hS0,zT36,hr,h1,h2,h3,h4,simprocAttr]
   (refine .trans ?_ rfl;kernel_rfl)
  have e:eZ0 c l z=(⟨c,l,z||l.isEmpty⟩,0):=by unfold eZ0;rw[hm,if_neg h1,if_neg (show ¬ (c>1000∨m>1000∨(l.length:Int)>8) by omega)]
  rw[e]
  by_cases h5:(l.length:Int)=0
  ·have hl:l=[]:=List.eq_nil_of_length_eq_zero (by omega)
   subst hl
   (rw[enT hx func125 rfl];simp only[f125,zR,simprocAttr,zE])
   simp only[dV,iV,levV,levC,Lev.d,List.map_nil,List.isEmpty_nil,Bool.or_true]at hr ⊢
   simp only[zS,zD,hS0,zT36,hr,h1,h2,h3,z8,Int.natCast_zero,simprocAttr]
   (refine .trans ?_ rfl;kernel_rfl)
  ·have hne:l.map lvD≠[]:=by intro e;rw[List.map_eq_nil_iff]at e;simp[e]at h5
   (rw[enT hx func125 rfl];simp only[f125,zR,simprocAttr,zE])
   simp only[dV,iV,levV,levC,Lev.d,dV0 hne]at hr ⊢
   simp only[zS,zD,hS0,zT36,hr,h1,h2,h3,h4,h5,simprocAttr]
   (refine .trans ?_ rfl;kernel_rfl)
end
section
open Go
variable (ext:Ext)
noncomputable def B128 : Code:=(f128.body.getD .skip)
noncomputable def lY2 : Code:=sub B128 [1,1,0,1,0,0]
theorem vH1 : It.code lY2=It.code (sub B128 [1,1,0,1,0,0]):=rfl
noncomputable def aK2 : List It:=[.inBlock 0,.code (sub B128 [1,1,1])]
noncomputable def yK0 (ext:Ext)(m:Nat)(env:Env)(loc:List O):Option Out:=run prog ext (.k ⟨31,m,[.cell 2 36,.tmp 3],false⟩ (.code lY2 :: .inLoop lY2::aK2) env loc)
noncomputable def B196 : Code:=(f196.body.getD .skip)
noncomputable def mO2 : Code:=sub B196 [1,1,1,0,1,0,0]
theorem kD0 : It.code mO2=It.code (sub B196 [1,1,1,0,1,0,0]):=rfl
noncomputable def oY0 : List It:=[.inBlock 0,.code (sub B196 [1,1,1,1])]
noncomputable def cC1 (ext:Ext)(m:Nat)(env:Env)(loc:List O):Option Out:=run prog ext (.k ⟨54,m,[.tmp 4],false⟩ (.code mO2 :: .inLoop mO2::oY0) env loc)
noncomputable def B129 : Code:=(f129.body.getD .skip)
noncomputable def lZ2 : Code:=sub B129 [1,1,1,0,1,0,0]
theorem jW2 : It.code lZ2=It.code (sub B129 [1,1,1,0,1,0,0]):=rfl
noncomputable def lF2 : List It:=[.inBlock 0,.code (sub B129 [1,1,1,1])]
noncomputable def bQ1 (ext:Ext)(m:Nat)(env:Env)(loc:List O):Option Out:=run prog ext (.k ⟨42,m,[.cell 4 36],false⟩ (.code lZ2 :: .inLoop lZ2::lF2) env loc)
noncomputable def mA2 : Code:=sub B129 [1,1,1,1,0,1,0,0]
theorem jX2 : It.code mA2=It.code (sub B129 [1,1,1,1,0,1,0,0]):=rfl
noncomputable def lG2 : List It:=[.inBlock 2,.code (sub B129 [1,1,1,1,1])]
noncomputable def bR1 (ext:Ext)(m:Nat)(env:Env)(loc:List O):Option Out:=run prog ext (.k ⟨42,m,[.cell 4 36],false⟩ (.code mA2 :: .inLoop mA2::lG2) env loc)
theorem vV0 (x:LV):lvD x=[.v (.int .i64 x.v),.v (.int .i64 x.p)]:=rfl
theorem eD1 {α σ ρ:Type} (f:σ→α→σ):∀ (l:List α)(s:σ),eC1 (ρ:=ρ) (fun s x=> .inl (f s x)) s l = .inl (l.foldl f s)
 | [],_=>rfl
 | _::l,s=>eD1 f l _
def E128 (k:Int):Env:=[(1,.c (.ptr 0 0)),(2,.c (.ptr 1 0)),(4,iV k)]
def O128 (x:Lev):List O:=[.box (levC x),.box (levC zLev)]
theorem dM2 (hx:ext 128=none)(x:Lev)(h2:¬ x.c>1000)(h3:¬ (x.vs.length:Int)>8)(out:Option Out)(h:yK0 ext 0 (E128 0) (O128 x)=out):run prog ext (.call 128 [levV x] [])=out:=by
 unfold yK0 at h
 (rw[enT hx func128 rfl];simp only[f128,zR,simprocAttr,zE])
 simp only[levV,E128,O128,levC,Lev.d,iV]at h ⊢
 simp only[zS,zD,zT36,zT34,zT3,h2,h3,simprocAttr]
 (refine(aA0 ?_).trans h;kernel_rfl)
theorem bad128 (hx:ext 128=none)(x:Lev)(h:(x.vs.length:Int)>8∨x.c>1000):run prog ext (.call 128 [levV x] [])=some (.ret [levV zLev,iV 2] []):=by
 by_cases h3:(x.vs.length:Int)>8
 ·(rw[enT hx func128 rfl];simp only[f128,zR,simprocAttr,zE])
  simp only[levV,levC,Lev.d,iV]
  simp only[zS,zD,zT36,zT34,h3,simprocAttr]
  (refine .trans ?_ rfl;kernel_rfl)
 have h2:x.c>1000:=by omega
 (rw[enT hx func128 rfl];simp only[f128,zR,simprocAttr,zE])
 simp only[levV,levC,Lev.d,iV]
 simp only[zS,zD,zT36,zT34,zT3,h3,h2,simprocAttr]
 (refine .trans ?_ rfl;kernel_rfl)
theorem vP2 (x:Lev)(y:LV)(k:Nat)(hk:x.vs[k]? = some y)(hl:(k:Int)<x.vs.length) :
  (decide (y.p>1000)=true→yK0 ext 0 (E128 k) (O128 x)=some (.ret [levV zLev,iV 2] []))∧(decide (y.p>1000)=false→∀ out,yK0 ext 0 (E128 (wr ((k:Int)+1))) (O128 x)=out→yK0 ext 0 (E128 k) (O128 x)=out):=by
 have h0:(0:Int)≤k:=by omega
 have hd:aJ0 x.z 2 (x.vs.map lvD) = .s 2 (x.vs.map lvD):=aM0 h0 (by simpa using hl)
 unfold yK0
 refine⟨fun hp=> ?_,fun hp out h=> ?_⟩
 ·have hp:=of_decide_eq_true hp
  simp only[levV,E128,O128,levC,Lev.d,iV,hd]
  (rw[vH1];simp only[B128,aK2,sub,f128,↓reduceIte,zG])
  simp only[zS,zD,zT34,zT36,cV0,zT3,h0,hl,Int.toNat_natCast,hk,lvD,hp,simprocAttr]
  (refine .trans ?_ rfl;kernel_rfl)
 ·have hp:=of_decide_eq_false hp
  simp only[E128,O128,levC,Lev.d,iV,hd]at h ⊢
  (rw[vH1];simp only[B128,aK2,sub,f128,↓reduceIte,zG])
  simp only[zS,zD,zT34,bF0,cV0,zT3,h0,hl,Int.toNat_natCast,hk,lvD,hp,simprocAttr]
  (refine(aA0 ?_).trans h;kernel_rfl)
theorem pO2 (x:Lev):yK0 ext 0 (E128 x.vs.length) (O128 x)=some (.ret [levV x,iV 0] []):=by
 unfold yK0
 simp only[levV,E128,O128,levC,Lev.d,iV]
 (rw[vH1];simp only[B128,aK2,sub,f128,↓reduceIte,zG])
 simp only[zS,zD,zT34,zT36,Int.lt_irrefl,simprocAttr]
 (refine .trans ?_ rfl;kernel_rfl)
def sH0 (x:Lev):Lev × Int:=if(x.vs.length:Int)>8∨x.c>1000∨x.vs.any (fun y=>decide (y.p>1000))=true then(zLev,2) else(x,0)
theorem qK2 (hx:ext 128=none)(x:Lev):run prog ext (.call 128 [levV x] [])=some (.ret [levV (sH0 x).1,iV (sH0 x).2] []):=by
 by_cases h:(x.vs.length:Int)>8∨x.c>1000
 ·rw[bad128 ext hx x h]
  have:sH0 x=(zLev,2):=by unfold sH0;rw[if_pos];omega
  rw[this]
 ·refine dM2 ext hx x (by omega) (by omega) _ ?_
  have:=bS0 x.vs (fun k=>yK0 ext 0 (E128 k) (O128 x)) (fun y=>decide (y.p>1000)) (fun _=>some (.ret [levV zLev,iV 2] [])) (some (.ret [levV x,iV 0] [])) (by omega) (fun k y hk hl=>vP2 ext x y k hk hl) (pO2 ext x)
  rw[this]
  have ha:=vF0 (l:=x.vs) (p:=fun y=>decide (y.p>1000))
  unfold sH0
  cases hf:x.vs.findIdx? (fun y=>decide (y.p>1000)) with
  | none=>
   rw[hf]at ha
   rw[if_neg]
   rintro(e | e | e)
   ·omega
   ·omega
   ·rw[← ha]at e;cases e
  | some i=>
   rw[hf]at ha
   rw[if_pos (.inr (.inr ha.symm))]
def bY0 (x:LV)(s:List LV × Bool)(y:LV):List LV × Bool:=
 let s1:=if s.2=false∧x.v<y.v then(s.1++[x],true) else s
 if x.v=y.v then(s1.1++[⟨y.v,mx x.p y.p⟩],true) else(s1.1++[y],s1.2)
def putL (l:List LV)(x:LV):List LV:=let s:=l.foldl (bY0 x) ([],false);if s.2 then s.1 else s.1++[x]
def E196 (z:Bool)(l els:List LV)(d:Bool)(k:Int):Env:=[(0,dV (aJ0 z 2 (l.map lvD))),(3,.c (.ptr 0 0)),(5,mkV 1 (els.map lvD)),(6,bV d),(7,iV k)]
def O196 (x:LV)(els:List LV):List O:= .box (lvC x)::mkO 2 (els.map lvD)
theorem dT2 (hx:ext 196=none)(z:Bool)(l:List LV)(x:LV)(out:Option Out)(h:cC1 ext 0 (E196 z l [] false 0) (O196 x [])=out):run prog ext (.call 196 [dV (aJ0 z 2 (l.map lvD)),lvV x] [])=out:=by
 unfold cC1 at h
 (rw[enT hx func196 rfl];simp only[f196,zR,simprocAttr,zE])
 simp only[lvV,lvC,dV,iV,bV,E196,O196,List.map_nil,cF0,cR0]at h ⊢
 simp only[zS,zD,simprocAttr]
 (refine(aA0 ?_).trans h;kernel_rfl)
theorem vZ2 (z:Bool)(l:List LV)(x y:LV)(els:List LV)(d:Bool)(k:Nat)(hb:els.length<100000000)(hk:l[k]? = some y)(hl:(k:Int)<l.length)(out:Option Out)(h:cC1 ext 0 (E196 z l (bY0 x (els,d) y).1 (bY0 x (els,d) y).2 (wr ((k:Int)+1))) (O196 x (bY0 x (els,d) y).1)=out):cC1 ext 0 (E196 z l els d k) (O196 x els)=out:=by
 have h0:(0:Int)≤k:=by omega
 have hd:aJ0 z 2 (l.map lvD) = .s 2 (l.map lvD):=aM0 h0 (by simpa using hl)
 unfold cC1 at h ⊢
 simp only[dV,E196,O196,lvC,iV,bV,hd,bY0]at h ⊢
 cases d with
 | true=>
  by_cases h2:x.v=y.v
  ·simp only[h2,Bool.true_eq_false,false_and,if_false,if_true,List.map_append,List.map_cons,List.map_nil,iC0,iB0,mx,vV0 ⟨_,_⟩]at h ⊢
   cases els with
   | nil=>
    simp only[List.map_nil,cF0,cR0,List.nil_append]at h ⊢
    (rw[kD0];simp only[B196,oY0,sub,f196,↓reduceIte,zG])
    simp only[zS,zD,dB0,cV0,zT3,maxA,h0,hl,Int.toNat_natCast,hk,lvD,bsLV,no34,dL0,Nat.zero_le,simprocAttr]
    (refine(aA0 ?_).trans h;kernel_rfl)
   | cons a r=>
    have hb':r.length+1≤1000000000:=by simp only[List.length_cons]at hb;omega
    simp only[List.map_cons,cA0,bZ0,List.cons_append]at h ⊢
    (rw[kD0];simp only[B196,oY0,sub,f196,↓reduceIte,zG])
    simp only[zS,zD,dB0,cV0,zT3,maxA,h0,hl,Int.toNat_natCast,hk,lvD,bsLV,oo34,dP0,hb',simprocAttr]
    (refine(aA0 ?_).trans h;kernel_rfl)
  ·simp only[h2,Bool.true_eq_false,false_and,if_false,List.map_append,List.map_cons,List.map_nil,iC0,iB0,vV0 y]at h ⊢
   cases els with
   | nil=>
    simp only[List.map_nil,cF0,cR0,List.nil_append]at h ⊢
    (rw[kD0];simp only[B196,oY0,sub,f196,↓reduceIte,zG])
    simp only[zS,zD,dB0,cV0,zT3,h0,hl,h2,Int.toNat_natCast,hk,lvD,bsLV,no34,dL0,Nat.zero_le,simprocAttr]
    (refine(aA0 ?_).trans h;kernel_rfl)
   | cons a r=>
    have hb':r.length+1≤1000000000:=by simp only[List.length_cons]at hb;omega
    simp only[List.map_cons,cA0,bZ0,List.cons_append]at h ⊢
    (rw[kD0];simp only[B196,oY0,sub,f196,↓reduceIte,zG])
    simp only[zS,zD,dB0,cV0,zT3,h0,hl,h2,Int.toNat_natCast,hk,lvD,bsLV,oo34,dP0,hb',simprocAttr]
    (refine(aA0 ?_).trans h;kernel_rfl)
 | false=>
  by_cases h1:x.v<y.v
  ·have h2:¬ x.v=y.v:=by omega
   simp only[h1,h2,true_and,if_true,if_false,List.map_append,List.map_cons,List.map_nil,iC0,iB0,vV0 x,vV0 y]at h ⊢
   cases els with
   | nil=>
    simp only[List.map_nil,cF0,cR0,List.nil_append]at h ⊢
    (rw[kD0];simp only[B196,oY0,sub,f196,↓reduceIte,zG])
    simp only[zS,zD,dB0,cV0,zT3,h0,hl,h1,h2,Int.toNat_natCast,hk,lvD,bsLV,no34,dL0,oo34,dP0,Nat.zero_le,simprocAttr]
    (refine(aA0 ?_).trans h;kernel_rfl)
   | cons a r=>
    have hb':r.length+1≤1000000000:=by simp only[List.length_cons]at hb;omega
    have hb2:r.length+1+1≤1000000000:=by simp only[List.length_cons]at hb;omega
    simp only[List.map_cons,cA0,bZ0,List.cons_append]at h ⊢
    (rw[kD0];simp only[B196,oY0,sub,f196,↓reduceIte,zG])
    simp only[zS,zD,dB0,cV0,zT3,h0,hl,h1,h2,Int.toNat_natCast,hk,lvD,bsLV,oo34,dP0,hb',hb2,simprocAttr]
    (refine(aA0 ?_).trans h;kernel_rfl)
  ·by_cases h2:x.v=y.v
   ·have h1':¬ y.v<y.v:=by omega
    simp only[h2,h1',and_false,if_false,if_true,List.map_append,List.map_cons,List.map_nil,iC0,iB0,mx,vV0 ⟨_,_⟩]at h ⊢
    cases els with
    | nil=>
     simp only[List.map_nil,cF0,cR0,List.nil_append]at h ⊢
     (rw[kD0];simp only[B196,oY0,sub,f196,↓reduceIte,zG])
     simp only[zS,zD,dB0,cV0,zT3,maxA,h0,hl,h1',Int.toNat_natCast,hk,lvD,bsLV,no34,dL0,Nat.zero_le,simprocAttr]
     (refine(aA0 ?_).trans h;kernel_rfl)
    | cons a r=>
     have hb':r.length+1≤1000000000:=by simp only[List.length_cons]at hb;omega
     simp only[List.map_cons,cA0,bZ0,List.cons_append]at h ⊢
     (rw[kD0];simp only[B196,oY0,sub,f196,↓reduceIte,zG])
     simp only[zS,zD,dB0,cV0,zT3,maxA,h0,hl,h1',Int.toNat_natCast,hk,lvD,bsLV,oo34,dP0,hb',simprocAttr]
     (refine(aA0 ?_).trans h;kernel_rfl)
   ·simp only[h1,h2,and_false,if_false,List.map_append,List.map_cons,List.map_nil,iC0,iB0,vV0 y]at h ⊢
    cases els with
    | nil=>
     simp only[List.map_nil,cF0,cR0,List.nil_append]at h ⊢
     (rw[kD0];simp only[B196,oY0,sub,f196,↓reduceIte,zG])
     simp only[zS,zD,dB0,cV0,zT3,h0,hl,h1,h2,Int.toNat_natCast,hk,lvD,bsLV,no34,dL0,Nat.zero_le,simprocAttr]
     (refine(aA0 ?_).trans h;kernel_rfl)
    | cons a r=>
     have hb':r.length+1≤1000000000:=by simp only[List.length_cons]at hb;omega
     simp only[List.map_cons,cA0,bZ0,List.cons_append]at h ⊢
     (rw[kD0];simp only[B196,oY0,sub,f196,↓reduceIte,zG])
     simp only[zS,zD,dB0,cV0,zT3,h0,hl,h1,h2,Int.toNat_natCast,hk,lvD,bsLV,oo34,dP0,hb',simprocAttr]
     (refine(aA0 ?_).trans h;kernel_rfl)
theorem pT2 (z:Bool)(l:List LV)(x:LV)(els:List LV)(d:Bool)(hb:els.length<100000000)(hne:d=true→els≠[]):cC1 ext 0 (E196 z l els d l.length) (O196 x els)=some (.ret [dV (.s 2 ((if d then els else els++[x]).map lvD))] []):=by
 unfold cC1
 cases d with
 | true=>
  cases els with
  | nil=>exact absurd rfl (hne rfl)
  | cons a r=>
   simp only[dV,E196,O196,lvC,iV,bV,if_true,List.map_cons,cA0,bZ0]
   (rw[kD0];simp only[B196,oY0,sub,f196,↓reduceIte,zG])
   simp only[zS,zD,dB0,Int.lt_irrefl,simprocAttr]
   (refine .trans ?_ rfl;kernel_rfl)
 | false=>
  simp only[dV,E196,O196,lvC,iV,bV,Bool.false_eq_true,if_false,List.map_append,List.map_cons,List.map_nil,vV0 x]
  cases els with
  | nil=>
   simp only[List.map_nil,cF0,cR0,List.nil_append]
   (rw[kD0];simp only[B196,oY0,sub,f196,↓reduceIte,zG])
   simp only[zS,zD,dB0,cV0,Int.lt_irrefl,bsLV,no34,dL0,Nat.zero_le,simprocAttr]
   (refine .trans ?_ rfl;kernel_rfl)
  | cons a r=>
   have hb':r.length+1≤1000000000:=by simp only[List.length_cons]at hb;omega
   simp only[List.map_cons,cA0,bZ0,List.cons_append]
   (rw[kD0];simp only[B196,oY0,sub,f196,↓reduceIte,zG])
   simp only[zS,zD,dB0,cV0,Int.lt_irrefl,bsLV,oo34,dP0,hb',simprocAttr]
   (refine .trans ?_ rfl;kernel_rfl)
theorem wF0 (x:LV)(s:List LV × Bool)(y:LV):s.1.length<(bY0 x s y).1.length∧(bY0 x s y).1.length≤s.1.length+2:=by
 unfold bY0
 by_cases h1:s.2=false∧x.v<y.v <;> by_cases h2:x.v=y.v <;> simp[h1,h2] <;> omega
theorem kY2 (hx:ext 196=none)(z:Bool)(l:List LV)(x:LV)(hs:l.length<40000000):run prog ext (.call 196 [dV (aJ0 z 2 (l.map lvD)),lvV x] [])=some (.ret [dV (.s 2 ((putL l x).map lvD))] []):=by
 refine dT2 ext hx z l x _ ?_
 have key:∀ (m k:Nat),k+m=l.length→∀ s:List LV × Bool,s=(l.take k).foldl (bY0 x) ([],false)→s.1.length≤2*k→(s.2=true→s.1≠[]) →
   cC1 ext 0 (E196 z l s.1 s.2 k) (O196 x s.1)=some (.ret [dV (.s 2 ((putL l x).map lvD))] []):=by
  intro m
  induction m with
  | zero=>
   intro k hk s hs1 hs2 hs3
   have:k=l.length:=by omega
   subst this
   rw[List.take_length]at hs1
   rw[pT2 ext z l x s.1 s.2 (by omega) hs3]
   unfold putL
   rw[← hs1]
  | succ m ih=>
   intro k hk s hs1 hs2 hs3
   have hlt:k<l.length:=by omega
   refine vZ2 ext z l x l[k] s.1 s.2 k (by omega) (by simp[hlt]) (by omega) _ ?_
   rw[gL0 (by omega) (by omega)]
   have hp:=wF0 x s l[k]
   have:=ih (k+1) (by omega) (bY0 x s l[k]) (by rw[List.take_succ_eq_append_getElem hlt,List.foldl_append,← hs1];rfl) (by omega) (fun _ e=>by rw[e]at hp;simp at hp)
   exact_mod_cast this
 exact key l.length 0 (by omega) ([],false) rfl (by simp) (by simp)
def E129 (z:Bool)(l:List LV)(k:Int):Env:=[(1,dV (aJ0 z 2 (l.map lvD))),(4,.c (.ptr 0 0)),(5,.c (.ptr 1 0)),(6,iV k)]
def O129 (c:Int)(vs:List LV):List O:=[.box (levC zLev),.box [.d (.v (.int .i64 c)),.d (aJ0 true 2 (vs.map lvD))]]
theorem dN2 (hx:ext 129=none)(z:Bool)(l:List LV)(c:Int)(out:Option Out)(h:bQ1 ext 0 (E129 z l 0) (O129 c [])=out):run prog ext (.call 129 [iV c,dV (aJ0 z 2 (l.map lvD))] [])=out:=by
 unfold bQ1 at h
 (rw[enT hx func129 rfl];simp only[f129,zR,simprocAttr,zE])
 simp only[dV,iV,E129,O129,rV0,List.map_nil]at h ⊢
 simp only[zS,zD,zT36,gT0,simprocAttr]
 (refine(aA0 ?_).trans h;kernel_rfl)
theorem yT1 (l:List LV)(x:LV):putL l x≠[]:=by
 unfold putL
 dsimp only
 split
 ·rename_i h
  have:∀ (l:List LV) (s:List LV × Bool),(s.2=true→s.1≠[])→((l.foldl (bY0 x) s).2=true→(l.foldl (bY0 x) s).1≠[]):=by
   intro l
   induction l with
   | nil=>intro s hs;exact hs
   | cons a l ih=>intro s hs;exact ih _ (fun _ e=>by have:=(wF0 x s a).1;rw[e]at this;simp at this)
  exact this l _ (by simp) h
 ·simp
theorem vQ2 (hx:ext 196=none)(z:Bool)(l:List LV)(y:LV)(c:Int)(vs:List LV)(k:Nat)(hb:vs.length<400000)(hk:l[k]? = some y)(hl:(k:Int)<l.length)(out:Option Out)(h:bQ1 ext 0 (E129 z l (wr ((k:Int)+1))) (O129 c (putL vs y))=out):bQ1 ext 0 (E129 z l k) (O129 c vs)=out:=by
 have h0:(0:Int)≤k:=by omega
 have hd:aJ0 z 2 (l.map lvD) = .s 2 (l.map lvD):=aM0 h0 (by simpa using hl)
 have hr:=kY2 ext hx true vs y (by omega)
 have hne:aJ0 true 2 ((putL vs y).map lvD) = .s 2 ((putL vs y).map lvD):=dV0 (by simpa using yT1 vs y)
 unfold bQ1 at h ⊢
 simp only[dV,iV,E129,O129,rV0,hd,hne,lvV,lvC]at h hr ⊢
 (rw[jW2];simp only[B129,lF2,sub,f129,↓reduceIte,zG])
 simp only[zS,zD,bF0,zT34,cV0,aK0,aC0,aD0,Array.size,List.length,h0,hl,Int.toNat_natCast,hk,lvD,hr,simprocAttr]
 rw[aB0 _ _ _ _ (by kernel_rfl)]
 simp only[zS,zD,simprocAttr]
 (refine(aA0 ?_).trans h;kernel_rfl)
def bO1 (k:Int):Env:=[(4,.c (.ptr 0 0)),(5,.c (.ptr 1 0)),(7,iV k)]
theorem mid129 (z:Bool)(l:List LV)(c:Int)(vs:List LV)(out:Option Out)(h:bR1 ext 0 (bO1 0) (O129 c vs)=out):bQ1 ext 0 (E129 z l l.length) (O129 c vs)=out:=by
 unfold bR1 at h
 unfold bQ1
 simp only[dV,iV,E129,bO1,O129,rV0]at h ⊢
 (rw[jW2];simp only[B129,lF2,sub,f129,↓reduceIte,zG])
 simp only[zS,zD,dB0,Int.lt_irrefl,simprocAttr]
 (refine(aA0 ?_).trans h;kernel_rfl)
def oZ1 (c:Int)(y:LV):Int:=if y.p≥c then 0 else c
theorem hZ2 (c:Int)(vs:List LV)(y:LV)(k:Nat)(hk:vs[k]? = some y)(hl:(k:Int)<vs.length)(out:Option Out)(h:bR1 ext 0 (bO1 (wr ((k:Int)+1))) (O129 (oZ1 c y) vs)=out):bR1 ext 0 (bO1 k) (O129 c vs)=out:=by
 have h0:(0:Int)≤k:=by omega
 have hd:aJ0 true 2 (vs.map lvD) = .s 2 (vs.map lvD):=aM0 h0 (by simpa using hl)
 unfold bR1 at h ⊢
 simp only[iV,bO1,O129,rV0,hd,oZ1]at h ⊢
 (rw[jX2];simp only[B129,lG2,sub,f129,↓reduceIte,zG])
 by_cases h1:y.p≥c
 ·simp only[h1,if_true]at h
  simp only[zS,zD,zT36,zT34,cV0,zT3,aK0,aC0,aD0,Array.size,List.length,h0,hl,h1,Int.toNat_natCast,hk,lvD,simprocAttr]
  rw[aB0 _ _ _ _ (by kernel_rfl)]
  simp only[zS,zD,eK0,gT0,simprocAttr]
  (refine(aA0 ?_).trans h;kernel_rfl)
 ·simp only[h1,if_false]at h
  simp only[zS,zD,zT36,zT34,cV0,zT3,aK0,aC0,aD0,Array.size,List.length,h0,hl,h1,Int.toNat_natCast,hk,lvD,simprocAttr]
  rw[aB0 _ _ _ _ (by kernel_rfl)]
  simp only[zS,zD,simprocAttr]
  (refine(aA0 ?_).trans h;kernel_rfl)
theorem dC2 (c:Int)(vs:List LV):bR1 ext 0 (bO1 vs.length) (O129 c vs)=some (.ret [levV ⟨c,vs,true⟩] []):=by
 unfold bR1
 simp only[iV,bO1,O129,levV,levC,Lev.d]
 (rw[jX2];simp only[B129,lG2,sub,f129,↓reduceIte,zG])
 simp only[zS,zD,zT36,zT34,Int.lt_irrefl,simprocAttr]
 (refine .trans ?_ rfl;kernel_rfl)
def jB0 (c:Int)(l:List LV):Lev:=let vs:=l.foldl putL [];⟨vs.foldl oZ1 c,vs,true⟩
theorem gD1 (x:LV)(s:List LV × Bool)(y:LV)(k:Nat)(h:s.1.length≤k+s.2.toNat):(bY0 x s y).1.length≤k+1+(bY0 x s y).2.toNat:=by
 obtain⟨a,d⟩:=s
 unfold bY0
 cases d <;> by_cases h1:x.v<y.v <;> by_cases h2:x.v=y.v <;> simp[h1,h2]at h ⊢ <;> omega
theorem uD0 (l:List LV)(x:LV):(putL l x).length≤l.length+1:=by
 have:∀ (l:List LV) (s:List LV × Bool) (k:Nat),s.1.length≤k+s.2.toNat→(l.foldl (bY0 x) s).1.length≤k+l.length+(l.foldl (bY0 x) s).2.toNat:=by
  intro l
  induction l with
  | nil=>intro s k h;simp only[List.foldl_nil,List.length_nil,Nat.add_zero];exact h
  | cons a l ih=>intro s k h;have:=ih (bY0 x s a) (k+1) (gD1 x s a k h);simp only[List.foldl_cons,List.length_cons];omega
 have:=this l ([],false) 0 (by simp)
 unfold putL
 dsimp only
 split
 ·rename_i h;rw[h]at this;simp at this;omega
 ·rename_i h
  have h':(l.foldl (bY0 x) ([],false)).2=false:=by simpa using h
  rw[h']at this;simp at this ⊢;omega
theorem aN1 : ∀ (l vs:List LV),(l.foldl putL vs).length≤vs.length+l.length
 | [],vs=>by simp
 | a::l,vs=>by have:=aN1 l (putL vs a);have:=uD0 vs a;simp only[List.foldl_cons,List.length_cons];omega
theorem cI2 (hx:ext 129=none)(hx1:ext 196=none)(z:Bool)(l:List LV)(c:Int)(hs:l.length<100000):run prog ext (.call 129 [iV c,dV (aJ0 z 2 (l.map lvD))] [])=some (.ret [levV (jB0 c l)] []):=by
 refine dN2 ext hx z l c _ ?_
 have key:∀ (m k:Nat),k+m=l.length→bQ1 ext 0 (E129 z l k) (O129 c ((l.take k).foldl putL []))=some (.ret [levV (jB0 c l)] []):=by
  intro m
  induction m with
  | zero=>
   intro k hk
   rw[List.take_of_length_le (by omega),show k=l.length by omega]
   refine mid129 ext z l c _ _ ?_
   have hl:=aN1 l []
   generalize hv:l.foldl putL []=vs at hl
   have:=rH0 (ρ:=Unit) vs (fun k c=>bR1 ext 0 (bO1 k) (O129 c vs)) (fun c y=> .inl (oZ1 c y)) (fun _=>none) (fun c=>some (.ret [levV ⟨c,vs,true⟩] [])) (by simp at hl;omega) (fun k y c hk hkl=>fun out h=>hZ2 ext c vs y k hk hkl out h) (fun c=>dC2 ext c vs) c
   rw[this,eD1]
   unfold jB0
   rw[hv]
  | succ m ih=>
   intro k hk
   have hlt:k<l.length:=by omega
   have hl:=aN1 (l.take k) []
   refine vQ2 ext hx1 z l l[k] c _ k (by simp at hl;omega) (by simp[hlt]) (by omega) _ ?_
   rw[gL0 (by omega) (by omega)]
   have:=ih (k+1) (by omega)
   rw[List.take_succ_eq_append_getElem hlt,List.foldl_append]at this
   exact_mod_cast this
 simpa using key l.length 0 (by omega)
end
section
open Go
variable (ext:Ext)
theorem aG0 (slot:Nat)(cs:List C)(x:D)(h:cs.all hH0=true):aY0 [] [] slot (some (.ret [.agg cs,.c (.d x)] []))=some ⟨.val (.tup [(true,cs),(false,[.d x])]),[],[]⟩:=by
 obtain⟨_,_,h3⟩:=eO0 (look:=fun _=>none) h
 simp only[aY0,bW0,mapO,renV,h3,renC,aZ0,comp,List.length_nil,Nat.lt_irrefl,if_false]
 split <;> rfl
theorem aK1 {x:Lev} (h:x.valid=true){k:Nat}{y:LV} (hk:x.vs[k]? = some y):okLV y=true:=by
 unfold Lev.valid at h
 simp only[Bool.and_eq_true,Option.isNone_iff_eq_none]at h
 have:=uA0.1 h.2 k y hk
 simp[jY0]at this
 exact this.1
theorem xC2 {k:Nat} (h:k<2^62):wr ((k:Int)+1)=((k+1:Nat):Int):=by rw[gL0 (by omega) (by omega)];rfl
end
end Go.Proofs.YteenjodhmppgjaaGreatDoor.Am
