/- A part of the proof of a card. No conditions. -/
import Derived.Test.YteenjodhmppgjaaGreatDoorPb1
set_option linter.all false
set_option maxHeartbeats 16000000
set_option maxRecDepth 10000
namespace Go.Proofs.YteenjodhmppgjaaGreatDoor.Am
open Go.Proofs.Tryz
section
open Go
variable (ext:Ext)
noncomputable def B189 : Code:=(f189.body.getD .skip)
noncomputable def mM2 : Code:=sub B189 [1,0,1,0,0]
theorem vO1 : It.code mM2=It.code (sub B189 [1,0,1,0,0]):=rfl
noncomputable def aR2 : List It:=[.inBlock 0,.code (sub B189 [1,1])]
noncomputable def qS1 (ext:Ext)(m:Nat)(env:Env)(loc:List O):Option Out:=run prog ext (.k ⟨19,m,[.tmp 4],false⟩ (.code mM2 :: .inLoop mM2::aR2) env loc)
def inD (n:Int):List D:=[.v (.int .i64 n)]
def stD (s:ByteArray):List D:=[.v (.string s)]
theorem gP0 (n:Int):inD n=[.v (.int .i64 n)]:=rfl
theorem lC2 (s:ByteArray):stD s=[.v (.string s)]:=rfl
theorem z43 : (dT0 prog 3).map List.length=some 1:=by rw[kJ1];rfl
theorem z52 : (dT0 prog 9).map List.length=some 1:=by rw[kK1];rfl
theorem i43 : (dT0 prog 3).isSome=true:=by rw[kJ1];rfl
theorem i52 : (dT0 prog 9).isSome=true:=by rw[kK1];rfl
theorem bsIn {look:Look}{slot:Nat}{a:Int}:aV0 prog look slot 43 1 [(0,.c (.d (.v (.int .i64 a))))]=some ⟨.val (.c (.own slot)),[(slot,.arr 1 [[.v (.int .i64 a)]])],[]⟩:=
 cZ1 (cs:=[.d (.v (.int .i64 a))]) eP0 gT0 i43 rfl rfl rfl (by decide) (by decide)
theorem bsSt {look:Look}{slot:Nat}{a:ByteArray}:aV0 prog look slot 52 1 [(0,.c (.d (.v (.string a))))]=some ⟨.val (.c (.own slot)),[(slot,.arr 1 [[.v (.string a)]])],[]⟩:=
 cZ1 (cs:=[.d (.v (.string a))]) zP0 aY1 i52 rfl rfl rfl (by decide) (by decide)
section
variable (look:Look) (slot id j:Nat)
theorem oo43 : bI0 prog look slot [43,43] [.c (.own id),.c (.own j)]=apG 1 8 slot id j (look id) (look j) (apD prog look slot 43 (.c (.own id)) (.c (.own j))):=cN1 eP0 gT0 hZ0 z43 (by decide) id j
theorem no43 : bI0 prog look slot [43,43] [.c (.d (.v (.slice none 0 0))),.c (.own j)]=apH 1 8 slot j (look j) (apD prog look slot 43 (.c (.d (.v (.slice none 0 0)))) (.c (.own j))):=cM1 eP0 gT0 hZ0 z43 (by decide) j
theorem oo52 : bI0 prog look slot [52,52] [.c (.own id),.c (.own j)]=apG 1 16 slot id j (look id) (look j) (apD prog look slot 52 (.c (.own id)) (.c (.own j))):=cN1 zP0 aY1 zH0 z52 (by decide) id j
theorem no52 : bI0 prog look slot [52,52] [.c (.d (.v (.slice none 0 0))),.c (.own j)]=apH 1 16 slot j (look j) (apD prog look slot 52 (.c (.d (.v (.slice none 0 0)))) (.c (.own j))):=cM1 zP0 aY1 zH0 z52 (by decide) j
end
def ixOf (o:Option Nat):Int:=match o with | some k=>k | none=> -1
theorem has189 (hx:ext 189=none)(z:Bool)(l:List ByteArray)(s:ByteArray)(hs:l.length<2^50):run prog ext (.call 189 [dV (aJ0 z 1 (l.map stD)),sV s] [])=some (.ret [iV (ixOf (l.findIdx? fun a=>a.toList==s.toList))] []):=by
 have he:∀ out,qS1 ext 0 [(0,dV (aJ0 z 1 (l.map stD))),(1,sV s),(5,iV 0)] []=out→run prog ext (.call 189 [dV (aJ0 z 1 (l.map stD)),sV s] [])=out:=by
  intro out h
  unfold qS1 at h
  (rw[enT hx func189 rfl];simp only[f189,zR,simprocAttr,zE])
  simp only[dV,iV,sV]at h ⊢
  simp only[zS,zD,simprocAttr]
  (refine(aA0 ?_).trans h;kernel_rfl)
 refine he _ ?_
 have:=bS0 l (fun k=>qS1 ext 0 [(0,dV (aJ0 z 1 (l.map stD))),(1,sV s),(5,iV k)] []) (fun a=>a.toList==s.toList) (fun k=>some (.ret [iV k] [])) (some (.ret [iV (-1)] [])) (by omega) (fun k a hk hl=>by
   have h0:(0:Int)≤k:=by omega
   have hd:aJ0 z 1 (l.map stD) = .s 1 (l.map stD):=aM0 h0 (by simpa using hl)
   unfold qS1
   refine⟨fun hp=> ?_,fun hp out h=> ?_⟩
   ·simp only[dV,iV,sV,hd]
    (rw[vO1];simp only[B189,aR2,sub,f189,↓reduceIte,zG])
    simp only[zS,zD,aA2,zT9,h0,hl,Int.toNat_natCast,hk,stD,hp,simprocAttr]
    (refine .trans ?_ rfl;kernel_rfl)
   ·simp only[dV,iV,sV,hd]at h ⊢
    (rw[vO1];simp only[B189,aR2,sub,f189,↓reduceIte,zG])
    simp only[zS,zD,aA2,zT9,h0,hl,Int.toNat_natCast,hk,stD,hp,simprocAttr]
    (refine(aA0 ?_).trans h;kernel_rfl)) (by
   unfold qS1
   simp only[dV,iV,sV]
   (rw[vO1];simp only[B189,aR2,sub,f189,↓reduceIte,zG])
   simp only[zS,zD,aA2,Int.lt_irrefl,simprocAttr]
   (refine .trans ?_ rfl;kernel_rfl))
 rw[this]
 cases l.findIdx? fun a=>a.toList==s.toList <;> rfl
end
section
open Go
variable (ext:Ext)
noncomputable def B174 : Code:=(f174.body.getD .skip)
noncomputable def mF2 : Code:=sub B174 [1,0,1,0,0]
theorem lL0 : It.code mF2=It.code (sub B174 [1,0,1,0,0]):=rfl
noncomputable def qF0 : List It:=[.inBlock 0,.code (sub B174 [1,1])]
noncomputable def jL0 (ext:Ext)(m:Nat)(env:Env)(loc:List O):Option Out:=run prog ext (.k ⟨19,m,[.tmp 4],false⟩ (.code mF2 :: .inLoop mF2::qF0) env loc)
noncomputable def B74 : Code:=(f74.body.getD .skip)
noncomputable def L74a : Code:=sub B74 [1,1,0,1,0,0]
theorem rD2 : It.code L74a=It.code (sub B74 [1,1,0,1,0,0]):=rfl
noncomputable def K74a : List It:=[.inBlock 0,.code (sub B74 [1,1,1])]
noncomputable def H74a (ext:Ext)(m:Nat)(env:Env)(loc:List O):Option Out:=run prog ext (.k ⟨39,m,[.tmp 4],false⟩ (.code L74a :: .inLoop L74a::K74a) env loc)
def occ1 (s:ByteArray)(x:Tm):Bool:=(x.s.toList==s.toList)&&(x.op==26||(x.op==27||x.op==28))
def occ (s:ByteArray):Tm→Bool
 | .mk op n t u zu l zl=>occ1 s (.mk op n t u zu l zl)||occs l
where occs:List Tm→Bool
 | []=>false
 | x::r=>occ s x||occs r
theorem uL2 (s:ByteArray)(l:List Tm):occ.occs s l=l.any (occ s):=by induction l <;> simp_all [occ.occs]
theorem kO2 (s:ByteArray)(x:Tm):occ s x=(occ1 s x||x.l.any (occ s)):=by cases x;simp only[occ,uL2,Tm.l]
theorem nV0 {α:Type} (p:α→Bool)(l:List α):l.any p=decide (0≤ixOf (l.findIdx? p)):=by
 rw[← List.findIdx?_isSome]
 cases l.findIdx? p with
 | none=>simp[ixOf]
 | some k=>simp[ixOf]
theorem clo115 (hx:ext 115=none)(x:Tm)(s:ByteArray):run prog ext (.call 115 [tmV x,.c (.ptr 0 0)] (O69 s))=some (.ret [bV (occ1 s x)] (O69 s)):=by
 unfold occ1
 cases h1:(x.s.toList==s.toList) with
 | false=>
  rw[Bool.false_and]
  (rw[enT hx func115 rfl];simp only[f115,zR,simprocAttr,zE])
  simp only[tmV,tmC,bV,O69]
  simp only[zS,zD,iQ0,zT9,h1,simprocAttr]
  (refine .trans ?_ rfl;kernel_rfl)
 | true=>
  rw[Bool.true_and]
  cases h2:(x.op==26) with
  | true=>
   (rw[enT hx func115 rfl];simp only[f115,zR,simprocAttr,zE])
   simp only[tmV,tmC,bV,O69]
   simp only[zS,zD,zT33,zT9,zT3,h1,h2,simprocAttr]
   (refine .trans ?_ rfl;kernel_rfl)
  | false=>
   cases h3:(x.op==27) with
   | true=>
    (rw[enT hx func115 rfl];simp only[f115,zR,simprocAttr,zE])
    simp only[tmV,tmC,bV,O69]
    simp only[zS,zD,zT33,zT9,zT3,h1,h2,h3,simprocAttr]
    (refine .trans ?_ rfl;kernel_rfl)
   | false=>
    cases h4:(x.op==28)
    all_goals
     (rw[enT hx func115 rfl];simp only[f115,zR,simprocAttr,zE])
     simp only[tmV,tmC,bV,O69]
     simp only[zS,zD,zT33,zT9,zT3,h1,h2,h3,h4,simprocAttr]
     (refine .trans ?_ rfl;kernel_rfl)
def O185 (s:ByteArray):List O:=[.box [.fn 115 [] [1]],.box [.d (.v (.string s))]]
theorem clo185 (hx:ext 185=none)(x:Tm)(s:ByteArray)(b:Bool)(hr:run prog ext (.call 114 [tmV x,.c (.fn 115 [] [0])] (O69 s))=some (.ret [bV b] (O69 s))) :
  run prog ext (.call 185 [tmV x,.c (.ptr 0 0)] (O185 s))=some (.ret [bV b] (O185 s)):=by
 have e:=aL0 (rec:=run prog ext) (look:=lk [.box [.fn 115 [] [1]],.box [.d (.v (.string s))],.box (tmC x)]) (slot:=3) (f:=114) (args:=[tmV x,.c (.fn 115 [] [1])]) (ids:=[1]) (bor:=[]) (e:=⟨.val (bV b),[(1,.box [.d (.v (.string s))])],[1]⟩) (by kernel_rfl) hr (by kernel_rfl)
 (rw[enT hx func185 rfl];simp only[f185,zR,simprocAttr,zE])
 simp only[tmV,tmC,bV,O185]at e ⊢
 simp only[zS,zD,zT33,qL0,nN0,e,simprocAttr]
 (refine .trans ?_ rfl;kernel_rfl)
def E174 (x:Tm)(k:Int):Env:=[(0,dV x.lD),(1,.c (.fn 185 [] [0])),(7,iV x.l.length),(8,iV k)]
theorem idx174 (hx:ext 174=none)(x:Tm)(s:ByteArray)(hs:x.l.length<2^50)(hr:∀ y∈x.l,run prog ext (.call 185 [tmV y,.c (.ptr 0 0)] (O185 s))=some (.ret [bV (occ s y)] (O185 s))) :
  run prog ext (.call 174 [dV x.lD,.c (.fn 185 [] [0])] (O185 s))=some (.ret [iV (ixOf (x.l.findIdx? (occ s)))] (O185 s)):=by
 have he:∀ out,jL0 ext 2 (E174 x 0) (O185 s)=out→run prog ext (.call 174 [dV x.lD,.c (.fn 185 [] [0])] (O185 s))=out:=by
  intro out h
  unfold jL0 at h
  (rw[enT hx func174 rfl];simp only[f174,zR,simprocAttr,zE])
  simp only[dV,iV,E174,O185]at h ⊢
  simp only[zS,zD,bL0,aI0,simprocAttr]
  (refine(aA0 ?_).trans h;kernel_rfl)
 refine he _ ?_
 have:=bS0 x.l (fun k=>jL0 ext 2 (E174 x k) (O185 s)) (occ s) (fun k=>some (.ret [iV k] (O185 s))) (some (.ret [iV (-1)] (O185 s))) (by omega) (fun k y hk hl=>by
   have h0:(0:Int)≤k:=by omega
   have hy:=hr y (List.mem_of_getElem? hk)
   have e:=aL0 (rec:=run prog ext) (look:=lk (O185 s)) (slot:=2) (f:=185) (args:=[tmV y,.c (.ptr 0 0)]) (ids:=[0,1]) (bor:=[]) (e:=⟨.val (bV (occ s y)),[(0,.box [.fn 115 [] [1]]),(1,.box [.d (.v (.string s))])],[0,1]⟩) (by kernel_rfl) hy (by kernel_rfl)
   unfold jL0
   refine⟨fun hp=> ?_,fun hp out h=> ?_⟩
   ·rw[hp]at e
    simp only[dV,iV,bV,tmV,tmC,E174,O185,bC0 hl]at e ⊢
    (rw[lL0];simp only[B174,qF0,sub,f174,↓reduceIte,zG])
    simp only[zS,zD,zT33,bL0,h0,hl,Int.toNat_natCast,hk,aH0 y,e,simprocAttr]
    (refine .trans ?_ rfl;kernel_rfl)
   ·rw[hp]at e
    simp only[dV,iV,bV,tmV,tmC,E174,O185,bC0 hl]at e h ⊢
    (rw[lL0];simp only[B174,qF0,sub,f174,↓reduceIte,zG])
    simp only[zS,zD,zT33,bL0,h0,hl,Int.toNat_natCast,hk,aH0 y,e,simprocAttr]
    (refine(aA0 ?_).trans h;kernel_rfl)) (by
   unfold jL0
   simp only[dV,iV,E174,O185]
   (rw[lL0];simp only[B174,qF0,sub,f174,↓reduceIte,zG])
   simp only[zS,zD,Int.lt_irrefl,simprocAttr]
   (refine .trans ?_ rfl;kernel_rfl))
 rw[this]
 cases x.l.findIdx? (occ s) <;> rfl
theorem any107 (hx:ext 107=none)(x:Tm)(s:ByteArray)(n:Int)(hr:run prog ext (.call 174 [dV x.lD,.c (.fn 185 [] [0])] (O185 s))=some (.ret [iV n] (O185 s))) :
  run prog ext (.call 107 [dV x.lD,.c (.fn 185 [] [0])] (O185 s))=some (.ret [bV (decide (0≤n))] (O185 s)):=by
 have e:=aL0 (rec:=run prog ext) (look:=lk (O185 s)) (slot:=2) (f:=174) (args:=[dV x.lD,.c (.fn 185 [] [0])]) (ids:=[0,1]) (bor:=[]) (e:=⟨.val (iV n),[(0,.box [.fn 115 [] [1]]),(1,.box [.d (.v (.string s))])],[0,1]⟩) (by kernel_rfl) hr (by kernel_rfl)
 (rw[enT hx func107 rfl];simp only[f107,zR,simprocAttr,zE])
 simp only[dV,iV,bV,O185]at e ⊢
 simp only[zS,zD,e,ge_iff_le,simprocAttr]
 (refine .trans ?_ rfl;kernel_rfl)
theorem kF2 (hx:ext 114=none)(h115:ext 115=none)(h107:ext 107=none)(h174:ext 174=none)(h185:ext 185=none)(s:ByteArray):∀ (N:Nat)(x:Tm),x.sz≤N→N<2^50 →
  run prog ext (.call 114 [tmV x,.c (.fn 115 [] [0])] (O69 s))=some (.ret [bV (occ s x)] (O69 s))
 | 0,x,h,_=>by have:=x.sz_pos;omega
 | N+1,x,h,hN=>by
  have hll:=x.len_lt
  have h1:=clo115 ext h115 x s
  have e1:=aL0 (rec:=run prog ext) (look:=lk [.box [.d (.v (.string s))],.box (tmC x),.box [.fn 115 [] [0]]]) (slot:=3) (f:=115) (args:=[tmV x,.c (.ptr 0 0)]) (ids:=[0]) (bor:=[]) (e:=⟨.val (bV (occ1 s x)),[(0,.box [.d (.v (.string s))])],[0]⟩) (by kernel_rfl) h1 (by kernel_rfl)
  have h2:=any107 ext h107 x s _ (idx174 ext h174 x s (by omega) (fun y hy=>clo185 ext h185 y s _ (kF2 hx h115 h107 h174 h185 s N y (by have:=Tm.sz_lt hy;omega) (by omega))))
  rw[← nV0]at h2
  have e2:=aL0 (rec:=run prog ext) (look:=lk [.box [.d (.v (.string s))],.box (tmC x),.box [.fn 115 [] [0]]]) (slot:=3) (f:=107) (args:=[dV x.lD,.c (.fn 185 [] [2])]) (ids:=[2,0]) (bor:=[]) (e:=⟨.val (bV (x.l.any (occ s))),[(2,.box [.fn 115 [] [0]]),(0,.box [.d (.v (.string s))])],[2,0]⟩) (by kernel_rfl) h2 (by kernel_rfl)
  rw[kO2]
  cases c:occ1 s x with
  | true=>
   rw[c]at e1
   (rw[enT hx func114 rfl];simp only[f114,zR,simprocAttr,zE])
   simp only[tmV,tmC,bV,O69]at e1 ⊢
   simp only[zS,zD,zT33,qL0,nN0,e1,simprocAttr]
   (refine .trans ?_ rfl;kernel_rfl)
  | false=>
   rw[c]at e1
   (rw[enT hx func114 rfl];simp only[f114,zR,simprocAttr,zE])
   simp only[tmV,tmC,dV,bV,O69]at e1 e2 ⊢
   simp only[zS,zD,cE0,zT33,zT31,qL0,nN0,e1,e2,simprocAttr]
   (refine .trans ?_ rfl;kernel_rfl)
theorem gU2 (h72:ext 72=none)(hx:ext 114=none)(h115:ext 115=none)(h107:ext 107=none)(h174:ext 174=none)(h185:ext 185=none)(s:ByteArray)(x:Tm)(hs:x.sz<2^50) :
  run prog ext (.call 72 [sV s,tmV x] [])=some (.ret [bV (occ s x)] []):=by
 have hr:=kF2 ext hx h115 h107 h174 h185 s x.sz x (Nat.le_refl _) hs
 have e:=aL0 (rec:=run prog ext) (look:=lk [.box [.d (.v (.string s))],.box (tmC x)]) (slot:=2) (f:=114) (args:=[tmV x,.c (.fn 115 [] [0])]) (ids:=[0]) (bor:=[]) (e:=⟨.val (bV (occ s x)),[(0,.box [.d (.v (.string s))])],[0]⟩) (by kernel_rfl) hr (by kernel_rfl)
 have hx:=h72
 (rw[enT hx func72 rfl];simp only[f72,zR,simprocAttr,zE])
 simp only[tmV,tmC,sV,bV]at e ⊢
 simp only[zS,zD,cE0,zT33,e,simprocAttr]
 (refine .trans ?_ rfl;kernel_rfl)
def E74 (s:ByteArray)(k:Int):Env:=[(0,sV s),(3,.c (.ptr 0 0)),(5,iV k)]
theorem aJ1 (hx:ext 74=none)(s:ByteArray):∀ (N:Nat)(x:Tm),x.sz≤N→N<2^50→run prog ext (.call 74 [sV s,tmV x] [])=some (.ret [bV (occ s x)] [])
 | 0,x,h,_=>by have:=x.sz_pos;omega
 | N+1,x,h,hN=>by
  have hll:=x.len_lt
  rw[kO2]
  have he:occ1 s x=false→∀ out,H74a ext 0 (E74 s 0) [.box (tmC x)]=out→run prog ext (.call 74 [sV s,tmV x] [])=out:=by
   intro hc out h
   unfold H74a at h
   unfold occ1 at hc
   cases h1:(x.s.toList==s.toList) with
   | false=>
    (rw[enT hx func74 rfl];simp only[f74,zR,simprocAttr,zE])
    simp only[tmV,tmC,sV,iV,E74]at h ⊢
    simp only[zS,zD,iQ0,zT9,h1,simprocAttr]
    (refine(aA0 ?_).trans h;kernel_rfl)
   | true=>
    simp only[h1,Bool.true_and,Bool.or_eq_false_iff]at hc
    (rw[enT hx func74 rfl];simp only[f74,zR,simprocAttr,zE])
    simp only[tmV,tmC,sV,iV,E74]at h ⊢
    simp only[zS,zD,zT33,zT9,zT3,h1,hc.1,hc.2.1,hc.2.2,simprocAttr]
    (refine(aA0 ?_).trans h;kernel_rfl)
  cases c:occ1 s x with
  | true=>
   rw[Bool.true_or]
   unfold occ1 at c
   simp only[Bool.and_eq_true,Bool.or_eq_true]at c
   cases h2:(x.op==26) with
   | true=>
    (rw[enT hx func74 rfl];simp only[f74,zR,simprocAttr,zE])
    simp only[tmV,tmC,sV,bV]
    simp only[zS,zD,zT33,zT9,zT3,c.1,h2,simprocAttr]
    (refine .trans ?_ rfl;kernel_rfl)
   | false=>
    cases h3:(x.op==27) with
    | true=>
     (rw[enT hx func74 rfl];simp only[f74,zR,simprocAttr,zE])
     simp only[tmV,tmC,sV,bV]
     simp only[zS,zD,zT33,zT9,zT3,c.1,h2,h3,simprocAttr]
     (refine .trans ?_ rfl;kernel_rfl)
    | false=>
     have h4:(x.op==28)=true:=by simpa [h2,h3] using c.2
     (rw[enT hx func74 rfl];simp only[f74,zR,simprocAttr,zE])
     simp only[tmV,tmC,sV,bV]
     simp only[zS,zD,zT33,zT9,zT3,c.1,h2,h3,h4,simprocAttr]
     (refine .trans ?_ rfl;kernel_rfl)
  | false=>
   rw[Bool.false_or]
   refine he c _ ?_
   have:=bS0 x.l (fun k=>H74a ext 0 (E74 s k) [.box (tmC x)]) (occ s) (fun _=>some (.ret [bV true] [])) (some (.ret [bV false] [])) (by omega) (fun k y hk hl=>by
     have h0:(0:Int)≤k:=by omega
     have hr:=aJ1 hx s N y (by have:=Tm.sz_lt (List.mem_of_getElem? hk);omega) (by omega)
     unfold H74a
     refine⟨fun hp=> ?_,fun hp out h=> ?_⟩
     ·rw[hp]at hr
      simp only[tmV,tmC,iV,sV,bV,E74,bC0 hl]at hr ⊢
      (rw[rD2];simp only[B74,K74a,sub,f74,↓reduceIte,zG])
      simp only[zS,zD,zT33,zT31,h0,hl,Int.toNat_natCast,hk,aH0 y,hr,simprocAttr]
      (refine .trans ?_ rfl;kernel_rfl)
     ·rw[hp]at hr
      simp only[tmV,tmC,iV,sV,bV,E74,bC0 hl]at hr h ⊢
      (rw[rD2];simp only[B74,K74a,sub,f74,↓reduceIte,zG])
      simp only[zS,zD,zT33,zT31,h0,hl,Int.toNat_natCast,hk,aH0 y,hr,simprocAttr]
      (refine(aA0 ?_).trans h;kernel_rfl)) (by
     unfold H74a
     simp only[tmC,iV,sV,bV,E74]
     (rw[rD2];simp only[B74,K74a,sub,f74,↓reduceIte,zG])
     simp only[zS,zD,bD0,zT31,aI0,Int.lt_irrefl,simprocAttr]
     (refine .trans ?_ rfl;kernel_rfl))
   rw[this,nV0]
   cases x.l.findIdx? (occ s) with
   | none=>rfl
   | some k=>
    have:decide (0≤ixOf (some k))=true:=by simp[ixOf]
    rw[this]
end
end Go.Proofs.YteenjodhmppgjaaGreatDoor.Am
