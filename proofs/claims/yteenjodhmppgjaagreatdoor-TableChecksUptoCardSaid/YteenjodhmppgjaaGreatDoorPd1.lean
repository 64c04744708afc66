/- A part of the proof of a card. No conditions. -/
import Derived.Test.YteenjodhmppgjaaGreatDoorPc9
set_option linter.all false
set_option maxHeartbeats 16000000
set_option maxRecDepth 10000
namespace Go.Proofs.YteenjodhmppgjaaGreatDoor.Am
open Go.Proofs.Tryz
section
open Go
variable (ext:Ext)
def ndO (o:Dc)(t:Tm)(th fa:Dc × Bool)(fi:Int):Int:=
 if((t.op==26)&&(!fa.2&&((t.s.toList==o.name.toList)&&decide (fi<0))))=true then(if arB t o=true then 42 else 0) else ndE t th fa
theorem uG1 (p:List Int)(e:Int)(h:e=0∨e=41∨e=42):errV e p=if e=0 then V.c (.d (.v .nilIface)) else dV (erD e p):=by
 rcases h with rfl | rfl | rfl
 ·rfl
 ·rw[uE1,nY0];rfl
 ·rw[uF1,nY0];rfl
def pV1 (p:List Int):V:=match p with | []=>dV nilD | _::_=> .c (.own 1)
theorem hP0 (p:List Int)(a b:Bool):errV (if a=true then(if b=true then(42:Int) else 0) else 41) p=if a=true then(if b=true then dV (erD 42 p) else V.c (.d (.v .nilIface))) else dV (erD 41 p):=by
 rw[uG1]
 ·cases a <;> cases b <;> rfl
 ·cases a <;> cases b <;> simp
theorem lP1 (p:List Int)(b:Bool):errV (if b=true then(42:Int) else 0) p=if b=true then dV (erD 42 p) else V.c (.d (.v .nilIface)):=by
 rw[uG1]
 ·cases b <;> rfl
 ·cases b <;> simp
theorem gQ2 (hx:ext 109=none)(x:Tb)(o:Dc)(t:Tm)(p:List Int)(th fa:Dc × Bool)(fi:Int)(r102:∀ c,run prog ext (.call 102 [iV c,pV p] (pO p))=some (.ret [erV c p] (pO p)))
  (h78:run prog ext (.call 78 [tbV x,sV t.s] [])=some (.ret [dcV th.1,bV th.2] []))(h71:run prog ext (.call 71 [tbV x,sV t.s] [])=some (.ret [dcV fa.1,bV fa.2] []))(h22:run prog ext (.call 22 [tbV x,sV t.s] [])=some (.ret [iV fi] [])) :
  run prog ext (.call 109 [tbV x,.c (.ptr 0 0),tmV t,pV1 p] (.box (dcC o)::pO p))=some (.ret [errV (ndO o t th fa fi) p] (.box (dcC o)::pO p)):=by
 have r102':∀ c,run prog ext (.call 102 [iV c,pV p] (pO p))=some (.ret [dV (erD c p)] (pO p)):=fun c=>by rw[r102,nY0]
 have g:∀ a b:Int,¬ a=b→∀ n:Int,(n==a)=true→(n==b)=false:=fun a b h n e=>by
  rw[beq_iff_eq]at e
  rw[e]
  exact beq_false_of_ne h
 unfold ndO
 cases p with
 | nil=>
  cases e2:(t.op==2) with
  | true=>
   have e26:=g _ 26 (by decide) _ e2
   rw[e26,Bool.false_and,if_neg (by decide),gP2 e2,hP0]
   exact gL2 ext hx x o t (fun c=>erD c []) th e2 r102' h78
  | false=>
  cases e26:(t.op==26) with
  | true=>
   have e27:=g _ 27 (by decide) _ e26
   have e28:=g _ 28 (by decide) _ e26
   obtain⟨d,b⟩:=fa
   rw[Bool.true_and]
   cases b with
   | true=>
    rw[Bool.not_true,Bool.false_and,if_neg (by decide),nR0 e2 (by rw[e26];rfl),hP0,if_pos rfl]
    exact pU1 ext hx x o t (fun c=>erD c []) d e2 e26 e27 e28 r102' h71
   | false=>
    rw[Bool.not_false,Bool.true_and]
    cases c4:(t.s.toList==o.name.toList) with
    | false=>
     rw[Bool.false_and,if_neg (by decide),nR0 e2 (by rw[e26];rfl),hP0,if_neg (by simp)]
     exact pO1 ext hx x o t (fun c=>erD c []) d c4 e2 e26 e27 e28 r102' h71
    | true=>
     rw[Bool.true_and]
     by_cases c5:fi<0
     ·rw[decide_eq_true c5,if_pos rfl,lP1]
      exact pS1 ext hx x o t (fun c=>erD c []) d fi c4 c5 e2 e26 e27 e28 r102' h71 h22
     ·rw[decide_eq_false c5,if_neg (by decide),nR0 e2 (by rw[e26];rfl),hP0,if_neg (by simp)]
      exact pQ1 ext hx x o t (fun c=>erD c []) d fi c4 c5 e2 e26 e27 e28 r102' h71 h22
  | false=>
  rw[Bool.false_and,if_neg (by decide)]
  cases e27:(t.op==27) with
  | true=>
   rw[nR0 e2 (by rw[e26,e27];rfl),hP0]
   exact xP1 ext hx x o t (fun c=>erD c []) fa e2 e26 e27 (g _ _ (by decide) _ e27) r102' h71
  | false=>
  cases e28:(t.op==28) with
  | true=>
   rw[nR0 e2 (by rw[e26,e27,e28];rfl),hP0]
   exact xT1 ext hx x o t (fun c=>erD c []) fa e2 e26 e27 e28 r102' h71
  | false=>
   rw[gO2 e2 (by rw[e26,e27,e28];rfl)]
   exact gH2 ext hx x o t e2 e26 e27 e28
 | cons a r=>
  have hs:=hF0 (a::r)
  have q1:pV (a::r) = .c (.own 0):=rfl
  have q2:pO (a::r)=[.stk 1 ((a::r).map inD) none true]:=rfl
  have q3:pV1 (a::r) = .c (.own 1):=rfl
  rw[q1,q2]at r102'
  rw[q2,q3]
  cases e2:(t.op==2) with
  | true=>
   have e26:=g _ 26 (by decide) _ e2
   rw[e26,Bool.false_and,if_neg (by decide),gP2 e2,hP0]
   exact gM2 ext hx x o t (fun c=>erD c (a::r)) th e2 _ hs r102' h78
  | false=>
  cases e26:(t.op==26) with
  | true=>
   have e27:=g _ 27 (by decide) _ e26
   have e28:=g _ 28 (by decide) _ e26
   obtain⟨d,b⟩:=fa
   rw[Bool.true_and]
   cases b with
   | true=>
    rw[Bool.not_true,Bool.false_and,if_neg (by decide),nR0 e2 (by rw[e26];rfl),hP0,if_pos rfl]
    exact pW1 ext hx x o t (fun c=>erD c (a::r)) d e2 e26 e27 e28 _ hs r102' h71
   | false=>
    rw[Bool.not_false,Bool.true_and]
    cases c4:(t.s.toList==o.name.toList) with
    | false=>
     rw[Bool.false_and,if_neg (by decide),nR0 e2 (by rw[e26];rfl),hP0,if_neg (by simp)]
     exact pP1 ext hx x o t (fun c=>erD c (a::r)) d c4 e2 e26 e27 e28 _ hs r102' h71
    | true=>
     rw[Bool.true_and]
     by_cases c5:fi<0
     ·rw[decide_eq_true c5,if_pos rfl,lP1]
      exact pT1 ext hx x o t (fun c=>erD c (a::r)) d fi c4 c5 e2 e26 e27 e28 _ hs r102' h71 h22
     ·rw[decide_eq_false c5,if_neg (by decide),nR0 e2 (by rw[e26];rfl),hP0,if_neg (by simp)]
      exact pR1 ext hx x o t (fun c=>erD c (a::r)) d fi c4 c5 e2 e26 e27 e28 _ hs r102' h71 h22
  | false=>
  rw[Bool.false_and,if_neg (by decide)]
  cases e27:(t.op==27) with
  | true=>
   rw[nR0 e2 (by rw[e26,e27];rfl),hP0]
   exact xQ1 ext hx x o t (fun c=>erD c (a::r)) fa e2 e26 e27 (g _ _ (by decide) _ e27) _ hs r102' h71
  | false=>
  cases e28:(t.op==28) with
  | true=>
   rw[nR0 e2 (by rw[e26,e27,e28];rfl),hP0]
   exact xU1 ext hx x o t (fun c=>erD c (a::r)) fa e2 e26 e27 e28 _ hs r102' h71
  | false=>
   rw[gO2 e2 (by rw[e26,e27,e28];rfl)]
   exact gI2 ext hx x o t e2 e26 e27 e28 _
def E65q (t:Tm)(k:Int):Env:=[(1,.c (.ptr 0 0)),(3,.c (.own 1)),(4,.c (.ptr 2 0)),(22,dV t.lD),(23,iV t.l.length),(24,iV k)]
def O65q (x:Tb)(o:Dc)(els:List (List D)):List O:=[.box (dcC o),.stk 1 els none true,.box [.d x.d]]
def E65p (t:Tm)(k:Int):Env:=[(1,.c (.ptr 0 0)),(3,dV nilD),(4,.c (.ptr 1 0)),(22,dV t.lD),(23,iV t.l.length),(24,iV k)]
def O65p (x:Tb)(o:Dc):List O:=[.box (dcC o),.box [.d x.d]]
theorem lD1 (rec:Rec)(x:Tb)(o:Dc)(t:Tm)(v:D)(rest:List O)(slot:Nat)(hr:rec (.call 109 [tbV x,.c (.ptr 0 0),tmV t,dV nilD] [.box (dcC o)])=some (.ret [dV v] [.box (dcC o)])) :
  cH0 rec (lk (.box (dcC o)::rest)) slot 109 [tbV x,.c (.ptr 0 0),tmV t,dV nilD]=some ⟨.val (dV v),[(0,.box (dcC o))],[0]⟩:=
 aL0 (ids:=[0]) (bor:=[]) (by kernel_rfl) hr (by
  obtain⟨_,_,h3⟩:=bR0 (look:=fun _=>none) (v:=dV v) rfl
  cases hsc:cS0 (dV v) <;> (simp only[bW0,mapO,h3,aZ0,hsc,List.all_cons,List.all_nil,Bool.and_true];rfl))
theorem out65q (hx:ext 65=none)(x:Tb)(o:Dc)(t:Tm)(xs:List D)(els:List (List D))(hs:cP0 els els=true)(r109:run prog ext (.call 109 [tbV x,.c (.ptr 0 0),tmV t,.c (.own 1)] [.box (dcC o),.stk 1 els none true])=some (.ret [V.c (.d (.i 128 xs))] [.box (dcC o),.stk 1 els none true])) :
  run prog ext (.call 65 [tbV x,.c (.ptr 0 0),tmV t,.c (.own 1)] [.box (dcC o),.stk 1 els none true])=some (.ret [V.c (.d (.i 128 xs))] [.box (dcC o),.stk 1 els none true]):=by
 have hd:=nF0 o
 generalize dcC o=cs at hd r109 ⊢
 (rw[enT hx func65 rfl];simp only[f65,zR,simprocAttr,zE])
 simp only[tbV,tbC,tmV,tmC]at r109 ⊢
 simp only[zS,zD,zT24,zT33,aR0,nD0,(id rfl:ownF 109=true),bD1,hd,r109,bE1,bK0,bT0,hs,aX0,Bool.or_true,Nat.zero_ne_one,simprocAttr]
 (refine .trans ?_ rfl;kernel_rfl)
theorem out65p (hx:ext 65=none)(x:Tb)(o:Dc)(t:Tm)(v:Value)(r109:run prog ext (.call 109 [tbV x,.c (.ptr 0 0),tmV t,dV nilD] [.box (dcC o)])=some (.ret [V.c (.d (.v (.iface 128 v)))] [.box (dcC o)])) :
  run prog ext (.call 65 [tbV x,.c (.ptr 0 0),tmV t,dV nilD] [.box (dcC o)])=some (.ret [V.c (.d (.v (.iface 128 v)))] [.box (dcC o)]):=by
 have hC:=fun rest slot=>lD1 (run prog ext) x o t (.v (.iface 128 v)) rest slot r109
 (rw[enT hx func65 rfl];simp only[f65,zR,simprocAttr,zE])
 simp only[tbV,tbC,tmV,tmC,dV,nilD]at hC ⊢
 simp only[zS,zD,zT24,zT33,aR0,hC,aX0,Bool.or_true,simprocAttr]
 (refine .trans ?_ rfl;kernel_rfl)
theorem eE2 (hx:ext 65=none)(x:Tb)(o:Dc)(t:Tm)(els:List (List D))(hs:cP0 els els=true)(r109:run prog ext (.call 109 [tbV x,.c (.ptr 0 0),tmV t,.c (.own 1)] [.box (dcC o),.stk 1 els none true])=some (.ret [V.c (.d (.v .nilIface))] [.box (dcC o),.stk 1 els none true]))(out:Option Out)
  (h:H65a ext 2 (E65q t 0) (O65q x o els)=out):run prog ext (.call 65 [tbV x,.c (.ptr 0 0),tmV t,.c (.own 1)] [.box (dcC o),.stk 1 els none true])=out:=by
 have hd:=nF0 o
 unfold H65a at h
 (rw[enT hx func65 rfl];simp only[f65,zR,simprocAttr,zE])
 simp only[tbV,tbC,tmV,tmC,dV,iV,E65q,O65q]at r109 h ⊢
 simp only[zS,zD,zT24,zT33,zT31,aR0,nD0,(id rfl:ownF 109=true),bD1,hd,r109,bE1,bK0,bT0,hs,aI0,aX0,Bool.or_true,Nat.zero_ne_one,simprocAttr]
 (refine(aA0 ?_).trans h;kernel_rfl)
theorem eD2 (hx:ext 65=none)(x:Tb)(o:Dc)(t:Tm)(r109:run prog ext (.call 109 [tbV x,.c (.ptr 0 0),tmV t,dV nilD] [.box (dcC o)])=some (.ret [V.c (.d (.v .nilIface))] [.box (dcC o)]))(out:Option Out)
  (h:H65a ext 1 (E65p t 0) (O65p x o)=out):run prog ext (.call 65 [tbV x,.c (.ptr 0 0),tmV t,dV nilD] [.box (dcC o)])=out:=by
 have hC:=fun rest slot=>lD1 (run prog ext) x o t (.v .nilIface) rest slot r109
 unfold H65a at h
 (rw[enT hx func65 rfl];simp only[f65,zR,simprocAttr,zE])
 simp only[tbV,tbC,tmV,tmC,dV,iV,nilD,E65p,O65p]at hC h ⊢
 simp only[zS,zD,zT24,zT33,zT31,aR0,hC,aI0,aX0,Bool.or_true,simprocAttr]
 (refine(aA0 ?_).trans h;kernel_rfl)
theorem wI2 (x:Tb)(o:Dc)(t y:Tm)(els:List (List D))(k:Nat)(hk:t.l[k]? = some y)(hl:(k:Int)<t.l.length)(h6:els.length≤1000000000)(hs2:cP0 (els++[[.v (.int .i64 k)]]) (els++[[.v (.int .i64 k)]])=true)
  (r65:run prog ext (.call 65 [tbV x,.c (.ptr 0 0),tmV y,.c (.own 1)] [.box (dcC o),.stk 1 (els++[[.v (.int .i64 k)]]) none true])=some (.ret [V.c (.d (.v .nilIface))] [.box (dcC o),.stk 1 (els++[[.v (.int .i64 k)]]) none true]))(out:Option Out)(h:H65a ext 2 (E65q t (wr ((k:Int)+1))) (O65q x o els)=out):H65a ext 2 (E65q t k) (O65q x o els)=out:=by
 have hd:=nF0 o
 have h0:(0:Int)≤k:=by omega
 unfold H65a at h ⊢
 simp only[tbV,tbC,tmV,tmC,dV,iV,E65q,O65q,bC0 hl]at r65 h ⊢
 (rw[sI0];simp only[B65,K65a,sub,f65,↓reduceIte,zG])
 simp only[zS,zD,zT24,zT33,bL0,aK0,aC0,aD0,Array.size,List.length,h0,hl,Int.toNat_natCast,hk,aH0 y,bsIn,oo43,gN0,bD1,bE1,bT0,hs2,h6,Nat.zero_lt_one,nD0,(id rfl:ownF 65=true),hd,r65,aX0,bK0,simprocAttr]
 rw[aB0 _ _ _ _ (by kernel_rfl)]
 simp only[zS,zD,aR0,aX0,Bool.or_true,simprocAttr]
 (refine(aA0 ?_).trans h;kernel_rfl)
theorem bad65q (x:Tb)(o:Dc)(t y:Tm)(els:List (List D))(xs:List D)(k:Nat)(hk:t.l[k]? = some y)(hl:(k:Int)<t.l.length)(h6:els.length≤1000000000)(hs2:cP0 (els++[[.v (.int .i64 k)]]) (els++[[.v (.int .i64 k)]])=true)
  (r65:run prog ext (.call 65 [tbV x,.c (.ptr 0 0),tmV y,.c (.own 1)] [.box (dcC o),.stk 1 (els++[[.v (.int .i64 k)]]) none true])=some (.ret [V.c (.d (.i 128 xs))] [.box (dcC o),.stk 1 (els++[[.v (.int .i64 k)]]) none true])):H65a ext 2 (E65q t k) (O65q x o els)=some (.ret [V.c (.d (.i 128 xs))] [.box (dcC o),.stk 1 els none true]):=by
 have hd:=nF0 o
 have h0:(0:Int)≤k:=by omega
 unfold H65a
 simp only[tbV,tbC,tmV,tmC,dV,iV,E65q,O65q,bC0 hl]at r65 ⊢
 (rw[sI0];simp only[B65,K65a,sub,f65,↓reduceIte,zG])
 simp only[zS,zD,zT24,zT33,bL0,aK0,aC0,aD0,Array.size,List.length,h0,hl,Int.toNat_natCast,hk,aH0 y,bsIn,oo43,gN0,bD1,bE1,bT0,hs2,h6,Nat.zero_lt_one,nD0,(id rfl:ownF 65=true),hd,r65,aX0,bK0,simprocAttr]
 rw[aB0 _ _ _ _ (by kernel_rfl)]
 simp only[zS,zD,aR0,aX0,Bool.or_true,simprocAttr]
 (refine .trans ?_ rfl;kernel_rfl)
theorem wH2 (x:Tb)(o:Dc)(t y:Tm)(k:Nat)(hk:t.l[k]? = some y)(hl:(k:Int)<t.l.length)
  (r65:run prog ext (.call 65 [tbV x,.c (.ptr 0 0),tmV y,.c (.own 1)] [.box (dcC o),.stk 1 [[.v (.int .i64 k)]] none true])=some (.ret [V.c (.d (.v .nilIface))] [.box (dcC o),.stk 1 [[.v (.int .i64 k)]] none true]))(out:Option Out)(h:H65a ext 1 (E65p t (wr ((k:Int)+1))) (O65p x o)=out):H65a ext 1 (E65p t k) (O65p x o)=out:=by
 have hd:=nF0 o
 have h0:(0:Int)≤k:=by omega
 unfold H65a at h ⊢
 simp only[tbV,tbC,tmV,tmC,dV,iV,nilD,E65p,O65p,bC0 hl]at r65 h ⊢
 (rw[sI0];simp only[B65,K65a,sub,f65,↓reduceIte,zG])
 simp only[zS,zD,zT24,zT33,bL0,aK0,aC0,aD0,Array.size,List.length,h0,hl,Int.toNat_natCast,hk,aH0 y,bsIn,no43,dL0,zO1,(id rfl:gJ0 65=true),zP1,Nat.le_refl,Nat.zero_le,nD0,(id rfl:ownF 65=true),hd,r65,aX0,bK0,simprocAttr]
 rw[aB0 _ _ _ _ (by kernel_rfl)]
 simp only[zS,zD,aR0,aX0,Bool.or_true,simprocAttr]
 (refine(aA0 ?_).trans h;kernel_rfl)
theorem bad65p (x:Tb)(o:Dc)(t y:Tm)(xs:List D)(k:Nat)(hk:t.l[k]? = some y)(hl:(k:Int)<t.l.length)
  (r65:run prog ext (.call 65 [tbV x,.c (.ptr 0 0),tmV y,.c (.own 1)] [.box (dcC o),.stk 1 [[.v (.int .i64 k)]] none true])=some (.ret [V.c (.d (.i 128 xs))] [.box (dcC o),.stk 1 [[.v (.int .i64 k)]] none true])):H65a ext 1 (E65p t k) (O65p x o)=some (.ret [V.c (.d (.i 128 xs))] [.box (dcC o)]):=by
 have hd:=nF0 o
 have h0:(0:Int)≤k:=by omega
 unfold H65a
 simp only[tbV,tbC,tmV,tmC,dV,iV,nilD,E65p,O65p,bC0 hl]at r65 ⊢
 (rw[sI0];simp only[B65,K65a,sub,f65,↓reduceIte,zG])
 simp only[zS,zD,zT24,zT33,bL0,aK0,aC0,aD0,Array.size,List.length,h0,hl,Int.toNat_natCast,hk,aH0 y,bsIn,no43,dL0,zO1,(id rfl:gJ0 65=true),zP1,Nat.le_refl,Nat.zero_le,nD0,(id rfl:ownF 65=true),hd,r65,aX0,bK0,simprocAttr]
 rw[aB0 _ _ _ _ (by kernel_rfl)]
 simp only[zS,zD,aR0,aX0,Bool.or_true,simprocAttr]
 (refine .trans ?_ rfl;kernel_rfl)
theorem pZ2 (x:Tb)(o:Dc)(t:Tm)(els:List (List D)):H65a ext 2 (E65q t t.l.length) (O65q x o els)=some (.ret [V.c (.d (.v .nilIface))] [.box (dcC o),.stk 1 els none true]):=by
 unfold H65a
 simp only[dV,iV,E65q,O65q]
 (rw[sI0];simp only[B65,K65a,sub,f65,↓reduceIte,zG])
 simp only[zS,zD,Int.lt_irrefl,simprocAttr]
 (refine .trans ?_ rfl;kernel_rfl)
theorem pY2 (x:Tb)(o:Dc)(t:Tm):H65a ext 1 (E65p t t.l.length) (O65p x o)=some (.ret [V.c (.d (.v .nilIface))] [.box (dcC o)]):=by
 unfold H65a
 simp only[dV,iV,nilD,E65p,O65p]
 (rw[sI0];simp only[B65,K65a,sub,f65,↓reduceIte,zG])
 simp only[zS,zD,Int.lt_irrefl,simprocAttr]
 (refine .trans ?_ rfl;kernel_rfl)
theorem mM1 (e:Tm→Int)(hx:ext 65=none)(x:Tb)(o:Dc)(I:Tm→Prop)(hI:∀ t,I t→∀ y∈t.l,I y)
  (r109:∀ (t:Tm) (p:List Int),I t→p.length<2^29→run prog ext (.call 109 [tbV x,.c (.ptr 0 0),tmV t,pV1 p] (.box (dcC o)::pO p))=some (.ret [errV (e t) p] (.box (dcC o)::pO p))) :
  ∀ (N:Nat) (t:Tm),t.sz≤N→I t→∀ p:List Int,p.length+N<2^29→run prog ext (.call 65 [tbV x,.c (.ptr 0 0),tmV t,pV1 p] (.box (dcC o)::pO p))=some (.ret [resV p (firstE e t)] (.box (dcC o)::pO p))
 | 0,t,h,_,_,_=>by have:=t.sz_pos;omega
 | N+1,t,h,hi,p,hp=>by
  have hll:=t.len_lt
  have h109:=r109 t p hi (by omega)
  have ih:∀ (k:Nat) (y:Tm),t.l[k]? = some y→run prog ext (.call 65 [tbV x,.c (.ptr 0 0),tmV y,.c (.own 1)] [.box (dcC o),.stk 1 ((p++[(k:Int)]).map inD) none true])=some (.ret [resV (p++[(k:Int)]) (firstE e y)] [.box (dcC o),.stk 1 ((p++[(k:Int)]).map inD) none true]):=by
   intro k y hk
   have:=mM1 e hx x o I hI r109 N y (by have:=Tm.sz_lt (List.mem_of_getElem? hk);omega) (hI t hi y (List.mem_of_getElem? hk)) (p++[(k:Int)]) (by simp;omega)
   cases p with
   | nil=>exact this
   | cons a r=>exact this
  have hbad:∀ (k:Nat) (q:Int × List Int),∃ xs,erV q.1 (p++((k:Int)::q.2))=V.c (.d (.i 128 xs)):=by
   intro k q
   cases p with
   | nil=>exact⟨_,rfl⟩
   | cons a r=>exact⟨_,rfl⟩
  rw[pL0]
  by_cases c:e t=0
  case neg=>
   rw[if_neg c]
   have e1:errV (e t) p=erV (e t) p:=if_neg c
   have e2:resV p (some (e t,[]))=erV (e t) p:=by simp[resV]
   rw[e1]at h109
   rw[e2]
   cases p with
   | nil=>exact out65p ext hx x o t _ h109
   | cons a r=>exact out65q ext hx x o t _ _ (hF0 (a::r)) h109
  rw[if_pos c]
  have e1:errV (e t) p=V.c (.d (.v .nilIface)):=if_pos c
  rw[e1]at h109
  cases p with
  | nil=>
   refine eD2 ext hx x o t h109 _ ?_
   have:=dK0 t.l (fun k=>H65a ext 1 (E65p t k) (O65p x o)) (kL0 e) (fun q=>some (.ret [resV [] (some q)] [.box (dcC o)])) (some (.ret [V.c (.d (.v .nilIface))] [.box (dcC o)])) (by omega) (fun k y hk hl=>by
    have hr:=ih k y hk
    unfold kL0
    cases hf:firstE e y with
    | none=>
     rw[hf]at hr
     exact fun out ho=>wH2 ext x o t y k hk hl hr out ho
    | some q=>
     rw[hf]at hr
     obtain⟨xs,hxs⟩:=hbad k q
     have e3:resV ([]++[(k:Int)]) (some q)=V.c (.d (.i 128 xs)):=by rw[← hxs];simp[resV]
     have e5:resV [] (some (q.1,(k:Int)::q.2))=V.c (.d (.i 128 xs)):=by rw[← hxs];rfl
     rw[e3]at hr
     show _=some (Out.ret [resV [] (some (q.1,(k:Int)::q.2))] [.box (dcC o)])
     rw[e5]
     exact bad65p ext x o t y xs k hk hl hr) (pY2 ext x o t)
   rw[this]
   cases bH0 (kL0 e) 0 t.l <;> rfl
  | cons a r=>
   have hs:=hF0 (a::r)
   refine eE2 ext hx x o t _ hs h109 _ ?_
   have:=dK0 t.l (fun k=>H65a ext 2 (E65q t k) (O65q x o ((a::r).map inD))) (kL0 e) (fun q=>some (.ret [resV (a::r) (some q)] (.box (dcC o)::pO (a::r)))) (some (.ret [V.c (.d (.v .nilIface))] (.box (dcC o)::pO (a::r)))) (by omega) (fun k y hk hl=>by
    have hr:=ih k y hk
    rw[List.map_append]at hr
    have h6:((a::r).map inD).length≤1000000000:=by simp only[List.length_map];simp only[List.length_cons]at hp ⊢;omega
    unfold kL0
    cases hf:firstE e y with
    | none=>
     rw[hf]at hr
     exact fun out ho=>wI2 ext x o t y _ k hk hl h6 (kI0 (a::r) k) hr out ho
    | some q=>
     rw[hf]at hr
     obtain⟨xs,hxs⟩:=hbad k q
     have e3:resV ((a::r)++[(k:Int)]) (some q)=V.c (.d (.i 128 xs)):=by rw[← hxs];simp[resV]
     have e5:resV (a::r) (some (q.1,(k:Int)::q.2))=V.c (.d (.i 128 xs)):=by rw[← hxs];rfl
     rw[e3]at hr
     show _=some (Out.ret [resV (a::r) (some (q.1,(k:Int)::q.2))] (.box (dcC o)::pO (a::r)))
     rw[e5]
     exact bad65q ext x o t y _ xs k hk hl h6 (kI0 (a::r) k) hr) (pZ2 ext x o t _)
   rw[this]
   cases bH0 (kL0 e) 0 t.l <;> rfl
end
end Go.Proofs.YteenjodhmppgjaaGreatDoor.Am
