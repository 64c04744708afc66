/- A part of the proof of a card. No conditions. -/
import Derived.Test.YteenjodhmppgjaaGreatDoorPc5
set_option linter.all false
set_option maxHeartbeats 16000000
set_option maxRecDepth 10000
namespace Go.Proofs.YteenjodhmppgjaaGreatDoor.Am
open Go.Proofs.Tryz
section
open Go
variable (ext:Ext)
noncomputable def B65 : Code:=(f65.body.getD .skip)
noncomputable def L65a : Code:=sub B65 [1,1,0,1,0,0]
theorem sI0 : It.code L65a=It.code (sub B65 [1,1,0,1,0,0]):=rfl
noncomputable def K65a : List It:=[.inBlock 0,.code (sub B65 [1,1,1])]
noncomputable def H65a (ext:Ext)(m:Nat)(env:Env)(loc:List O):Option Out:=run prog ext (.k ⟨41,m,[.tmp 8],false⟩ (.code L65a :: .inLoop L65a::K65a) env loc)
def erD (c:Int)(p:List Int):D:=match p with
 | []=> .v (.iface 128 (.agg #[.int .i64 c,.slice none 0 0]))
 | a::r=> .i 128 [.v (.int .i64 c),.s 1 ((a::r).map inD)]
theorem nY0 (c:Int)(p:List Int):erV c p=dV (erD c p):=by cases p <;> rfl
def nptr : V:=dV (.v (.pointer none))
theorem gP2 {t:Tm}{th fa:Dc × Bool} (h:(t.op==2)=true):ndE t th fa=if th.2=true then(if((t.u.length:Int) != th.1.levels)=true then 42 else 0) else 41:=by unfold ndE;rw[if_pos h]
theorem nR0 {t:Tm}{th fa:Dc × Bool} (h:(t.op==2)=false)(h':((t.op==26)||((t.op==27)||(t.op==28)))=true):ndE t th fa=if fa.2=true then(if arB t fa.1=true then 42 else 0) else 41:=by unfold ndE;rw[if_neg (by rw[h];decide),if_pos h']
theorem gO2 {t:Tm}{th fa:Dc × Bool} (h:(t.op==2)=false)(h':((t.op==26)||((t.op==27)||(t.op==28)))=false):ndE t th fa=0:=by unfold ndE;rw[if_neg (by rw[h];decide),if_neg (by rw[h'];decide)]
theorem sX2 (hx:ext 109=none)(x:Tb)(t:Tm)(p:List Int)(th fa:Dc × Bool)(r102:∀ c,run prog ext (.call 102 [iV c,pV p] (pO p))=some (.ret [erV c p] (pO p)))
  (h78:run prog ext (.call 78 [tbV x,sV t.s] [])=some (.ret [dcV th.1,bV th.2] []))(h71:run prog ext (.call 71 [tbV x,sV t.s] [])=some (.ret [dcV fa.1,bV fa.2] [])) :
  run prog ext (.call 109 [tbV x,nptr,tmV t,pV p] (pO p))=some (.ret [errV (ndE t th fa) p] (pO p)):=by
 have e0:∀ e:Int,e=0∨e=41∨e=42→errV e p=if e=0 then V.c (.d (.v .nilIface)) else dV (erD e p):=by
  intro e h
  rcases h with rfl | rfl | rfl
  ·rfl
  ·rw[uE1,nY0];rfl
  ·rw[uF1,nY0];rfl
 have r102':∀ c,run prog ext (.call 102 [iV c,pV p] (pO p))=some (.ret [dV (erD c p)] (pO p)):=fun c=>by rw[r102,nY0]
 have hnd:ndE t th fa=0∨ndE t th fa=41∨ndE t th fa=42:=by
  unfold ndE
  repeat' split
  all_goals simp
 rw[e0 _ hnd]
 have key2:∀ b:Bool,(if(if th.2=true then(if b=true then(42:Int) else 0) else 41)=0 then V.c (.d (.v .nilIface)) else dV (erD (if th.2=true then(if b=true then 42 else 0) else 41) p))=if th.2=true then(if b=true then dV (erD 42 p) else V.c (.d (.v .nilIface))) else dV (erD 41 p):=by
  intro b;cases th.2 <;> cases b <;> rfl
 have keyf:∀ b:Bool,(if(if fa.2=true then(if b=true then(42:Int) else 0) else 41)=0 then V.c (.d (.v .nilIface)) else dV (erD (if fa.2=true then(if b=true then 42 else 0) else 41) p))=if fa.2=true then(if b=true then dV (erD 42 p) else V.c (.d (.v .nilIface))) else dV (erD 41 p):=by
  intro b;cases fa.2 <;> cases b <;> rfl
 unfold nptr
 cases p with
 | nil=>
  cases e2:(t.op==2) with
  | true=>rw[gP2 e2,key2];exact gK2 ext hx x t (fun c=>erD c []) th e2 r102' h78
  | false=>
   cases e26:(t.op==26) with
   | true=>
    have e27:(t.op==27)=false:=by rw[beq_iff_eq]at e26;rw[e26];rfl
    have e28:(t.op==28)=false:=by rw[beq_iff_eq]at e26;rw[e26];rfl
    rw[nR0 e2 (by rw[e26];rfl),keyf]
    exact xM1 ext hx x t (fun c=>erD c []) fa e2 e26 e27 e28 r102' h71
   | false=>
    cases e27:(t.op==27) with
    | true=>
     have e28:(t.op==28)=false:=by rw[beq_iff_eq]at e27;rw[e27];rfl
     rw[nR0 e2 (by rw[e26,e27];rfl),keyf]
     exact xO1 ext hx x t (fun c=>erD c []) fa e2 e26 e27 e28 r102' h71
    | false=>
     cases e28:(t.op==28) with
     | true=>
      rw[nR0 e2 (by rw[e26,e27,e28];rfl),keyf]
      exact xS1 ext hx x t (fun c=>erD c []) fa e2 e26 e27 e28 r102' h71
     | false=>
      rw[gO2 e2 (by rw[e26,e27,e28];rfl),if_pos rfl]
      exact gG2 ext hx x t e2 e26 e27 e28
 | cons a r=>
  have hs:=hF0 (a::r)
  have q1:pV (a::r) = .c (.own 0):=rfl
  have q2:pO (a::r)=[.stk 1 ((a::r).map inD) none true]:=rfl
  rw[q1,q2]at r102'
  rw[q1,q2]
  cases e2:(t.op==2) with
  | true=>rw[gP2 e2,key2];exact gN2 ext hx x t (fun c=>erD c (a::r)) th e2 _ hs r102' h78
  | false=>
   cases e26:(t.op==26) with
   | true=>
    have e27:(t.op==27)=false:=by rw[beq_iff_eq]at e26;rw[e26];rfl
    have e28:(t.op==28)=false:=by rw[beq_iff_eq]at e26;rw[e26];rfl
    rw[nR0 e2 (by rw[e26];rfl),keyf]
    exact xN1 ext hx x t (fun c=>erD c (a::r)) fa e2 e26 e27 e28 _ hs r102' h71
   | false=>
    cases e27:(t.op==27) with
    | true=>
     have e28:(t.op==28)=false:=by rw[beq_iff_eq]at e27;rw[e27];rfl
     rw[nR0 e2 (by rw[e26,e27];rfl),keyf]
     exact xR1 ext hx x t (fun c=>erD c (a::r)) fa e2 e26 e27 e28 _ hs r102' h71
    | false=>
     cases e28:(t.op==28) with
     | true=>
      rw[nR0 e2 (by rw[e26,e27,e28];rfl),keyf]
      exact xV1 ext hx x t (fun c=>erD c (a::r)) fa e2 e26 e27 e28 _ hs r102' h71
     | false=>
      rw[gO2 e2 (by rw[e26,e27,e28];rfl),if_pos rfl]
      exact gJ2 ext hx x t e2 e26 e27 e28 _
def E65s (t:Tm)(k:Int):Env:=[(1,nptr),(3,.c (.own 0)),(4,.c (.ptr 1 0)),(22,dV t.lD),(23,iV t.l.length),(24,iV k)]
def O65s (x:Tb)(els:List (List D)):List O:=[.stk 1 els none true,.box [.d x.d]]
def E65n (t:Tm)(k:Int):Env:=[(1,nptr),(3,dV nilD),(4,.c (.ptr 0 0)),(22,dV t.lD),(23,iV t.l.length),(24,iV k)]
def O65n (x:Tb):List O:=[.box [.d x.d]]
theorem out65s (hx:ext 65=none)(x:Tb)(t:Tm)(xs:List D)(els:List (List D))(hs:cP0 els els=true)(r109:run prog ext (.call 109 [tbV x,nptr,tmV t,.c (.own 0)] [.stk 1 els none true])=some (.ret [V.c (.d (.i 128 xs))] [.stk 1 els none true])) :
  run prog ext (.call 65 [tbV x,nptr,tmV t,.c (.own 0)] [.stk 1 els none true])=some (.ret [V.c (.d (.i 128 xs))] [.stk 1 els none true]):=by
 (rw[enT hx func65 rfl];simp only[f65,zR,simprocAttr,zE])
 simp only[nptr,tbV,tbC,tmV,tmC,dV]at r109 ⊢
 simp only[zS,zD,zT24,zT33,aR0,kB0,(id rfl:ownF 109=true),aN0,r109,aW0,bT0,hs,aX0,Bool.or_true,simprocAttr]
 (refine .trans ?_ rfl;kernel_rfl)
theorem out65n (hx:ext 65=none)(x:Tb)(t:Tm)(v:Value)(r109:run prog ext (.call 109 [tbV x,nptr,tmV t,dV nilD] [])=some (.ret [V.c (.d (.v (.iface 128 v)))] [])) :
  run prog ext (.call 65 [tbV x,nptr,tmV t,dV nilD] [])=some (.ret [V.c (.d (.v (.iface 128 v)))] []):=by
 (rw[enT hx func65 rfl];simp only[f65,zR,simprocAttr,zE])
 simp only[nptr,tbV,tbC,tmV,tmC,dV,nilD]at r109 ⊢
 simp only[zS,zD,zT24,zT33,aR0,r109,aX0,Bool.or_true,simprocAttr]
 (refine .trans ?_ rfl;kernel_rfl)
theorem eF2 (hx:ext 65=none)(x:Tb)(t:Tm)(els:List (List D))(hs:cP0 els els=true)(r109:run prog ext (.call 109 [tbV x,nptr,tmV t,.c (.own 0)] [.stk 1 els none true])=some (.ret [V.c (.d (.v .nilIface))] [.stk 1 els none true]))(out:Option Out)
  (h:H65a ext 1 (E65s t 0) (O65s x els)=out):run prog ext (.call 65 [tbV x,nptr,tmV t,.c (.own 0)] [.stk 1 els none true])=out:=by
 unfold H65a at h
 (rw[enT hx func65 rfl];simp only[f65,zR,simprocAttr,zE])
 simp only[nptr,tbV,tbC,tmV,tmC,dV,iV,E65s,O65s]at r109 h ⊢
 simp only[zS,zD,zT24,zT33,zT31,aR0,kB0,(id rfl:ownF 109=true),aN0,r109,aW0,bT0,hs,aI0,aX0,Bool.or_true,simprocAttr]
 (refine(aA0 ?_).trans h;kernel_rfl)
theorem eC2 (hx:ext 65=none)(x:Tb)(t:Tm)(r109:run prog ext (.call 109 [tbV x,nptr,tmV t,dV nilD] [])=some (.ret [V.c (.d (.v .nilIface))] []))(out:Option Out)
  (h:H65a ext 0 (E65n t 0) (O65n x)=out):run prog ext (.call 65 [tbV x,nptr,tmV t,dV nilD] [])=out:=by
 unfold H65a at h
 (rw[enT hx func65 rfl];simp only[f65,zR,simprocAttr,zE])
 simp only[nptr,tbV,tbC,tmV,tmC,dV,iV,nilD,E65n,O65n]at r109 h ⊢
 simp only[zS,zD,zT24,zT33,zT31,aR0,r109,aI0,aX0,Bool.or_true,simprocAttr]
 (refine(aA0 ?_).trans h;kernel_rfl)
theorem wJ2 (x:Tb)(t y:Tm)(els:List (List D))(k:Nat)(hk:t.l[k]? = some y)(hl:(k:Int)<t.l.length)(h6:els.length≤1000000000)(hs2:cP0 (els++[[.v (.int .i64 k)]]) (els++[[.v (.int .i64 k)]])=true)
  (r65:run prog ext (.call 65 [tbV x,nptr,tmV y,.c (.own 0)] [.stk 1 (els++[[.v (.int .i64 k)]]) none true])=some (.ret [V.c (.d (.v .nilIface))] [.stk 1 (els++[[.v (.int .i64 k)]]) none true]))(out:Option Out)(h:H65a ext 1 (E65s t (wr ((k:Int)+1))) (O65s x els)=out):H65a ext 1 (E65s t k) (O65s x els)=out:=by
 have h0:(0:Int)≤k:=by omega
 unfold H65a at h ⊢
 simp only[nptr,tbV,tbC,tmV,tmC,dV,iV,E65s,O65s,bC0 hl]at r65 h ⊢
 (rw[sI0];simp only[B65,K65a,sub,f65,↓reduceIte,zG])
 simp only[zS,zD,zT24,zT33,bL0,aK0,aC0,aD0,Array.size,List.length,h0,hl,Int.toNat_natCast,hk,aH0 y,bsIn,oo43,gN0,aN0,aW0,bT0,hs2,h6,Nat.zero_lt_one,kB0,(id rfl:ownF 65=true),r65,aX0,simprocAttr]
 rw[aB0 _ _ _ _ (by kernel_rfl)]
 simp only[zS,zD,aR0,aX0,Bool.or_true,simprocAttr]
 (refine(aA0 ?_).trans h;kernel_rfl)
theorem bad65s (x:Tb)(t y:Tm)(els:List (List D))(xs:List D)(k:Nat)(hk:t.l[k]? = some y)(hl:(k:Int)<t.l.length)(h6:els.length≤1000000000)(hs2:cP0 (els++[[.v (.int .i64 k)]]) (els++[[.v (.int .i64 k)]])=true)
  (r65:run prog ext (.call 65 [tbV x,nptr,tmV y,.c (.own 0)] [.stk 1 (els++[[.v (.int .i64 k)]]) none true])=some (.ret [V.c (.d (.i 128 xs))] [.stk 1 (els++[[.v (.int .i64 k)]]) none true])):H65a ext 1 (E65s t k) (O65s x els)=some (.ret [V.c (.d (.i 128 xs))] [.stk 1 els none true]):=by
 have h0:(0:Int)≤k:=by omega
 unfold H65a
 simp only[nptr,tbV,tbC,tmV,tmC,dV,iV,E65s,O65s,bC0 hl]at r65 ⊢
 (rw[sI0];simp only[B65,K65a,sub,f65,↓reduceIte,zG])
 simp only[zS,zD,zT24,zT33,bL0,aK0,aC0,aD0,Array.size,List.length,h0,hl,Int.toNat_natCast,hk,aH0 y,bsIn,oo43,gN0,aN0,aW0,bT0,hs2,h6,Nat.zero_lt_one,kB0,(id rfl:ownF 65=true),r65,aX0,simprocAttr]
 rw[aB0 _ _ _ _ (by kernel_rfl)]
 simp only[zS,zD,aR0,aX0,Bool.or_true,simprocAttr]
 (refine .trans ?_ rfl;kernel_rfl)
theorem wG2 (x:Tb)(t y:Tm)(k:Nat)(hk:t.l[k]? = some y)(hl:(k:Int)<t.l.length)
  (r65:run prog ext (.call 65 [tbV x,nptr,tmV y,.c (.own 0)] [.stk 1 [[.v (.int .i64 k)]] none true])=some (.ret [V.c (.d (.v .nilIface))] [.stk 1 [[.v (.int .i64 k)]] none true]))(out:Option Out)(h:H65a ext 0 (E65n t (wr ((k:Int)+1))) (O65n x)=out):H65a ext 0 (E65n t k) (O65n x)=out:=by
 have h0:(0:Int)≤k:=by omega
 unfold H65a at h ⊢
 simp only[nptr,tbV,tbC,tmV,tmC,dV,iV,nilD,E65n,O65n,bC0 hl]at r65 h ⊢
 (rw[sI0];simp only[B65,K65a,sub,f65,↓reduceIte,zG])
 simp only[zS,zD,zT24,zT33,bL0,aK0,aC0,aD0,Array.size,List.length,h0,hl,Int.toNat_natCast,hk,aH0 y,bsIn,no43,dL0,aZ1,(id rfl:gJ0 65=true),bA1,bK0,Nat.le_refl,Nat.zero_le,kB0,(id rfl:ownF 65=true),r65,aX0,simprocAttr]
 rw[aB0 _ _ _ _ (by kernel_rfl)]
 simp only[zS,zD,aR0,aX0,Bool.or_true,simprocAttr]
 (refine(aA0 ?_).trans h;kernel_rfl)
theorem bad65n (x:Tb)(t y:Tm)(xs:List D)(k:Nat)(hk:t.l[k]? = some y)(hl:(k:Int)<t.l.length)
  (r65:run prog ext (.call 65 [tbV x,nptr,tmV y,.c (.own 0)] [.stk 1 [[.v (.int .i64 k)]] none true])=some (.ret [V.c (.d (.i 128 xs))] [.stk 1 [[.v (.int .i64 k)]] none true])):H65a ext 0 (E65n t k) (O65n x)=some (.ret [V.c (.d (.i 128 xs))] []):=by
 have h0:(0:Int)≤k:=by omega
 unfold H65a
 simp only[nptr,tbV,tbC,tmV,tmC,dV,iV,nilD,E65n,O65n,bC0 hl]at r65 ⊢
 (rw[sI0];simp only[B65,K65a,sub,f65,↓reduceIte,zG])
 simp only[zS,zD,zT24,zT33,bL0,aK0,aC0,aD0,Array.size,List.length,h0,hl,Int.toNat_natCast,hk,aH0 y,bsIn,no43,dL0,aZ1,(id rfl:gJ0 65=true),bA1,bK0,Nat.le_refl,Nat.zero_le,kB0,(id rfl:ownF 65=true),r65,aX0,simprocAttr]
 rw[aB0 _ _ _ _ (by kernel_rfl)]
 simp only[zS,zD,aR0,aX0,Bool.or_true,simprocAttr]
 (refine .trans ?_ rfl;kernel_rfl)
theorem qA2 (x:Tb)(t:Tm)(els:List (List D)):H65a ext 1 (E65s t t.l.length) (O65s x els)=some (.ret [V.c (.d (.v .nilIface))] [.stk 1 els none true]):=by
 unfold H65a
 simp only[nptr,dV,iV,E65s,O65s]
 (rw[sI0];simp only[B65,K65a,sub,f65,↓reduceIte,zG])
 simp only[zS,zD,Int.lt_irrefl,simprocAttr]
 (refine .trans ?_ rfl;kernel_rfl)
theorem pX2 (x:Tb)(t:Tm):H65a ext 0 (E65n t t.l.length) (O65n x)=some (.ret [V.c (.d (.v .nilIface))] []):=by
 unfold H65a
 simp only[nptr,dV,iV,nilD,E65n,O65n]
 (rw[sI0];simp only[B65,K65a,sub,f65,↓reduceIte,zG])
 simp only[zS,zD,Int.lt_irrefl,simprocAttr]
 (refine .trans ?_ rfl;kernel_rfl)
end
section
open Go
variable (ext:Ext)
def bH0 {α ρ:Type} (f:Nat→α→Option ρ):Nat→List α→Option ρ
 | _,[]=>none
 | k,x::l=>match f k x with
  | some r=>some r
  | none=>bH0 f (k+1) l
theorem dK0 {α ρ:Type} (l:List α)(S:Int→Option Out)(f:Nat→α→Option ρ)(g:ρ→Option Out)(fin:Option Out)(hl:l.length<2^62)
  (hstep:∀ (k:Nat) (x:α),l[k]? = some x→(k:Int)<l.length→match f k x with | some r=>S k=g r | none=>∀ out,S (wr ((k:Int)+1))=out→S k=out)
  (hdone:S l.length=fin):S 0=match bH0 f 0 l with | some r=>g r | none=>fin:=by
 have key:∀ (m k:Nat),k+m=l.length→S k=match bH0 f k (l.drop k) with | some r=>g r | none=>fin:=by
  intro m
  induction m with
  | zero=>
   intro k hk
   rw[List.drop_eq_nil_of_le (by omega),show k=l.length by omega]
   exact hdone
  | succ m ih=>
   intro k hk
   have hlt:k<l.length:=by omega
   rw[List.drop_eq_getElem_cons hlt,bH0]
   have h:=hstep k l[k] (by simp[hlt]) (by omega)
   cases hp:f k l[k] with
   | some r=>rw[hp]at h;simpa using h
   | none=>
    rw[hp]at h
    dsimp only at h ⊢
    refine h _ ?_
    rw[gL0 (by omega) (by omega)]
    rw[show((k:Int)+1)=((k+1:Nat):Int) by omega,ih (k+1) (by omega)]
 simpa using key l.length 0 (by omega)
def firstE (e:Tm→Int):Tm→Option (Int × List Int)
 | .mk op n s u zu l zl=>if e (.mk op n s u zu l zl)=0 then go 0 l else some (e (.mk op n s u zu l zl),[])
where go:Nat→List Tm→Option (Int × List Int)
 | _,[]=>none
 | k,y::r=>match firstE e y with
  | some q=>some (q.1,(k:Int)::q.2)
  | none=>go (k+1) r
def kL0 (e:Tm→Int)(k:Nat)(y:Tm):Option (Int × List Int):=(firstE e y).map fun q=>(q.1,(k:Int)::q.2)
theorem eA1 (e:Tm→Int):∀ (l:List Tm)(k:Nat),firstE.go e k l=bH0 (kL0 e) k l
 | [],k=>by simp only[firstE.go,bH0]
 | y::r,k=>by
  simp only[firstE.go,bH0,kL0,eA1 e r]
  cases firstE e y <;> rfl
theorem pL0 (e:Tm→Int)(t:Tm):firstE e t=if e t=0 then bH0 (kL0 e) 0 t.l else some (e t,[]):=by
 cases t;simp only[firstE,eA1,Tm.l]
def resV (p:List Int):Option (Int × List Int)→V
 | none=> .c (.d (.v .nilIface))
 | some q=>erV q.1 (p++q.2)
theorem xJ1 (e:Tm→Int)(hx:ext 65=none)(x:Tb)(I:Tm→Prop)(hI:∀ t,I t→∀ y∈t.l,I y)
  (r109:∀ (t:Tm) (p:List Int),I t→p.length<2^29→run prog ext (.call 109 [tbV x,nptr,tmV t,pV p] (pO p))=some (.ret [errV (e t) p] (pO p))) :
  ∀ (N:Nat) (t:Tm),t.sz≤N→I t→∀ p:List Int,p.length+N<2^29→run prog ext (.call 65 [tbV x,nptr,tmV t,pV p] (pO p))=some (.ret [resV p (firstE e t)] (pO p))
 | 0,t,h,_,_,_=>by have:=t.sz_pos;omega
 | N+1,t,h,hi,p,hp=>by
  have hll:=t.len_lt
  have h109:=r109 t p hi (by omega)
  have ih:∀ (k:Nat) (y:Tm),t.l[k]? = some y→run prog ext (.call 65 [tbV x,nptr,tmV y,.c (.own 0)] [.stk 1 ((p++[(k:Int)]).map inD) none true])=some (.ret [resV (p++[(k:Int)]) (firstE e y)] [.stk 1 ((p++[(k:Int)]).map inD) none true]):=by
   intro k y hk
   have:=xJ1 e hx x I hI r109 N y (by have:=Tm.sz_lt (List.mem_of_getElem? hk);omega) (hI t hi y (List.mem_of_getElem? hk)) (p++[(k:Int)]) (by simp;omega)
   cases p with
   | nil=>exact this
   | cons a r=>exact this
  have hbad:∀ (k:Nat) (q:Int × List Int),∃ xs,erV q.1 (p++((k:Int)::q.2))=V.c (.d (.i 128 xs)):=by
   intro k q
   cases p with
   | nil=>exact⟨_,rfl⟩
   | cons a r=>exact⟨_,rfl⟩
  rw[pL0]
  by_cases c:e t=0
  case neg=>
   rw[if_neg c]
   have e1:errV (e t) p=erV (e t) p:=if_neg c
   have e2:resV p (some (e t,[]))=erV (e t) p:=by simp[resV]
   rw[e1]at h109
   rw[e2]
   cases p with
   | nil=>exact out65n ext hx x t _ h109
   | cons a r=>exact out65s ext hx x t _ _ (hF0 (a::r)) h109
  rw[if_pos c]
  have e1:errV (e t) p=V.c (.d (.v .nilIface)):=if_pos c
  rw[e1]at h109
  cases p with
  | nil=>
   refine eC2 ext hx x t h109 _ ?_
   have:=dK0 t.l (fun k=>H65a ext 0 (E65n t k) (O65n x)) (kL0 e) (fun q=>some (.ret [resV [] (some q)] [])) (some (.ret [V.c (.d (.v .nilIface))] [])) (by omega) (fun k y hk hl=>by
    have hr:=ih k y hk
    unfold kL0
    cases hf:firstE e y with
    | none=>
     rw[hf]at hr
     exact fun out ho=>wG2 ext x t y k hk hl hr out ho
    | some q=>
     rw[hf]at hr
     obtain⟨xs,hxs⟩:=hbad k q
     have e3:resV ([]++[(k:Int)]) (some q)=V.c (.d (.i 128 xs)):=by rw[← hxs];simp[resV]
     have e4:resV [] ((some q).map fun q=>(q.1,(k:Int)::q.2))=V.c (.d (.i 128 xs)):=by rw[← hxs];rfl
     rw[e3]at hr
     show _=some (Out.ret [resV [] (some (q.1,(k:Int)::q.2))] [])
     have e5:resV [] (some (q.1,(k:Int)::q.2))=V.c (.d (.i 128 xs)):=e4
     rw[e5]
     exact bad65n ext x t y xs k hk hl hr) (pX2 ext x t)
   rw[this]
   cases bH0 (kL0 e) 0 t.l <;> rfl
  | cons a r=>
   have hs:=hF0 (a::r)
   refine eF2 ext hx x t _ hs h109 _ ?_
   have:=dK0 t.l (fun k=>H65a ext 1 (E65s t k) (O65s x ((a::r).map inD))) (kL0 e) (fun q=>some (.ret [resV (a::r) (some q)] (pO (a::r)))) (some (.ret [V.c (.d (.v .nilIface))] (pO (a::r)))) (by omega) (fun k y hk hl=>by
    have hr:=ih k y hk
    rw[List.map_append]at hr
    have h6:((a::r).map inD).length≤1000000000:=by simp only[List.length_map];simp only[List.length_cons]at hp ⊢;omega
    unfold kL0
    cases hf:firstE e y with
    | none=>
     rw[hf]at hr
     exact fun out ho=>wJ2 ext x t y _ k hk hl h6 (kI0 (a::r) k) hr out ho
    | some q=>
     rw[hf]at hr
     obtain⟨xs,hxs⟩:=hbad k q
     have e3:resV ((a::r)++[(k:Int)]) (some q)=V.c (.d (.i 128 xs)):=by rw[← hxs];simp[resV]
     have e5:resV (a::r) (some (q.1,(k:Int)::q.2))=V.c (.d (.i 128 xs)):=by rw[← hxs];rfl
     rw[e3]at hr
     show _=some (Out.ret [resV (a::r) (some (q.1,(k:Int)::q.2))] (pO (a::r)))
     rw[e5]
     exact bad65s ext x t y _ xs k hk hl h6 (kI0 (a::r) k) hr) (qA2 ext x t _)
   rw[this]
   cases bH0 (kL0 e) 0 t.l <;> rfl
end
end Go.Proofs.YteenjodhmppgjaaGreatDoor.Am
