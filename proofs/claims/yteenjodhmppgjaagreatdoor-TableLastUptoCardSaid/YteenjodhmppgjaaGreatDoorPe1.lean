/- A part of the proof of a card. No conditions. -/
import Derived.Test.YteenjodhmppgjaaGreatDoorPc8
import Derived.Test.YteenjodhmppgjaaGreatDoorPd5
import Derived.Test.YteenjodhmppgjaaGreatDoorPb7
set_option linter.all false
set_option maxHeartbeats 16000000
set_option maxRecDepth 10000
namespace Go.Proofs.YteenjodhmppgjaaGreatDoor.Am
open Go.Proofs.Tryz
section
open Go
variable (ext:Ext)
def jI0 (x:Tm):Bool:=(decide ((x.nd:Int)≤2000)&&decide ((x.dp:Int)≤200))&&formOK x
theorem iQ2 (hx:ext 215=none)(x:Tm)(r:run prog ext (.call 244 [tmV x] [])=some (.ret [iV x.nd,iV x.dp] []))(rf:run prog ext (.call 64 [tmV x] [])=some (.ret [bV (formOK x)] [])):run prog ext (.call 215 [tmV x] [])=some (.ret [bV (jI0 x)] []):=by
 unfold jI0
 cases c1:decide ((x.nd:Int)≤2000)
 all_goals cases c2:decide ((x.dp:Int)≤200)
 all_goals
  (rw[enT hx func215 rfl];simp only[f215,zR,simprocAttr,zE])
  simp only[tmV,tmC,iV,bV]at r rf ⊢
  simp only[zS,zD,zT33,r,rf,dI0,c1,c2,Bool.false_and,simprocAttr]
  (refine .trans ?_ rfl;kernel_rfl)
theorem iR2 (hx:ext 226=none)(x:Tm)(r:run prog ext (.call 146 [tmV x] [])=some (.ret [iV x.nd,iV x.dp] []))(rf:run prog ext (.call 66 [tmV x] [])=some (.ret [bV (formOK x)] [])):run prog ext (.call 226 [tmV x] [])=some (.ret [bV (jI0 x)] []):=by
 unfold jI0
 cases c1:decide ((x.nd:Int)≤2000)
 all_goals cases c2:decide ((x.dp:Int)≤200)
 all_goals
  (rw[enT hx func226 rfl];simp only[f226,zR,simprocAttr,zE])
  simp only[tmV,tmC,iV,bV]at r rf ⊢
  simp only[zS,zD,zT33,r,rf,dI0,c1,c2,Bool.false_and,simprocAttr]
  (refine .trans ?_ rfl;kernel_rfl)
end
section
open Go
variable (ext:Ext)
noncomputable def B243 : Code:=(f243.body.getD .skip)
noncomputable def nB2 : Code:=sub B243 [1,0,1,0,0]
theorem vY1 : It.code nB2=It.code (sub B243 [1,0,1,0,0]):=rfl
noncomputable def bB2 : List It:=[.inBlock 0,.code (sub B243 [1,1])]
noncomputable def cE1 (ext:Ext)(m:Nat)(env:Env)(loc:List O):Option Out:=run prog ext (.k ⟨21,m,[.tmp 6],false⟩ (.code nB2 :: .inLoop nB2::bB2) env loc)
def jO0 (c:Int):Bool:=gF0 c||lG0 c
def rV (c:Int):V:= .c (.d (.v (.int .i32 c)))
theorem clo214 (hx:ext 214=none)(c:Int):run prog ext (.call 214 [rV c] [])=some (.ret [bV (!jO0 c)] []):=by
 unfold jO0 gF0 lG0
 rcases nB0 c with⟨a1,a2,a3,a4,a5,a6,a7,a8⟩ | ⟨a1,a2,a3,a4,a5,a6,a7,a8⟩ | ⟨a1,a2,a3,a4,a5,a6,a7,a8⟩ | ⟨a1,a2,a3,a4,a5,a6,a7,a8⟩ | ⟨a1,a2,a3,a4,a5,a6,a7,a8⟩ | ⟨a1,a2,a3,a4,a5,a6,a7,a8⟩ | ⟨a1,a2,a3,a4,a5,a6,a7,a8⟩ | ⟨a1,a2,a3,a4,a5,a6,a7,a8⟩ | ⟨a1,a2,a3,a4,a5,a6,a7,a8⟩
 all_goals
  rw[a1,a2,a3,a4,a5,a6,a7,a8]
  (rw[enT hx func214 rfl];simp only[f214,zR,Nat.reduceAdd,Nat.reduceLeDiff,↓reduceIte,zE])
  simp only[rV,bV]
  simp only[zS,zD,Nat.reduceLT,↓reduceIte,Nat.reduceEqDiff,reduceCtorEq,ge_iff_le,a1,a2,a3,a4,a5,a6,a7,a8]
  (refine .trans ?_ rfl;kernel_rfl)
def E243 : Env:=[(1,.c (.fn 214 [] [])),(2,bV true),(10,.c (.rf false 0))]
theorem dY2 (hx:ext 243=none)(s:ByteArray)(out:Option Out)(h:cE1 ext 0 E243 [.raw (.stringIter s 0)]=out):run prog ext (.call 243 [sV s,.c (.fn 214 [] []),bV true] [])=out:=by
 unfold cE1 at h
 (rw[enT hx func243 rfl];simp only[f243,zR,Nat.reduceAdd,Nat.reduceLeDiff,↓reduceIte,zE])
 simp only[sV,bV,E243]at h ⊢
 simp only[zS,zD,Nat.reduceLT,↓reduceIte,Nat.reduceEqDiff,reduceCtorEq,iG0,nA1,scal]
 (refine(aA0 ?_).trans h;kernel_rfl)
theorem kB1 (s:ByteArray)(p:Nat)(c:Bool)(hp:p<s.size)(hr:run prog ext (.call 214 [rV (Utf8.decode s p).1] [])=some (.ret [bV c] []))(out:Option Out)
  (h:(if c then some (.ret [iV p] []) else cE1 ext 0 E243 [.raw (.stringIter s (p+(Utf8.decode s p).2))])=out):cE1 ext 0 E243 [.raw (.stringIter s p)]=out:=by
 unfold cE1 at h ⊢
 cases c with
 | true=>
  rw[if_pos rfl]at h
  simp only[E243,iV,bV,rV]at h hr ⊢
  (rw[vY1];simp only[B243,bB2,sub,f243,↓reduceIte,zG])
  simp only[zS,zD,Nat.reduceLT,↓reduceIte,Nat.reduceEqDiff,und_4,vX0,hp,hr]
  refine Eq.trans ?_ h
  kernel_rfl
 | false=>
  rw[if_neg (by decide)]at h
  simp only[E243,bV,rV]at h hr ⊢
  (rw[vY1];simp only[B243,bB2,sub,f243,↓reduceIte,zG])
  simp only[zS,zD,Nat.reduceLT,↓reduceIte,Nat.reduceEqDiff,und_4,vX0,hp,hr]
  (refine(aA0 ?_).trans h;kernel_rfl)
theorem sX1 (s:ByteArray)(p:Nat)(hp:¬ p<s.size):cE1 ext 0 E243 [.raw (.stringIter s p)]=some (.ret [iV (-1)] []):=by
 unfold cE1
 simp only[E243,iV,bV]
 (rw[vY1];simp only[B243,bB2,sub,f243,↓reduceIte,zG])
 simp only[zS,zD,Nat.reduceLT,↓reduceIte,Nat.reduceEqDiff,vX0,hp]
 (refine .trans ?_ rfl;kernel_rfl)
theorem lZ1 (s:ByteArray)(p:Nat)(b:UInt8)(h:(eI0 s)[p]? = some b):s.get! p=b:=by
 unfold eI0 at h
 rw[Array.getElem?_toList]at h
 show s.data[p]! = b
 rw[getElem!_def,h]
theorem pA1 (s:ByteArray)(p:Nat)(b:UInt8)(h:(eI0 s)[p]? = some b)(hb:b.toNat<128):Utf8.decode s p=(b.toNat,1):=by
 unfold Utf8.decode
 simp only[Nat.add_zero,lZ1 s p b h]
 rw[if_pos hb]
theorem iG1 (s:ByteArray)(p:Nat)(b:UInt8)(h:(eI0 s)[p]? = some b)(hb:¬ b.toNat<128):128≤(Utf8.decode s p).1:=by
 unfold Utf8.decode
 simp only[Nat.add_zero,lZ1 s p b h]
 rw[if_neg hb]
 unfold Utf8.runeError
 split
 ·split
  ·simpa using by assumption
  ·decide
 ·split
  ·split
   ·rename_i h2
    rw[Bool.and_eq_true,decide_eq_true_eq]at h2
    dsimp only
    omega
   ·decide
  ·split
   ·split
    ·rename_i h2
     rw[Bool.and_eq_true,decide_eq_true_eq]at h2
     dsimp only
     omega
    ·decide
   ·decide
theorem cJ1 {c:Int} (h:128≤c):jO0 c=false:=by
 unfold jO0 gF0 lG0
 have e1:decide (c≤122)=false:=decide_eq_false (by omega)
 have e2:decide (c≤90)=false:=decide_eq_false (by omega)
 have e3:decide (c≤57)=false:=decide_eq_false (by omega)
 have e4:(c==95)=false:=beq_false_of_ne (by omega)
 have e5:(c==46)=false:=beq_false_of_ne (by omega)
 rw[e1,e2,e3,e4,e5]
 simp
theorem eR2 (h214:ext 214=none)(s:ByteArray):∀ (m p:Nat),s.size≤p+m→∃ i:Int,cE1 ext 0 E243 [.raw (.stringIter s p)]=some (.ret [iV i] [])∧decide (i<0)=((eI0 s).drop p).all fun b=>jO0 (b.toNat:Int):=by
 intro m
 induction m with
 | zero=>
  intro p hp
  refine⟨-1,sX1 ext s p (by omega),?_⟩
  rw[List.drop_eq_nil_of_le (by rw[dH0];omega)]
  rfl
 | succ m ih=>
  intro p hp
  by_cases hlt:p<s.size
  ·have hl:p<(eI0 s).length:=by rw[dH0];exact hlt
   have hb:(eI0 s)[p]? = some (eI0 s)[p]:=by simp[hl]
   rw[List.drop_eq_getElem_cons hl,List.all_cons]
   generalize (eI0 s)[p]=b at hb
   have hc:=clo214 ext h214 ((Utf8.decode s p).1:Int)
   by_cases h8:b.toNat<128
   ·have hd:=pA1 s p b hb h8
    rw[hd]at hc
    cases ca:jO0 (b.toNat:Int) with
    | true=>
     rw[ca]at hc
     obtain⟨i,h1,h2⟩:=ih (p+1) (by omega)
     refine⟨i,kB1 ext s p false hlt (by rw[hd];exact hc) _ (by rw[if_neg (by decide),hd];exact h1),?_⟩
     rw[h2,Bool.true_and]
    | false=>
     rw[ca]at hc
     refine⟨p,kB1 ext s p true hlt (by rw[hd];exact hc) _ (if_pos rfl),?_⟩
     rw[Bool.false_and]
     exact decide_eq_false (by omega)
   ·have hd:=iG1 s p b hb h8
    rw[cJ1 (by omega)]at hc
    refine⟨p,kB1 ext s p true hlt hc _ (if_pos rfl),?_⟩
    rw[cJ1 (by omega),Bool.false_and]
    exact decide_eq_false (by omega)
  ·refine⟨-1,sX1 ext s p hlt,?_⟩
   rw[List.drop_eq_nil_of_le (by rw[dH0];omega)]
   rfl
theorem eQ2 (hx:ext 213=none)(s:ByteArray)(i:Int)(hr:run prog ext (.call 243 [sV s,.c (.fn 214 [] []),bV true] [])=some (.ret [iV i] [])):run prog ext (.call 213 [sV s,.c (.fn 214 [] [])] [])=some (.ret [iV i] []):=by
 (rw[enT hx func213 rfl];simp only[f213,zR,Nat.reduceAdd,Nat.reduceLeDiff,↓reduceIte,zE])
 simp only[sV,bV,iV]at hr ⊢
 simp only[zS,zD,Nat.reduceLT,↓reduceIte,Nat.reduceEqDiff,reduceCtorEq,hr]
 (refine .trans ?_ rfl;kernel_rfl)
theorem rU0 : ∀ (l:List UInt8)(k:Nat),(cD0 badB (k+1) l).isNone=l.all fun b=>jO0 (b.toNat:Int)
 | [],_=>rfl
 | b::l,k=>by
  rw[cD0,List.all_cons,← rU0 l (k+1)]
  unfold badB jO0
  rw[decide_eq_false (by omega:¬ k+1=0),Bool.false_or]
  cases gF0 (b.toNat:Int) <;> cases lG0 (b.toNat:Int) <;> rfl
theorem vQ0 {c:Int} (h:lG0 c=true):gF0 c=false:=by
 unfold gF0
 unfold lG0 at h
 simp only[Bool.or_eq_true,Bool.and_eq_true,decide_eq_true_eq,beq_iff_eq]at h
 have e1:decide (97≤c)=false:=decide_eq_false (by omega)
 have e2:decide (65≤c)=false:=decide_eq_false (by omega)
 have e4:(c==95)=false:=beq_false_of_ne (by omega)
 rw[e1,e2,e4]
 rfl
theorem qQ1 {s:ByteArray}:(s.toList==(⟨#[]⟩:ByteArray).toList)=(s.size==0):=by
 rw[Bool.eq_iff_iff]
 simp only[beq_iff_eq,ByteArray.toList_eq]
 constructor
 ·intro h;show s.data.size=0;rw[← Array.length_toList,h];rfl
 ·intro h
  cases s with
  | mk d=>simp only[ByteArray.size]at h;have:d = #[]:=Array.eq_empty_of_size_eq_zero h;rw[this]
theorem pY1 (s:ByteArray):(s.toList==(⟨#[]⟩:ByteArray).toList)=decide (s.size=0):=by
 rw[qQ1,Bool.eq_iff_iff,beq_iff_eq,decide_eq_true_eq]
theorem sO2 (hx:ext 156=none)(h213:ext 213=none)(h243:ext 243=none)(h214:ext 214=none)(s:ByteArray):run prog ext (.call 156 [sV s] [])=some (.ret [bV (cJ0 s)] []):=by
 obtain⟨i,hi,hd⟩:=eR2 ext h214 s s.size 0 (by omega)
 have hr:=eQ2 ext h213 s i (dY2 ext h243 s _ hi)
 rw[List.drop_zero]at hd
 simp only[sV,bV,iV]at hr ⊢
 unfold cJ0
 have hz:=pY1 s
 by_cases h0:s.size=0
 ·rw[decide_eq_true h0]at hz
  rw[decide_eq_false (by omega:¬ 1≤s.size),Bool.false_and]
  (rw[enT hx func156 rfl];simp only[f156,zR,Nat.reduceAdd,Nat.reduceLeDiff,↓reduceIte,zE])
  simp only[zS,zD,Nat.reduceLT,↓reduceIte,Nat.reduceEqDiff,reduceCtorEq,hz]
  (refine .trans ?_ rfl;kernel_rfl)
 rw[decide_eq_false h0]at hz
 rw[decide_eq_true (by omega:1≤s.size),Bool.true_and]
 by_cases h1:s.size≤24
 case neg=>
  have h1':(s.size:Int)>24:=by omega
  rw[decide_eq_false h1,Bool.false_and]
  (rw[enT hx func156 rfl];simp only[f156,zR,Nat.reduceAdd,Nat.reduceLeDiff,↓reduceIte,zE])
  simp only[zS,zD,Nat.reduceLT,↓reduceIte,Nat.reduceEqDiff,reduceCtorEq,iG0,hz,h1']
  (refine .trans ?_ rfl;kernel_rfl)
 have h1':¬ (s.size:Int)>24:=by omega
 rw[decide_eq_true h1,Bool.true_and]
 obtain⟨b,r,hbr⟩:∃ b r,eI0 s=b::r:=by
  cases h:eI0 s with
  | nil=>have:=dH0 s;rw[h]at this;exact absurd this.symm h0
  | cons b r=>exact⟨b,r,rfl⟩
 have hb:s[(0:Int).toNat]? = some b:=by rw[nC0,hbr];rfl
 have hzz:(0:Int)≤0:=Int.le_refl _
 have hlt:(0:Int)<s.size:=by omega
 have hn:(cD0 badB 0 (b::r)).isNone=(gF0 (b.toNat:Int)&&r.all fun b=>jO0 (b.toNat:Int)):=by
  rw[cD0,← rU0 r 0]
  unfold badB
  rw[decide_eq_true rfl,Bool.true_or,Bool.and_true]
  cases gF0 (b.toNat:Int) <;> rfl
 rw[hbr]at hd ⊢
 rw[hn]
 rw[List.all_cons]at hd
 have hcc:∃ c:Int,(b.toNat:Int)=c:=⟨_,rfl⟩
 obtain⟨c,hc⟩:=hcc
 rw[hc]at hd hn ⊢
 cases c46:(c==46) with
 | true=>
  have hrr:lG0 c=true:=by unfold lG0;rw[c46,Bool.or_true]
  rw[vQ0 hrr,Bool.false_and]
  (rw[enT hx func156 rfl];simp only[f156,zR,Nat.reduceAdd,Nat.reduceLeDiff,↓reduceIte,zE])
  simp only[zS,zD,Nat.reduceLT,↓reduceIte,Nat.reduceEqDiff,reduceCtorEq,iG0,hz,h1',hb,hc,hzz,c46]
  (refine .trans ?_ rfl;kernel_rfl)
 | false=>
 cases c48:decide (48≤c) with
 | true=>
  cases c57:decide (c≤57) with
  | true=>
   have hrr:lG0 c=true:=by unfold lG0;rw[c48,c57];rfl
   rw[vQ0 hrr,Bool.false_and]
   (rw[enT hx func156 rfl];simp only[f156,zR,Nat.reduceAdd,Nat.reduceLeDiff,↓reduceIte,zE])
   simp only[zS,zD,Nat.reduceLT,↓reduceIte,Nat.reduceEqDiff,reduceCtorEq,iG0,hz,h1',hb,hc,hzz,c46,ge_iff_le,c48,c57]
   (refine .trans ?_ rfl;kernel_rfl)
  | false=>
   have hrr:lG0 c=false:=by unfold lG0;rw[c48,c57,c46];rfl
   have ha:jO0 c=gF0 c:=by unfold jO0;rw[hrr,Bool.or_false]
   rw[ha]at hd
   rw[← hd]
   (rw[enT hx func156 rfl];simp only[f156,zR,Nat.reduceAdd,Nat.reduceLeDiff,↓reduceIte,zE])
   simp only[zS,zD,Nat.reduceLT,↓reduceIte,Nat.reduceEqDiff,reduceCtorEq,iG0,hz,h1',hb,hc,hzz,c46,ge_iff_le,c48,c57,hr]
   (refine .trans ?_ rfl;kernel_rfl)
 | false=>
  have hrr:lG0 c=false:=by unfold lG0;rw[c48,c46];rfl
  have ha:jO0 c=gF0 c:=by unfold jO0;rw[hrr,Bool.or_false]
  rw[ha]at hd
  rw[← hd]
  (rw[enT hx func156 rfl];simp only[f156,zR,Nat.reduceAdd,Nat.reduceLeDiff,↓reduceIte,zE])
  simp only[zS,zD,Nat.reduceLT,↓reduceIte,Nat.reduceEqDiff,reduceCtorEq,iG0,hz,h1',hb,hc,hzz,c46,ge_iff_le,c48,hr]
  (refine .trans ?_ rfl;kernel_rfl)
end
section
open Go
theorem rJ0 (m b:Int):mxi m b=max m b:=by unfold mxi;omega
theorem lX1 {α:Type} (f:α→Int):∀ (l:List α)(a b:Int),l.foldl (fun m p=>mxi m (f p)) (max a b)=max a (l.foldl (fun m p=>mxi m (f p)) b)
 | [],_,_=>rfl
 | p::l,a,b=>by
  rw[List.foldl_cons,List.foldl_cons,rJ0,rJ0,Int.max_assoc,lX1 f l a]
theorem eG1 : ∀ (N:Nat)(x:Tm)(d q:Int),0≤q→jA0 upF N x d q=max q (frR N x d)
 | 0,x,d,q,h=>by rw[jA0,frR];omega
 | N+1,x,d,q,h=>by
  rw[jA0,frR]
  have e:∀ q:Int,0≤q→x.l.zipIdx.foldl (fun q p=>jA0 upF N p.1 (wr (d+binds x.op x.l.length p.2)) q) q=x.l.zipIdx.foldl (fun m p=>mxi m (frR N p.1 (wr (d+binds x.op x.l.length p.2)))) q:=by
   have:∀ (l:List (Tm × Nat)) (q:Int),0≤q→l.foldl (fun q p=>jA0 upF N p.1 (wr (d+binds x.op x.l.length p.2)) q) q=l.foldl (fun m p=>mxi m (frR N p.1 (wr (d+binds x.op x.l.length p.2)))) q:=by
    intro l
    induction l with
    | nil=>intro q _;rfl
    | cons p l ih=>
     intro q hq
     rw[List.foldl_cons,List.foldl_cons,eG1 N p.1 _ q hq,rJ0]
     exact ih _ (by omega)
   exact this x.l.zipIdx
  rw[e q h]
  unfold gA1 upF
  have e0:=lX1 (fun p:Tm × Nat=>frR N p.1 (wr (d+binds x.op x.l.length p.2))) x.l.zipIdx
  have eq1:x.l.zipIdx.foldl (fun m p=>mxi m (frR N p.1 (wr (d+binds x.op x.l.length p.2)))) q=max q (x.l.zipIdx.foldl (fun m p=>mxi m (frR N p.1 (wr (d+binds x.op x.l.length p.2)))) 0):=by
   rw[← e0,Int.max_eq_left h]
  by_cases c:gK0 x=true
  ·rw[if_pos c,if_pos c,rJ0,eq1]
   have eq2:=e0 (wr (wr (x.n - d)+1)) 0
   rw[Int.max_comm (wr (wr (x.n - d)+1)) 0]at eq2
   rw[eq2]
   generalize wr (wr (x.n - d)+1)=a
   generalize x.l.zipIdx.foldl (fun m p=>mxi m (frR N p.1 (wr (d+binds x.op x.l.length p.2)))) 0=F
   omega
  ·rw[if_neg c,if_neg c,eq1]
theorem vA1 : ∀ (N:Nat)(x:Tm)(d:Int),0≤frR N x d
 | 0,_,_=>Int.le_refl _
 | N+1,x,d=>by
  rw[frR]
  have:∀ (l:List (Tm × Nat)) (q:Int),0≤q→0≤l.foldl (fun m p=>mxi m (frR N p.1 (wr (d+binds x.op x.l.length p.2)))) q:=by
   intro l
   induction l with
   | nil=>intro q h;exact h
   | cons p l ih=>intro q h;rw[List.foldl_cons];exact ih _ (by rw[rJ0];omega)
  refine this _ _ ?_
  unfold gA1
  split
  ·rw[rJ0];omega
  ·omega
theorem upB_eq (n d:Int)(q:Bool)(h0:0≤n)(h1:n≤2147483648)(d0:0≤d)(d1:d<2^40):upB n d q=(q && !(n==d)):=by
 unfold upB
 rw[gL0 (n:=n - d) (by omega) (by omega),gL0 (n:=n + -1) (by omega) (by omega),gL0 (n:=n + -1 - d) (by omega) (by omega)]
 by_cases h:0≤n - d
 ·rw[if_pos h]
  cases q with
  | false=>rfl
  | true=>
   rw[if_pos rfl,Bool.true_and,Bool.eq_iff_iff,decide_eq_true_eq,Bool.not_eq_true',beq_eq_false_iff_ne]
   omega
 ·rw[if_neg h]
  have:(n==d)=false:=beq_false_of_ne (by omega)
  rw[this]
  cases q <;> rfl
theorem xM0 : ∀ (N:Nat)(x:Tm)(d:Int)(q:Bool),0≤d→d+3*N<2^31→jA0 upB N x d q=(q && !bdR N x d)
 | 0,x,d,q,_,_=>by rw[jA0,bdR];cases q <;> rfl
 | N+1,x,d,q,h0,h1=>by
  rw[jA0,bdR]
  have e:x.l.zipIdx.foldl (fun q p=>jA0 upB N p.1 (wr (d+binds x.op x.l.length p.2)) q) q=(q && !x.l.zipIdx.any fun p=>bdR N p.1 (wr (d+binds x.op x.l.length p.2))):=by
   have:∀ (l:List (Tm × Nat)) (q:Bool),l.foldl (fun q p=>jA0 upB N p.1 (wr (d+binds x.op x.l.length p.2)) q) q=(q && !l.any fun p=>bdR N p.1 (wr (d+binds x.op x.l.length p.2))):=by
    intro l
    induction l with
    | nil=>intro q;cases q <;> rfl
    | cons p l ih=>
     intro q
     have hb:=zF0 x.op x.l.length p.2
     have hw:wr (d+binds x.op x.l.length p.2)=d+binds x.op x.l.length p.2:=gL0 (by omega) (by omega)
     rw[List.foldl_cons,ih,List.any_cons,xM0 N p.1 _ q (by omega) (by omega)]
     cases q <;> cases bdR N p.1 (wr (d+binds x.op x.l.length p.2)) <;> rfl
   exact this x.l.zipIdx q
  rw[e]
  generalize x.l.zipIdx.any (fun p=>bdR N p.1 (wr (d+binds x.op x.l.length p.2)))=b
  cases c:gK0 x with
  | true=>
   unfold gK0 at c
   simp only[Bool.and_eq_true,decide_eq_true_eq]at c
   obtain⟨c0,c1,c2⟩:=c
   rw[if_pos rfl,upB_eq x.n d _ c1 c2 h0 (by omega),c0]
   cases q <;> cases b <;> cases (x.n==d) <;> rfl
  | false=>
   rw[if_neg (by decide)]
   have:((x.op==1)&&(x.n==d))=false:=by
    cases c1:(x.op==1) with
    | false=>rfl
    | true=>
     cases c2:(x.n==d) with
     | false=>rfl
     | true=>
      rw[beq_iff_eq]at c1 c2
      have:gK0 x=true:=by
       unfold gK0
       rw[decide_eq_true c1,decide_eq_true (by omega:0≤x.n),decide_eq_true (by omega:x.n≤2147483648)];rfl
      rw[c]at this;cases this
   rw[this,Bool.false_or]
end
section
open Go
variable (ext:Ext)
def gD0 (t:Tm)(fr n:Int):Bool:=jI0 t&&(decide (frR t.sz t 0≤fr)&&(!lvGe n t && !hasH t))
theorem dgt' (a b:Int):decide (a>b) = !decide (a≤b):=by rw[Bool.eq_iff_iff,decide_eq_true_eq,Bool.not_eq_true',decide_eq_false_iff_not];omega
theorem qL2 (hx:ext 159=none)(t:Tm)(fr n:Int)(W:List Int)(z:Bool)(r215:run prog ext (.call 215 [tmV t] [])=some (.ret [bV (jI0 t)] []))(r216:run prog ext (.call 216 [tmV t] [])=some (.ret [iV (frR t.sz t 0)] []))
  (r218:jI0 t=true→run prog ext (.call 218 [tmV t] [])=some (.ret [dV (aJ0 z 1 (W.map inD))] [])) (hW:jI0 t=true→cO0 n W=lvGe n t) (r217:run prog ext (.call 217 [dV (aJ0 z 1 (W.map inD)),.c (.fn 219 [] [0])] [.box [.d (.v (.int .i64 n))]])=some (.ret [bV (cO0 n W)] [.box [.d (.v (.int .i64 n))]]))
  (r114:run prog ext (.call 114 [tmV t,.c (.fn 220 [] [])] [])=some (.ret [bV (hasH t)] [])):run prog ext (.call 159 [tmV t,iV fr,iV n] [])=some (.ret [bV (gD0 t fr n)] []):=by
 unfold gD0
 have e:=fun o0 slot=>aL0 (rec:=run prog ext) (look:=lk [o0,.box [.d (.v (.int .i64 n))]]) (slot:=slot) (f:=217) (args:=[dV (aJ0 z 1 (W.map inD)),.c (.fn 219 [] [1])]) (ids:=[1]) (bor:=[]) (e:=⟨.val (bV (cO0 n W)),[(1,.box [.d (.v (.int .i64 n))])],[1]⟩) (by kernel_rfl) r217 (by kernel_rfl)
 cases c1:jI0 t with
 | false=>
  rw[c1]at r215
  (rw[enT hx func159 rfl];simp only[f159,zR,simprocAttr,zE])
  simp only[tmV,tmC,iV,bV]at r215 ⊢
  simp only[zS,zD,zT33,r215,simprocAttr]
  (refine .trans ?_ rfl;kernel_rfl)
 | true=>
 rw[c1]at r215
 have r218:=r218 c1
 have hW:=hW c1
 rw[← hW]
 have d1:=dgt' (frR t.sz t 0) fr
 cases c2:decide (frR t.sz t 0≤fr) with
 | false=>
  rw[c2]at d1
  (rw[enT hx func159 rfl];simp only[f159,zR,simprocAttr,zE])
  simp only[tmV,tmC,iV,bV]at r215 r216 ⊢
  simp only[zS,zD,zT33,r215,r216,d1,simprocAttr]
  (refine .trans ?_ rfl;kernel_rfl)
 | true=>
 rw[c2]at d1
 cases c3:cO0 n W with
 | true=>
  rw[c3]at e
  (rw[enT hx func159 rfl];simp only[f159,zR,simprocAttr,zE])
  simp only[tmV,tmC,dV,iV,bV]at r215 r216 r218 e ⊢
  simp only[zS,zD,cE0,zT33,r215,r216,d1,r218,e,simprocAttr]
  (refine .trans ?_ rfl;kernel_rfl)
 | false=>
  rw[c3]at e
  cases c4:hasH t
  all_goals
   rw[c4]at r114
   (rw[enT hx func159 rfl];simp only[f159,zR,simprocAttr,zE])
   simp only[tmV,tmC,dV,iV,bV]at r215 r216 r218 e r114 ⊢
   simp only[zS,zD,cE0,zT33,r215,r216,d1,r218,e,r114,simprocAttr]
   (refine .trans ?_ rfl;kernel_rfl)
noncomputable def B229 : Code:=(f229.body.getD .skip)
noncomputable def mU2 : Code:=sub B229 [1,1,0,1,0,0]
theorem vS1 : It.code mU2=It.code (sub B229 [1,1,0,1,0,0]):=rfl
noncomputable def aV2 : List It:=[.inBlock 0,.code (sub B229 [1,1,1])]
noncomputable def qW1 (ext:Ext)(m:Nat)(env:Env)(loc:List O):Option Out:=run prog ext (.k ⟨21,m,[.tmp 4],false⟩ (.code mU2 :: .inLoop mU2::aV2) env loc)
def E229 (n:Int)(D:D)(k:Int):Env:=[(1,iV n),(5,dV D),(6,iV k)]
theorem bR2 (hx:ext 229=none)(t:Tm)(n:Int)(z:Bool)(W:List Int)(hs:W.length<2^50)(r:run prog ext (.call 253 [tmV t] [])=some (.ret [dV (aJ0 z 1 (W.map inD))] [])):run prog ext (.call 229 [tmV t,iV n] [])=some (.ret [bV (!cO0 n W)] []):=by
 have he:∀ out,qW1 ext 0 (E229 n (aJ0 z 1 (W.map inD)) 0) []=out→run prog ext (.call 229 [tmV t,iV n] [])=out:=by
  intro out h
  unfold qW1 at h
  (rw[enT hx func229 rfl];simp only[f229,zR,simprocAttr,zE])
  simp only[tmV,tmC,dV,iV,E229]at r h ⊢
  simp only[zS,zD,zT33,r,simprocAttr]
  (refine(aA0 ?_).trans h;kernel_rfl)
 refine he _ ?_
 have:=bS0 W (fun k=>qW1 ext 0 (E229 n (aJ0 z 1 (W.map inD)) k) []) (fun v=>decide (n≤v)) (fun _=>some (.ret [bV false] [])) (some (.ret [bV true] [])) (by omega) (fun k v hk hl=>by
   have h0:(0:Int)≤k:=by omega
   have hd:aJ0 z 1 (W.map inD) = .s 1 (W.map inD):=aM0 h0 (by simpa using hl)
   unfold qW1
   refine⟨fun hp=> ?_,fun hp out h=> ?_⟩
   ·simp only[dV,iV,bV,E229,hd]
    (rw[vS1];simp only[B229,aV2,sub,f229,↓reduceIte,zG])
    simp only[zS,zD,dN0,zT3,h0,hl,Int.toNat_natCast,hk,gP0,ge_iff_le,hp,simprocAttr]
    (refine .trans ?_ rfl;kernel_rfl)
   ·simp only[dV,iV,E229,hd]at h ⊢
    (rw[vS1];simp only[B229,aV2,sub,f229,↓reduceIte,zG])
    simp only[zS,zD,dN0,zT3,h0,hl,Int.toNat_natCast,hk,gP0,ge_iff_le,hp,simprocAttr]
    (refine(aA0 ?_).trans h;kernel_rfl)) (by
   unfold qW1
   simp only[dV,iV,E229]
   (rw[vS1];simp only[B229,aV2,sub,f229,↓reduceIte,zG])
   simp only[zS,zD,dN0,Int.lt_irrefl,simprocAttr]
   (refine .trans ?_ rfl;kernel_rfl))
 rw[this]
 unfold cO0
 rw[← List.findIdx?_isSome]
 cases W.findIdx? (fun v=>decide (n≤v)) <;> rfl
theorem qJ2 (hx:ext 166=none)(t:Tm)(fr n:Int)(W:List Int)(hW:cO0 n W=lvGe n t)(r226:run prog ext (.call 226 [tmV t] [])=some (.ret [bV (jI0 t)] []))(r227:run prog ext (.call 227 [tmV t] [])=some (.ret [bV (!hasH t)] []))
  (r228:run prog ext (.call 228 [tmV t] [])=some (.ret [iV (frR t.sz t 0)] []))(r229:run prog ext (.call 229 [tmV t,iV n] [])=some (.ret [bV (!cO0 n W)] [])):run prog ext (.call 166 [tmV t,iV n,iV fr] [])=some (.ret [bV (gD0 t fr n)] []):=by
 unfold gD0
 rw[hW]at r229
 cases c1:jI0 t with
 | false=>
  rw[c1]at r226
  (rw[enT hx func166 rfl];simp only[f166,zR,simprocAttr,zE])
  simp only[tmV,tmC,iV,bV]at r226 ⊢
  simp only[zS,zD,zT33,r226,simprocAttr]
  (refine .trans ?_ rfl;kernel_rfl)
 | true=>
 rw[c1]at r226
 cases c4:hasH t with
 | true=>
  rw[c4]at r227
  have e:(true&&(decide (frR t.sz t 0≤fr)&&(!lvGe n t && !true)))=false:=by simp
  rw[e]
  (rw[enT hx func166 rfl];simp only[f166,zR,simprocAttr,zE])
  simp only[tmV,tmC,iV,bV]at r226 r227 ⊢
  simp only[zS,zD,zT33,r226,r227,simprocAttr]
  (refine .trans ?_ rfl;kernel_rfl)
 | false=>
 rw[c4]at r227
 cases c2:decide (frR t.sz t 0≤fr) with
 | false=>
  (rw[enT hx func166 rfl];simp only[f166,zR,simprocAttr,zE])
  simp only[tmV,tmC,iV,bV]at r226 r227 r228 ⊢
  simp only[zS,zD,zT33,r226,r227,r228,c2,simprocAttr]
  (refine .trans ?_ rfl;kernel_rfl)
 | true=>
  cases c3:lvGe n t
  all_goals
   rw[c3]at r229
   (rw[enT hx func166 rfl];simp only[f166,zR,simprocAttr,zE])
   simp only[tmV,tmC,iV,bV]at r226 r227 r228 r229 ⊢
   simp only[zS,zD,zT33,r226,r227,r228,c2,r229,simprocAttr]
   (refine .trans ?_ rfl;kernel_rfl)
def lX0 (n:Int)(c:Con):Bool:=cJ0 c.name&&gD0 c.arg 1 n
def hI0 (d:Dc):Bool:=
 cJ0 d.name&&(decide (0≤d.levels)&&(decide (d.levels≤8) &&
  (if((d.kind==1)||((d.kind==2)||(d.kind==3)))=true then
   hB0 d.param&&(hN0 d.over&&(hN0 d.sort&&(lenZ d.cons&&(gD0 d.type 0 d.levels&&(if(d.kind==3)=true then hB0 d.body else gD0 d.body 0 d.levels)))))
  else if(d.kind==4)=true then
   hB0 d.type&&(hB0 d.body&&(decide ((d.cons.length:Int)≤8)&&(gD0 d.param 0 d.levels&&(hU0 d.over d.levels&&(hU0 d.sort d.levels&&d.cons.all (lX0 d.levels))))))
  else false)))
theorem rF0 {α:Type} (l:List α):decide ((l.length:Int)>0) = !lenZ l:=by
 unfold lenZ
 rw[Bool.eq_iff_iff,decide_eq_true_eq,Bool.not_eq_true',beq_eq_false_iff_ne]
 omega
theorem kM1 (l:List Con)(n:Int):(!(l.any fun c=> !lX0 n c))=l.all (lX0 n):=by rw[List.not_any_eq_all_not];simp
theorem uY1 (hx:ext 101=none)(h157:ext 157=none)(d:Dc)(r156:run prog ext (.call 156 [sV d.name] [])=some (.ret [bV (cJ0 d.name)] []))
  (rp:run prog ext (.call 158 [tmV d.param] [])=some (.ret [bV (hB0 d.param)] []))(rt:run prog ext (.call 158 [tmV d.type] [])=some (.ret [bV (hB0 d.type)] []))(rb:run prog ext (.call 158 [tmV d.body] [])=some (.ret [bV (hB0 d.body)] []))
  (zo:run prog ext (.call 157 [levV d.over] [])=some (.ret [bV (hN0 d.over)] []))(zs:run prog ext (.call 157 [levV d.sort] [])=some (.ret [bV (hN0 d.sort)] []))
  (ft:run prog ext (.call 159 [tmV d.type,iV 0,iV d.levels] [])=some (.ret [bV (gD0 d.type 0 d.levels)] []))(fb:run prog ext (.call 159 [tmV d.body,iV 0,iV d.levels] [])=some (.ret [bV (gD0 d.body 0 d.levels)] []))(fp:run prog ext (.call 159 [tmV d.param,iV 0,iV d.levels] [])=some (.ret [bV (gD0 d.param 0 d.levels)] []))
  (co:run prog ext (.call 160 [levV d.over,iV d.levels] [])=some (.ret [bV (hU0 d.over d.levels)] []))(cs:run prog ext (.call 160 [levV d.sort,iV d.levels] [])=some (.ret [bV (hU0 d.sort d.levels)] []))
  (ca:run prog ext (.call 161 [dV d.d,.c (.fn 162 [] [0])] [.box (dcC d)])=some (.ret [bV (d.cons.any fun c=> !lX0 d.levels c)] [.box (dcC d)])):run prog ext (.call 101 [dcV d] [])=some (.ret [bV (hI0 d)] []):=by
 unfold hI0
 cases c0:cJ0 d.name with
 | false=>
  rw[c0]at r156
  (rw[enT hx func101 rfl];simp only[f101,zR,simprocAttr,zE])
  simp only[dcV,dcC,sV,bV]at r156 ⊢
  simp only[zS,zD,aE0,zT9,r156,simprocAttr]
  (refine .trans ?_ rfl;kernel_rfl)
 | true=>
 rw[c0]at r156
 cases c1:decide (0≤d.levels) with
 | false=>
  have l0:=dlt d.levels 0;rw[c1]at l0
  (rw[enT hx func101 rfl];simp only[f101,zR,simprocAttr,zE])
  simp only[dcV,dcC,sV,bV]at r156 ⊢
  simp only[zS,zD,zT39,zT9,zT3,r156,l0,simprocAttr]
  (refine .trans ?_ rfl;kernel_rfl)
 | true=>
 have l0:=dlt d.levels 0;rw[c1]at l0
 cases c2:decide (d.levels≤8) with
 | false=>
  have l8:=dgt d.levels 8;rw[c2]at l8
  (rw[enT hx func101 rfl];simp only[f101,zR,simprocAttr,zE])
  simp only[dcV,dcC,sV,bV]at r156 ⊢
  simp only[zS,zD,zT39,zT9,zT3,r156,l0,l8,simprocAttr]
  (refine .trans ?_ rfl;kernel_rfl)
 | true=>
 have l8:=dgt d.levels 8;rw[c2]at l8
 cases k1:(d.kind==1) with
 | true=>
  have k3:(d.kind==3)=false:=by rw[beq_iff_eq]at k1;rw[k1];rfl
  rw[k3]
  cases c5:hB0 d.param with
  | false=>
   rw[c5]at rp
   (rw[enT hx func101 rfl];simp only[f101,zR,simprocAttr,zE])
   simp only[dcV,dcC,tmV,tmC,sV,bV]at r156 rp ⊢
   simp only[zS,zD,zT39,zT33,zT9,zT3,r156,rp,l0,l8,k1,simprocAttr]
   (refine .trans ?_ rfl;kernel_rfl)
  | true=>
  rw[c5]at rp
  cases c6:hN0 d.over with
  | false=>
   rw[c6]at zo
   (rw[enT hx func101 rfl];simp only[f101,zR,simprocAttr,zE])
   simp only[dcV,dcC,tmV,tmC,levV,levC,sV,bV]at r156 rp zo ⊢
   simp only[zS,zD,zT39,zT33,zT36,zT9,zT3,r156,rp,zo,l0,l8,k1,simprocAttr]
   (refine .trans ?_ rfl;kernel_rfl)
  | true=>
  rw[c6]at zo
  cases c7:hN0 d.sort with
  | false=>
   rw[c7]at zs
   (rw[enT hx func101 rfl];simp only[f101,zR,simprocAttr,zE])
   simp only[dcV,dcC,tmV,tmC,levV,levC,sV,bV]at r156 rp zo zs ⊢
   simp only[zS,zD,zT39,zT33,zT36,zT9,zT3,r156,rp,zo,zs,l0,l8,k1,simprocAttr]
   (refine .trans ?_ rfl;kernel_rfl)
  | true=>
  rw[c7]at zs
  cases c8:lenZ d.cons with
  | false=>
   have lz:decide ((d.cons.length:Int)>0)=true:=by rw[rF0,c8];rfl
   (rw[enT hx func101 rfl];simp only[f101,zR,simprocAttr,zE])
   simp only[dcV,dcC,tmV,tmC,levV,levC,sV,bV]at r156 rp zo zs ⊢
   simp only[zS,zD,zT39,zT33,zT36,zT37,zT9,zT3,r156,rp,zo,zs,l0,l8,k1,lz,aS0,simprocAttr]
   (refine .trans ?_ rfl;kernel_rfl)
  | true=>
  have lz:decide ((d.cons.length:Int)>0)=false:=by rw[rF0,c8];rfl
  cases c9:gD0 d.type 0 d.levels with
  | false=>
   rw[c9]at ft
   (rw[enT hx func101 rfl];simp only[f101,zR,simprocAttr,zE])
   simp only[dcV,dcC,tmV,tmC,levV,levC,sV,iV,bV]at r156 rp zo zs ft ⊢
   simp only[zS,zD,zT39,zT33,zT36,zT37,zT9,zT3,r156,rp,zo,zs,ft,l0,l8,k1,lz,aS0,simprocAttr]
   (refine .trans ?_ rfl;kernel_rfl)
  | true=>
  rw[c9]at ft
  cases c10:gD0 d.body 0 d.levels with
  | false=>
   rw[c10]at fb
   (rw[enT hx func101 rfl];simp only[f101,zR,simprocAttr,zE])
   simp only[dcV,dcC,tmV,tmC,levV,levC,sV,iV,bV]at r156 rp zo zs ft fb ⊢
   simp only[zS,zD,zT39,zT33,zT36,zT37,zT9,zT3,r156,rp,zo,zs,ft,fb,l0,l8,k1,k3,lz,aS0,simprocAttr]
   (refine .trans ?_ rfl;kernel_rfl)
  | true=>
  rw[c10]at fb
  (rw[enT hx func101 rfl];simp only[f101,zR,simprocAttr,zE])
  simp only[dcV,dcC,tmV,tmC,levV,levC,sV,iV,bV]at r156 rp zo zs ft fb ⊢
  simp only[zS,zD,zT39,zT33,zT36,zT37,zT9,zT3,r156,rp,zo,zs,ft,fb,l0,l8,k1,k3,lz,aS0,simprocAttr]
  (refine .trans ?_ rfl;kernel_rfl)
 | false=>
 cases k2:(d.kind==2) with
 | true=>
  have k3:(d.kind==3)=false:=by rw[beq_iff_eq]at k2;rw[k2];rfl
  rw[k3]
  cases c6:hB0 d.param with
  | false=>
   rw[c6]at rp
   (rw[enT hx func101 rfl];simp only[f101,zR,simprocAttr,zE])
   simp only[dcV,dcC,tmV,tmC,sV,bV]at r156 rp ⊢
   simp only[zS,zD,zT39,zT33,zT9,zT3,r156,rp,l0,l8,k1,k2,simprocAttr]
   (refine .trans ?_ rfl;kernel_rfl)
  | true=>
  rw[c6]at rp
  cases c7:hN0 d.over with
  | false=>
   rw[c7]at zo
   (rw[enT hx func101 rfl];simp only[f101,zR,simprocAttr,zE])
   simp only[dcV,dcC,tmV,tmC,levV,levC,sV,bV]at r156 rp zo ⊢
   simp only[zS,zD,zT39,zT33,zT36,zT9,zT3,r156,rp,zo,l0,l8,k1,k2,simprocAttr]
   (refine .trans ?_ rfl;kernel_rfl)
  | true=>
  rw[c7]at zo
  cases c8:hN0 d.sort with
  | false=>
   rw[c8]at zs
   (rw[enT hx func101 rfl];simp only[f101,zR,simprocAttr,zE])
   simp only[dcV,dcC,tmV,tmC,levV,levC,sV,bV]at r156 rp zo zs ⊢
   simp only[zS,zD,zT39,zT33,zT36,zT9,zT3,r156,rp,zo,zs,l0,l8,k1,k2,simprocAttr]
   (refine .trans ?_ rfl;kernel_rfl)
  | true=>
  rw[c8]at zs
  cases c9:lenZ d.cons with
  | false=>
   have lz:decide ((d.cons.length:Int)>0)=true:=by rw[rF0,c9];rfl
   (rw[enT hx func101 rfl];simp only[f101,zR,simprocAttr,zE])
   simp only[dcV,dcC,tmV,tmC,levV,levC,sV,bV]at r156 rp zo zs ⊢
   simp only[zS,zD,zT39,zT33,zT36,zT37,zT9,zT3,r156,rp,zo,zs,l0,l8,k1,k2,lz,aS0,simprocAttr]
   (refine .trans ?_ rfl;kernel_rfl)
  | true=>
  have lz:decide ((d.cons.length:Int)>0)=false:=by rw[rF0,c9];rfl
  cases c10:gD0 d.type 0 d.levels with
  | false=>
   rw[c10]at ft
   (rw[enT hx func101 rfl];simp only[f101,zR,simprocAttr,zE])
   simp only[dcV,dcC,tmV,tmC,levV,levC,sV,iV,bV]at r156 rp zo zs ft ⊢
   simp only[zS,zD,zT39,zT33,zT36,zT37,zT9,zT3,r156,rp,zo,zs,ft,l0,l8,k1,k2,lz,aS0,simprocAttr]
   (refine .trans ?_ rfl;kernel_rfl)
  | true=>
  rw[c10]at ft
  cases c11:gD0 d.body 0 d.levels with
  | false=>
   rw[c11]at fb
   (rw[enT hx func101 rfl];simp only[f101,zR,simprocAttr,zE])
   simp only[dcV,dcC,tmV,tmC,levV,levC,sV,iV,bV]at r156 rp zo zs ft fb ⊢
   simp only[zS,zD,zT39,zT33,zT36,zT37,zT9,zT3,r156,rp,zo,zs,ft,fb,l0,l8,k1,k2,k3,lz,aS0,simprocAttr]
   (refine .trans ?_ rfl;kernel_rfl)
  | true=>
  rw[c11]at fb
  (rw[enT hx func101 rfl];simp only[f101,zR,simprocAttr,zE])
  simp only[dcV,dcC,tmV,tmC,levV,levC,sV,iV,bV]at r156 rp zo zs ft fb ⊢
  simp only[zS,zD,zT39,zT33,zT36,zT37,zT9,zT3,r156,rp,zo,zs,ft,fb,l0,l8,k1,k2,k3,lz,aS0,simprocAttr]
  (refine .trans ?_ rfl;kernel_rfl)
 | false=>
 cases k3:(d.kind==3) with
 | true=>
  cases c6:hB0 d.param with
  | false=>
   rw[c6]at rp
   (rw[enT hx func101 rfl];simp only[f101,zR,simprocAttr,zE])
   simp only[dcV,dcC,tmV,tmC,sV,bV]at r156 rp ⊢
   simp only[zS,zD,zT39,zT33,zT9,zT3,r156,rp,l0,l8,k1,k2,k3,simprocAttr]
   (refine .trans ?_ rfl;kernel_rfl)
  | true=>
  rw[c6]at rp
  cases c7:hN0 d.over with
  | false=>
   rw[c7]at zo
   (rw[enT hx func101 rfl];simp only[f101,zR,simprocAttr,zE])
   simp only[dcV,dcC,tmV,tmC,levV,levC,sV,bV]at r156 rp zo ⊢
   simp only[zS,zD,zT39,zT33,zT36,zT9,zT3,r156,rp,zo,l0,l8,k1,k2,k3,simprocAttr]
   (refine .trans ?_ rfl;kernel_rfl)
  | true=>
  rw[c7]at zo
  cases c8:hN0 d.sort with
  | false=>
   rw[c8]at zs
   (rw[enT hx func101 rfl];simp only[f101,zR,simprocAttr,zE])
   simp only[dcV,dcC,tmV,tmC,levV,levC,sV,bV]at r156 rp zo zs ⊢
   simp only[zS,zD,zT39,zT33,zT36,zT9,zT3,r156,rp,zo,zs,l0,l8,k1,k2,k3,simprocAttr]
   (refine .trans ?_ rfl;kernel_rfl)
  | true=>
  rw[c8]at zs
  cases c9:lenZ d.cons with
  | false=>
   have lz:decide ((d.cons.length:Int)>0)=true:=by rw[rF0,c9];rfl
   (rw[enT hx func101 rfl];simp only[f101,zR,simprocAttr,zE])
   simp only[dcV,dcC,tmV,tmC,levV,levC,sV,bV]at r156 rp zo zs ⊢
   simp only[zS,zD,zT39,zT33,zT36,zT37,zT9,zT3,r156,rp,zo,zs,l0,l8,k1,k2,k3,lz,aS0,simprocAttr]
   (refine .trans ?_ rfl;kernel_rfl)
  | true=>
  have lz:decide ((d.cons.length:Int)>0)=false:=by rw[rF0,c9];rfl
  cases c10:gD0 d.type 0 d.levels with
  | false=>
   rw[c10]at ft
   (rw[enT hx func101 rfl];simp only[f101,zR,simprocAttr,zE])
   simp only[dcV,dcC,tmV,tmC,levV,levC,sV,iV,bV]at r156 rp zo zs ft ⊢
   simp only[zS,zD,zT39,zT33,zT36,zT37,zT9,zT3,r156,rp,zo,zs,ft,l0,l8,k1,k2,k3,lz,aS0,simprocAttr]
   (refine .trans ?_ rfl;kernel_rfl)
  | true=>
  rw[c10]at ft
  cases c11:hB0 d.body with
  | false=>
   rw[c11]at rb
   (rw[enT hx func101 rfl];simp only[f101,zR,simprocAttr,zE])
   simp only[dcV,dcC,tmV,tmC,levV,levC,sV,iV,bV]at r156 rp zo zs ft rb ⊢
   simp only[zS,zD,zT39,zT33,zT36,zT37,zT9,zT3,r156,rp,zo,zs,ft,rb,l0,l8,k1,k2,k3,lz,aS0,simprocAttr]
   (refine .trans ?_ rfl;kernel_rfl)
  | true=>
  rw[c11]at rb
  (rw[enT hx func101 rfl];simp only[f101,zR,simprocAttr,zE])
  simp only[dcV,dcC,tmV,tmC,levV,levC,sV,iV,bV]at r156 rp zo zs ft rb ⊢
  simp only[zS,zD,zT39,zT33,zT36,zT37,zT9,zT3,r156,rp,zo,zs,ft,rb,l0,l8,k1,k2,k3,lz,aS0,simprocAttr]
  (refine .trans ?_ rfl;kernel_rfl)
 | false=>
 cases k4:(d.kind==4) with
 | false=>
  (rw[enT hx func101 rfl];simp only[f101,zR,simprocAttr,zE])
  simp only[dcV,dcC,sV,bV]at r156 ⊢
  simp only[zS,zD,zT39,zT9,zT3,r156,l0,l8,k1,k2,k3,k4,simprocAttr]
  (refine .trans ?_ rfl;kernel_rfl)
 | true=>
 cases c7:hB0 d.type with
 | false=>
  rw[c7]at rt
  (rw[enT hx func101 rfl];simp only[f101,zR,simprocAttr,zE])
  simp only[dcV,dcC,tmV,tmC,sV,bV]at r156 rt ⊢
  simp only[zS,zD,zT39,zT33,zT9,zT3,r156,rt,l0,l8,k1,k2,k3,k4,simprocAttr]
  (refine .trans ?_ rfl;kernel_rfl)
 | true=>
 rw[c7]at rt
 cases c8:hB0 d.body with
 | false=>
  rw[c8]at rb
  (rw[enT hx func101 rfl];simp only[f101,zR,simprocAttr,zE])
  simp only[dcV,dcC,tmV,tmC,sV,bV]at r156 rt rb ⊢
  simp only[zS,zD,zT39,zT33,zT9,zT3,r156,rt,rb,l0,l8,k1,k2,k3,k4,simprocAttr]
  (refine .trans ?_ rfl;kernel_rfl)
 | true=>
 rw[c8]at rb
 cases c9:decide ((d.cons.length:Int)≤8) with
 | false=>
  have n8:=dgt (d.cons.length:Int) 8;rw[c9]at n8
  (rw[enT hx func101 rfl];simp only[f101,zR,simprocAttr,zE])
  simp only[dcV,dcC,tmV,tmC,sV,bV]at r156 rt rb ⊢
  simp only[zS,zD,zT39,zT33,zT37,zT9,zT3,r156,rt,rb,l0,l8,k1,k2,k3,k4,n8,aS0,simprocAttr]
  (refine .trans ?_ rfl;kernel_rfl)
 | true=>
 have n8:=dgt (d.cons.length:Int) 8;rw[c9]at n8
 cases c10:gD0 d.param 0 d.levels with
 | false=>
  rw[c10]at fp
  (rw[enT hx func101 rfl];simp only[f101,zR,simprocAttr,zE])
  simp only[dcV,dcC,tmV,tmC,sV,iV,bV]at r156 rt rb fp ⊢
  simp only[zS,zD,zT39,zT33,zT37,zT9,zT3,r156,rt,rb,fp,l0,l8,k1,k2,k3,k4,n8,aS0,simprocAttr]
  (refine .trans ?_ rfl;kernel_rfl)
 | true=>
 rw[c10]at fp
 cases c11:hU0 d.over d.levels with
 | false=>
  rw[c11]at co
  (rw[enT hx func101 rfl];simp only[f101,zR,simprocAttr,zE])
  simp only[dcV,dcC,tmV,tmC,levV,levC,sV,iV,bV]at r156 rt rb fp co ⊢
  simp only[zS,zD,zT39,zT33,zT36,zT37,zT9,zT3,r156,rt,rb,fp,co,l0,l8,k1,k2,k3,k4,n8,aS0,simprocAttr]
  (refine .trans ?_ rfl;kernel_rfl)
 | true=>
 rw[c11]at co
 cases c12:hU0 d.sort d.levels with
 | false=>
  rw[c12]at cs
  (rw[enT hx func101 rfl];simp only[f101,zR,simprocAttr,zE])
  simp only[dcV,dcC,tmV,tmC,levV,levC,sV,iV,bV]at r156 rt rb fp co cs ⊢
  simp only[zS,zD,zT39,zT33,zT36,zT37,zT9,zT3,r156,rt,rb,fp,co,cs,l0,l8,k1,k2,k3,k4,n8,aS0,simprocAttr]
  (refine .trans ?_ rfl;kernel_rfl)
 | true=>
 rw[c12]at cs
 have e:=aL0 (rec:=run prog ext) (look:=lk [.box (dcC d)]) (slot:=1) (f:=161) (args:=[dV d.d,.c (.fn 162 [] [0])]) (ids:=[0]) (bor:=[]) (e:=⟨.val (bV (d.cons.any fun c=> !lX0 d.levels c)),[(0,.box (dcC d))],[0]⟩) (by kernel_rfl) ca (by kernel_rfl)
 rw[← kM1]
 generalize (d.cons.any fun c=> !lX0 d.levels c)=q at e ⊢
 cases q
 all_goals
  (rw[enT hx func101 rfl];simp only[f101,zR,simprocAttr,zE])
  simp only[dcV,dcC,tmV,tmC,levV,levC,dV,sV,iV,bV]at r156 rt rb fp co cs e ⊢
  simp only[zS,zD,cE0,zT39,zT33,zT36,zT37,zT9,zT3,r156,rt,rb,fp,co,cs,e,l0,l8,k1,k2,k3,k4,n8,aS0,simprocAttr]
  (refine .trans ?_ rfl;kernel_rfl)
end
end Go.Proofs.YteenjodhmppgjaaGreatDoor.Am
