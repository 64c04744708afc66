/- A part of the proof of a card. No conditions. -/
import Derived.Test.YteenjodhmppgjaaGreatDoorPb7
import Derived.Test.YteenjodhmppgjaaGreatDoorPb5
set_option linter.all false
set_option maxHeartbeats 16000000
set_option maxRecDepth 10000
namespace Go.Proofs.YteenjodhmppgjaaGreatDoor.Am
open Go.Proofs.Tryz
section
open Go
variable (ext:Ext)
structure Ask where
 s:ByteArray
 z:Fl
 ls:List Lev
 n:Int
 a:Tm
 b:Tm
def Ask.d (x:Ask):D:=listD x.z 2 (x.ls.map levD)
def askC (x:Ask):List C:=[.d (.v (.string x.s)),.d x.d,.d (.v (.int .i64 x.n)),.d (.v (.int .i64 x.a.op)),.d (.v (.int .i64 x.a.n)),.d (.v (.string x.a.s)),.d x.a.uD,.d x.a.lD,.d (.v (.int .i64 x.b.op)),.d (.v (.int .i64 x.b.n)),.d (.v (.string x.b.s)),.d x.b.uD,.d x.b.lD]
def askV (x:Ask):V:= .agg (askC x)
theorem uA1 (hx:ext 38=none)(x:Ask)(b1 b2 b3:Bool)(r31:run prog ext (.call 31 [dV x.d] [])=some (.ret [bV b1] []))(r1:run prog ext (.call 17 [tmV x.a,iV 400] [])=some (.ret [bV b2] []))(r2:run prog ext (.call 17 [tmV x.b,iV 400] [])=some (.ret [bV b3] [])) :
  run prog ext (.call 38 [askV x] [])=some (.ret [bV (decide ((x.s.size:Int)>200)||(b1||(b2||b3)))] []):=by
 by_cases c:(x.s.size:Int)>200
 ·rw[decide_eq_true c,Bool.true_or]
  (rw[enT hx func38 rfl];simp only[f38,zR,Nat.zero_le,simprocAttr,zE])
  simp only[askV,askC,dV,iV,bV]
  simp only[zS,zD,aB0,aA0,zT67,zT9,zT30,zT33,zT3,c,simprocAttr]
  (refine .trans ?_ rfl;kernel_rfl)
 rw[decide_eq_false c,Bool.false_or]
 cases b1 with
 | true=>
  (rw[enT hx func38 rfl];simp only[f38,zR,Nat.zero_le,simprocAttr,zE])
  simp only[askV,askC,dV,iV,bV]at r31 ⊢
  simp only[zS,zD,aB0,aA0,zT67,zT9,zT30,zT33,zT3,c,r31,simprocAttr]
  (refine .trans ?_ rfl;kernel_rfl)
 | false=>
 cases b2 with
 | true=>
  (rw[enT hx func38 rfl];simp only[f38,zR,Nat.zero_le,simprocAttr,zE])
  simp only[askV,askC,dV,iV,bV,tmV,tmC]at r31 r1 ⊢
  simp only[zS,zD,aB0,aA0,zT67,zT9,zT30,zT33,zT3,c,r31,r1,simprocAttr]
  (refine .trans ?_ rfl;kernel_rfl)
 | false=>
  cases b3
  all_goals
   (rw[enT hx func38 rfl];simp only[f38,zR,Nat.zero_le,simprocAttr,zE])
   simp only[askV,askC,dV,iV,bV,tmV,tmC]at r31 r1 r2 ⊢
   simp only[zS,zD,aB0,aA0,zT67,zT9,zT30,zT33,zT3,c,r31,r1,r2,simprocAttr]
   (refine .trans ?_ rfl;kernel_rfl)
end
section
open Go
variable [Guest]
theorem gY0 : eC0 prog 240:=⟨f240,func240,by kernel_rfl⟩
theorem clo0 (c:Nat):run prog E0 (.call 240 [dV (.v (.slice none 0 c))] [])=some (.ret [dV (.v (.slice none 0 0))] []):=(cJ0 _ _ _ _).2 ⟨100,by kernel_rfl⟩
theorem clo1 (a:Addr)(c:Nat):run prog E0 (.call 240 [dV (.v (.slice (some a) 0 c))] [])=some (.ret [dV (.s 2 [])] []):=(cJ0 _ _ _ _).2 ⟨100,by kernel_rfl⟩
theorem ok240e (g:Bool):eI0 prog 240 [dV (.s 2 [] g)] [] (.ret [dV (.s 2 [])] []):=by
 intro w F β vals hsim hall
 cases hall with
 | cons h t=>
  cases t
  obtain⟨a,c,rfl⟩:=repE h
  cases a with
  | none=>
   refine(lJ0 (clo0 c) gY0 w F β _ hsim (.cons (.v rfl) .nil)).mono ?_
   rintro e w' ⟨β',v,rfl,hres,hf,hst⟩
   refine oP0 (F':=F) hf hst fun β'' look=> ?_
   rcases hres with⟨y,hy,hv⟩ | ⟨hne,_⟩
   ·cases hy
    have hv':RepD w' (Nn w' F β' (lk [])) v (.v (.slice none 0 0)):=hv
    cases hv'
    exact .e none 0 2 _
   ·exact absurd rfl hne
  | some a=>exact lJ0 (clo1 a c) gY0 w F β _ hsim (.cons (.v rfl) .nil)
def R240 (args:List V)(objs:List O)(out:Out):Prop:=∃ (z:Fl)(l:List LV),l.length<2^29∧args=[dV (listD z 2 (l.map lvD))]∧objs=[]∧out = .ret [dV (listD ⟨z.z,false⟩ 2 (l.map lvD))] []
theorem jX1 {args:List V}{objs:List O}{o1 o2:Out} (h1:R240 args objs o1)(h2:R240 args objs o2):o1=o2:=by
 obtain⟨z,l,_,a,_,rfl⟩:=h1
 obtain⟨z',l',_,b,_,rfl⟩:=h2
 have e:dV (listD z 2 (l.map lvD))=dV (listD z' 2 (l'.map lvD)):=by
  have:=a.symm.trans b
  injection this
 unfold dV at e
 injection e with e
 injection e with e
 have hl:=vF0 e
 subst hl
 cases l with
 | nil=>
  have:z.z=z'.z:=by
   unfold listD at e
   cases h1:z.z <;> cases h2:z'.z <;> simp[h1,h2]at e ⊢
  rw[this]
 | cons x l=>
  have e1:∀ z:Fl,listD ⟨z.z,false⟩ 2 ((x::l).map lvD) = .s 2 ((x::l).map lvD):=fun z=>dY0 (by simp)
  rw[e1,e1]
open Classical in
noncomputable def g240 (args:List V)(objs:List O):Option Out:=if h:∃ out,R240 args objs out then some h.choose else none
theorem sJ1 {args:List V}{objs:List O}{out:Out} (h:R240 args objs out):g240 args objs=some out:=by
 unfold g240
 rw[dif_pos ⟨out,h⟩]
 exact congrArg some (jX1 (Exists.choose_spec (⟨out,h⟩:∃ out,R240 args objs out)) h)
theorem dS1 {args:List V}{objs:List O}{out:Out} (h:g240 args objs=some out):R240 args objs out:=by
 unfold g240 at h
 split at h
 ·rename_i h';cases h;exact h'.choose_spec
 ·cases h
theorem dT1 {args:List V}{objs:List O}{out:Out} (h:R240 args objs out):eI0 prog 240 args objs out:=by
 obtain⟨z,l,hl,rfl,rfl,rfl⟩:=h
 cases l with
 | nil=>
  obtain⟨z,g⟩:=z
  cases z with
  | true=>exact lJ0 (clo0 0) gY0
  | false=>exact ok240e g
 | cons x l=>
  have e:listD z 2 ((x::l).map lvD) = .s 2 ((x::l).map lvD) z.g:=dY0 (by simp)
  have e':listD ⟨z.z,false⟩ 2 ((x::l).map lvD) = .s 2 ((x::l).map lvD):=dY0 (by simp)
  rw[e,e']
  exact lJ0 (lK1 E0 rfl z.g x l (by simp at hl;omega)) gY0
noncomputable def E2 : Ext:=fun f=>if f=240 then some g240 else E1 f
theorem rec2 : kO0 prog (run prog E2):=by
 refine iK1 dU0 (fun f g args objs out h1 h2=> ?_) eW0
 unfold E2 at h1
 by_cases h0:f=240
 ·subst h0;rw[if_pos rfl]at h1;cases h1;exact .inl ⟨gY0,dT1 (dS1 h2)⟩
 rw[if_neg h0]at h1
 unfold E1 at h1
 by_cases h:f=121
 ·subst h;rw[if_pos rfl]at h1;cases h1;exact .inl ⟨iL0,dR1 (dQ1 h2)⟩
 ·rw[if_neg h]at h1
  by_cases h':f=14
  ·subst h';rw[if_pos rfl]at h1;cases h1
   unfold g14 at h2
   split at h2
   ·cases h2;exact .inl ⟨nA0,lJ0 oV1 nA0⟩
   ·cases h2
  ·rw[if_neg h']at h1;cases h1
theorem ex2 (n:FuncId)(h1:n≠14)(h2:n≠121)(h3:n≠240):E2 n=none:=by unfold E2;rw[if_neg h3];exact ex1 n h1 h2
theorem oW1 : run prog E2 (.call 14 [] [])=some (.ret [bV true] []):=by
 rw[eA0]
 simp[hW0,E2,E1,g14]
theorem sorts2 : sT0 E2:=by
 intro z l hl
 rw[eA0]
 simp only[hW0,E2,E1]
 exact sI1 ⟨z,l,hl,rfl,rfl,rfl⟩
theorem rL1 : nL0 E2:=by
 intro z l hl
 rw[eA0]
 simp only[hW0,E2,if_true]
 exact sJ1 ⟨z,l,hl,rfl,rfl,rfl⟩
end
section
open Go
inductive Pd : D→Prop
 | v (x:Value):Pd (.v x)
 | e (k:Nat) (g:Bool):Pd (.s k [] g)
 | s (k:Nat) (els:List (List D)):(∀ l∈els,∀ d∈l,Pd d)→Pd (.s k els false)
theorem Pd.listD {z:Fl}{k:Nat}{els:List (List D)} (hg:z.g=false)(h:∀ l∈els,∀ d∈l,Pd d):Pd (listD z k els):=by
 unfold Am.listD
 split
 ·exact .v _
 ·rw[hg];exact .s k els h
def PdL (u:Lev):Prop:=Pd u.d
def PdT (x:Tm):Prop:=Pd x.uD∧Pd x.lD
theorem PdL.mk {c:Int}{vs:List LV}{z:Fl} (hg:z.g=false):PdL ⟨c,vs,z⟩:=by
 refine Pd.listD hg fun l hl d hd=> ?_
 obtain⟨x,_,rfl⟩:=List.mem_map.1 hl
 simp only[lvD,List.mem_cons,List.not_mem_nil,or_false]at hd
 rcases hd with rfl | rfl <;> exact .v _
theorem PdL.cells {u:Lev} (h:PdL u):∀ d∈levD u,Pd d:=by
 intro d hd
 simp only[levD,List.mem_cons,List.not_mem_nil,or_false]at hd
 rcases hd with rfl | rfl
 ·exact .v _
 ·exact h
theorem PdT.cells {x:Tm} (h:PdT x):∀ d∈tmD x,Pd d:=by
 intro d hd
 rw[aX0]at hd
 simp only[List.mem_cons,List.not_mem_nil,or_false]at hd
 rcases hd with rfl | rfl | rfl | rfl | rfl
 ·exact .v _
 ·exact .v _
 ·exact .v _
 ·exact h.1
 ·exact h.2
theorem PdT.mk {a b:Int}{s:ByteArray}{u:List Lev}{zu:Fl}{l:List Tm}{zl:Fl} (h1:zu.g=false)(h2:∀ v∈u,PdL v)(h3:zl.g=false)(h4:∀ t∈l,PdT t):PdT (.mk a b s u zu l zl):=by
 refine⟨Pd.listD h1 fun m hm d hd=> ?_,Pd.listD h3 fun m hm d hd=> ?_⟩
 ·obtain⟨v,hv,rfl⟩:=List.mem_map.1 hm;exact(h2 v hv).cells d hd
 ·obtain⟨t,ht,rfl⟩:=List.mem_map.1 hm;exact(h4 t ht).cells d hd
theorem PdT.z : PdT zTm:=PdT.mk rfl (fun _ h=>by cases h) rfl (fun _ h=>by cases h)
theorem PdL.z : PdL zL0:=PdL.mk rfl
theorem PdL.cl (u:Lev):PdL (clU u):=PdL.mk rfl
theorem PdL.cp (u:Lev):PdL (jP0 u):=PdL.mk rfl
theorem rM0 {α β:Type}{f:α→β × Int}:∀ {l:List α}{r:List β},mapE f l = .inl r→∀ y∈r,∃ x∈l,y=(f x).1
 | [],r,h,y,hy=>by cases h;cases hy
 | x::l,r,h,y,hy=>by
  simp only[mapE]at h
  split at h
  ·split at h
   ·rename_i r' e
    cases h
    rcases List.mem_cons.1 hy with rfl | hy
    ·exact⟨x,List.mem_cons_self,rfl⟩
    ·obtain⟨z,hz,h2⟩:=rM0 e y hy
     exact⟨z,List.mem_cons_of_mem _ hz,h2⟩
   ·cases h
  ·cases h
theorem sC0 {f:Lev→Lev × Int} (h:∀ u,PdL (f u).1):∀ (N:Nat)(x:Tm),x.sz≤N→PdT (setL f x).1
 | 0,x,hN=>by have:=x.sz_pos;omega
 | N+1,x,hN=>by
  rw[yU0 f]
  split
  ·exact PdT.z
  ·rename_i u' e
   split
   ·exact PdT.z
   ·rename_i l' e'
    refine PdT.mk rfl (fun v hv=> ?_) rfl (fun t ht=> ?_)
    ·obtain⟨w,_,rfl⟩:=rM0 e v hv;exact h w
    ·obtain⟨y,hy,rfl⟩:=rM0 e' t ht;exact sC0 h N y (by have:=Tm.sz_lt hy;omega)
theorem eV1 (c:Int)(l:List LV)(z:Bool):PdL (dN0 c l z).1:=by
 unfold dN0
 by_cases h:(if c≤rP0 l then 0 else c)>1000∨rP0 l>1000∨(l.length:Int)>8
 ·rw[if_pos h];exact PdL.mk rfl
 ·rw[if_neg h];exact PdL.mk rfl
theorem lK0 (bys:List Lev)(u:Lev):PdL (bW0 u bys).1:=by
 unfold bW0
 split
 ·split
  ·exact PdL.mk rfl
  ·exact eV1 _ _ _
 ·exact PdL.mk rfl
theorem mkT_pd {x:Tm}{ls:List Tm} (h:∀ t∈ls,PdT t):PdT (mkT x ls):=PdT.mk rfl (fun v hv=>by obtain⟨u,_,rfl⟩:=List.mem_map.1 hv;exact PdL.cl u) rfl h
theorem yJ0 {g:Tm→Int→Tm} (hg:∀ y d,PdT y→PdT (g y d)):∀ (N:Nat)(x:Tm)(d:Int),PdT (mapP g N x d)
 | 0,x,d=>PdT.z
 | N+1,x,d=>by
  have h:PdT (mkT x (x.l.zipIdx.map fun p=>mapP g N p.1 (wr (d+binds x.op x.l.length p.2)))):=mkT_pd fun t ht=>by
   obtain⟨p,_,rfl⟩:=List.mem_map.1 ht
   exact yJ0 hg N _ _
  rw[mapP]
  split
  ·exact hg _ _ h
  ·exact h
theorem upP_pd (A:Tm)(d:Int):PdT (upP A d):=yJ0 (fun y e h=>by unfold shC;split;exact h;exact h) _ _ _
theorem flP_pd (A x:Tm):PdT (flP A x):=yJ0 (fun y d h=>by
 unfold flC
 split
 ·exact h
 ·split
  ·exact upP_pd A d
  ·exact h) _ _ _
section
variable (x:Tb) (s:ByteArray) (l:List Lev)
theorem jK1 (n:Nat):PdT (mR0 (fun u=>bW0 u l) x s n).1:=by
 unfold mR0
 split
 ·split
  ·exact sC0 (lK0 l) _ _ (Nat.le_refl _)
  ·exact PdT.z
 ·exact PdT.z
theorem eJ1 (n:Nat):PdT (kR0 (fun u=>bW0 u l) x s n).1:=by
 unfold kR0
 repeat' split
 all_goals first | exact PdT.z | exact sC0 (lK0 l) _ _ (Nat.le_refl _)
theorem cX1 (n:Nat):PdT (iX0 (fun u=>bW0 u l) x s n).1:=by
 unfold iX0
 split
 ·exact sC0 (lK0 l) _ _ (Nat.le_refl _)
 ·exact PdT.z
theorem hY1 (n:Nat):PdL (mM0 (fun u=>bW0 u l) x s n).1:=by
 unfold mM0
 split
 ·exact lK0 l _
 ·exact PdL.z
theorem kB1 (A:Tm)(n:Nat)(i:Int):PdT (pH0 (fun u=>bW0 u l) (flP A) x s n i).1:=by
 unfold pH0
 split
 ·exact flP_pd A _
 ·exact PdT.z
end
theorem gC1 : ∀ (N:Nat)(x:Tm),x.sz≤N→PdT (cpTm x)
 | 0,x,h=>by have:=x.sz_pos;omega
 | N+1,x,h=>by
  rw[qY0]
  refine PdT.mk rfl (fun v hv=> ?_) rfl (fun t ht=> ?_)
  ·obtain⟨u,_,rfl⟩:=List.mem_map.1 hv;exact PdL.cp u
  ·obtain⟨y,hy,rfl⟩:=List.mem_map.1 ht;exact gC1 N y (by have:=Tm.sz_lt hy;omega)
theorem qR0 {α β:Type}{R:β→α→Bool}{f:α→β}:∀ {l:List α},(∀ x∈l,R (f x) x=true)→allR R (l.map f) l=true
 | [],_=>rfl
 | x::l,h=>by simp only[List.map_cons,allR,h x List.mem_cons_self,Bool.true_and];exact qR0 fun y hy=>h y (List.mem_cons_of_mem _ hy)
theorem gL1 (x:LV):eqLV x x=true:=by simp[eqLV]
theorem sU0 {α:Type}{R:α→α→Bool} (h:∀ x,R x x=true):∀ l:List α,allR R l l=true
 | []=>rfl
 | x::l=>by simp only[allR,h x,Bool.true_and];exact sU0 h l
theorem zV0 (u:Lev):iG0 (jP0 u) u=true:=by
 unfold iG0 jP0
 simp[sU0 gL1]
theorem gD1 : ∀ (N:Nat)(x:Tm),x.sz≤N→(cpTm x).sz=x.sz
 | 0,x,h=>by have:=x.sz_pos;omega
 | N+1,x,h=>by
  rw[qY0,Tm.sz_eq,x.sz_eq]
  have h1:(Tm.mk x.op x.n x.s (x.u.map jP0) true (x.l.map cpTm) true).u=x.u.map jP0:=rfl
  have h2:(Tm.mk x.op x.n x.s (x.u.map jP0) true (x.l.map cpTm) true).l=x.l.map cpTm:=rfl
  rw[h1,h2,List.map_map,List.map_map]
  congr 2
  exact List.map_congr_left fun t ht=>gD1 N t (by have:=Tm.sz_lt ht;omega)
end
end Go.Proofs.YteenjodhmppgjaaGreatDoor.Am
