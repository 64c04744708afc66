/- A part of the proof of a card. No conditions. -/
import Derived.Test.YteenjodhmppgjaaGreatDoorPc1
import Derived.Test.YteenjodhmppgjaaGreatDoorPc2
set_option linter.all false
set_option maxHeartbeats 16000000
set_option maxRecDepth 10000
namespace Go.Proofs.YteenjodhmppgjaaGreatDoor.Am
open Go.Proofs.Tryz
section
open Go
theorem Cd.listD {z:Fl}{k:Nat}{els:List (List D)} (hg:z.g=true)(h:∀ l∈els,∀ d∈l,Cd d):Cd (listD z k els):=by
 unfold Am.listD
 split
 ·exact .v _
 ·rw[hg];exact .s k els h
theorem CdL (u:Lev):Cd (gL u).d:=by
 refine Cd.listD rfl fun l hl d hd=> ?_
 obtain⟨x,_,rfl⟩:=List.mem_map.1 hl
 simp only[lvD,List.mem_cons,List.not_mem_nil,or_false]at hd
 rcases hd with rfl | rfl <;> exact .v _
theorem CdL.cells (u:Lev):∀ d∈levD (gL u),Cd d:=by
 intro d hd
 simp only[levD,List.mem_cons,List.not_mem_nil,or_false]at hd
 rcases hd with rfl | rfl
 ·exact .v _
 ·exact CdL u
theorem CdT.u (x:Tm):Cd (gT x).uD:=by
 cases x with
 | mk a b s u zu l zl=>
  refine Cd.listD rfl fun m hm d hd=> ?_
  obtain⟨v,hv,rfl⟩:=List.mem_map.1 hm
  obtain⟨v0,_,rfl⟩:=List.mem_map.1 (show v∈u.map gL from hv)
  exact CdL.cells v0 d hd
theorem CdT.cells : ∀ (N:Nat)(x:Tm),x.sz≤N→∀ d∈tmD (gT x),Cd d
 | 0,x,h=>by have:=x.sz_pos;omega
 | N+1,x,h=>by
  intro d hd
  have hx:=fun t (ht:t∈x.l)=>CdT.cells N t (by have:=Tm.sz_lt ht;omega)
  rw[aX0]at hd
  simp only[List.mem_cons,List.not_mem_nil,or_false]at hd
  rcases hd with rfl | rfl | rfl | rfl | rfl
  ·exact .v _
  ·exact .v _
  ·exact .v _
  ·exact CdT.u x
  ·cases x with
   | mk a b s u zu l zl=>
    refine Cd.listD rfl fun m hm d hd=> ?_
    obtain⟨t,ht,rfl⟩:=List.mem_map.1 hm
    have ht':t∈gT.gTs l:=ht
    rw[aA1]at ht'
    obtain⟨t0,ht0,rfl⟩:=List.mem_map.1 ht'
    exact hx t0 ht0 d hd
theorem CdT (x:Tm):∀ d∈tmD (gT x),Cd d:=CdT.cells x.sz x (Nat.le_refl _)
theorem CdC (c:Con):∀ d∈conD (gC c),Cd d:=by
 intro d hd
 simp only[conD,List.mem_cons]at hd
 rcases hd with rfl | hd
 ·exact .v _
 ·exact CdT c.arg d hd
theorem CdD (x:Dc):∀ d∈dcD (gD x),Cd d:=by
 intro d hd
 simp only[dcD,List.mem_append,List.mem_cons,List.not_mem_nil,or_false]at hd
 rcases hd with(((((((rfl | rfl | rfl) | hd) | hd) | hd) | hd) | hd) | rfl)
 ·exact .v _
 ·exact .v _
 ·exact .v _
 ·exact CdT x.type d hd
 ·exact CdT x.body d hd
 ·exact CdT x.param d hd
 ·exact CdL.cells x.over d hd
 ·exact CdL.cells x.sort d hd
 ·refine Cd.listD rfl fun m hm d hd=> ?_
  obtain⟨c,hc,rfl⟩:=List.mem_map.1 hm
  obtain⟨c0,_,rfl⟩:=List.mem_map.1 (show c∈x.cons.map gC from hc)
  exact CdC c0 d hd
theorem CdB (t:Tb):Cd (gB t).d:=by
 refine Cd.listD rfl fun m hm d hd=> ?_
 obtain⟨c,hc,rfl⟩:=List.mem_map.1 hm
 obtain⟨c0,_,rfl⟩:=List.mem_map.1 (show c∈t.ds.map gD from hc)
 exact CdD c0 d hd
theorem CdQ (q:Ask):Cd (gA q).d:=by
 refine Cd.listD rfl fun m hm d hd=> ?_
 obtain⟨c,hc,rfl⟩:=List.mem_map.1 hm
 obtain⟨c0,_,rfl⟩:=List.mem_map.1 (show c∈q.ls.map gL from hc)
 exact CdL.cells c0 d hd
section
variable {w:World}{N:Nat→Prop}{M:Nat→Prop}{g:Guest}
theorem vC1 {v:Value}{z:Fl}{k:Nat}{els:List (List D)}{R:Nat→Value→Prop} (h : @RepD g w N v (listD z k els))(hz:z.g=true)(hM:∀ b,g.G b→M b∧Soft w b)(hn:els.length<2^50)(hk0:0<k)
  (hR:∀ l∈els,∀ (j:Nat) x c,l[j]? = some x → @RepD g w N c x→R j c):Sl M w k R v:=by
 unfold listD at h
 split at h
 ·cases h with
  | v _=>exact .inl ⟨none,0,rfl⟩
 ·rw[hz]at h
  rcases @RepD.inv g w N v k els true h with⟨rfl,a,cap,rfl⟩ | ⟨b,o,cap,c,rfl,hb,hc,hk,hcell,hrep⟩
  ·exact .inl ⟨a,cap,rfl⟩
  ·have hb':g.G b:=hb
   by_cases he:els.length=0
   ·rw[he];exact .inl ⟨_,cap,rfl⟩
   ·have at_:∀ i j,i<els.length→j<k→w.cell? ⟨b,o+i*k+j,none⟩=some (c i j)∧R j (c i j):=by
     intro i j hi hj
     have h1:els[i]? = some els[i]:=List.getElem?_eq_getElem hi
     have hlen:=hk _ (List.getElem_mem hi)
     have h2:els[i][j]? = some (els[i][j]'(by omega)):=List.getElem?_eq_getElem (by omega)
     exact⟨hcell i _ j _ h1 h2,hR _ (List.getElem_mem hi) j _ _ h2 (hrep i _ j _ h1 h2)⟩
    have h00:=(at_ 0 0 (by omega) hk0).1
    obtain⟨vals,ty,fr,hh⟩:∃ vals ty fr,w.heap[b]? = some (.cells vals ty fr):=by
     simp only[World.cell?]at h00
     split at h00
     ·rename_i vals ty fr e;exact⟨vals,ty,fr,e⟩
     ·cases h00
    have hfr:=(hM b hb').2.2 vals ty fr hh
    subst hfr
    have val:∀ i j,i<els.length→j<k→vals[o+i*k+j]? = some (c i j):=by
     intro i j hi hj
     have:=(at_ i j hi hj).1
     simp only[World.cell?,hh]at this
     simpa using this
    refine .inr ⟨b,o,els.length,cap,vals,ty,rfl,hn,(hM b hb').1,hh,?_,fun i j hi hj=>⟨_,val i j hi hj,(at_ i j hi hj).2⟩⟩
    have hl:=val (els.length - 1) (k - 1) (by omega) (by omega)
    have hlt:o+(els.length - 1)*k+(k - 1)<vals.size:=by
     rcases Nat.lt_or_ge (o+(els.length - 1)*k+(k - 1)) vals.size with h | h
     ·exact h
     ·rw[Array.getElem?_eq_none h]at hl;cases hl
    have e:els.length*k=(els.length - 1)*k+k:=by
     have:els.length=els.length - 1+1:=by omega
     conv=>lhs;rw[this,Nat.succ_mul]
    omega
theorem jA0 {c:Value}{n:Int} (h : @RepD g w N c (.v (.int .i64 n))):isInt c:=by cases h;exact⟨n,rfl⟩
theorem iM1 {c:Value}{s:ByteArray} (h : @RepD g w N c (.v (.string s))):isStr c:=by cases h;exact⟨s,rfl⟩
theorem sl_lv (hM:∀ b,g.G b→M b∧Soft w b){u:Lev}{v:Value} (h : @RepD g w N v (gL u).d)(hn:u.vs.length<2^50):Sl M w 2 isLV v:=by
 refine vC1 h rfl hM (by simpa [gL] using hn) (by omega) fun l hl j x c hj hc=> ?_
 obtain⟨y,_,rfl⟩:=List.mem_map.1 hl
 have hj2:j<2:=cT0 hj
 match j,hj with
 | 0,hj=>cases hj;exact jA0 hc
 | 1,hj=>cases hj;exact jA0 hc
theorem vB1 (hM:∀ b,g.G b→M b∧Soft w b){z:Fl}{ls:List Lev}{v:Value} (h : @RepD g w N v (listD (gF z) 2 ((ls.map gL).map levD)))(hn:ls.length<2^50)(hv:∀ u∈ls,u.vs.length<2^50):Sl M w 2 (isLev M w) v:=by
 refine vC1 h rfl hM (by simpa using hn) (by omega) fun l hl j x c hj hc=> ?_
 obtain⟨y,hy,rfl⟩:=List.mem_map.1 hl
 obtain⟨u,hu,rfl⟩:=List.mem_map.1 hy
 have hj2:j<2:=cT0 hj
 match j,hj with
 | 0,hj=>cases hj;exact jA0 hc
 | 1,hj=>cases hj;exact sl_lv hM hc (hv u hu)
theorem sl_u (hM:∀ b,g.G b→M b∧Soft w b){x:Tm}{v:Value} (h : @RepD g w N v (gT x).uD)(hs:x.sz<2^50):Sl M w 2 (isLev M w) v:=by
 have h1:=x.ulen_lt
 have h2:=fun u (hu:u∈x.u)=>Tm.lev_lt hu
 cases x with
 | mk a b s u zu l zl=>
  refine vB1 (z:=zu) (ls:=u) hM h (by simp only[Tm.u]at h1;omega) fun y hy=> ?_
  have:=h2 y hy
  unfold Lev.sz at this;omega
theorem sl_l (hM:∀ b,g.G b→M b∧Soft w b):∀ (K:Nat){x:Tm}{v:Value},x.sz≤K→K<2^50 → @RepD g w N v (gT x).lD→isTm M w K 4 v
 | 0,x,v,hK,_,_=>by have:=x.sz_pos;omega
 | K+1,x,v,hK,hK2,h=>by
  have h1:=x.len_lt
  have h2:=fun t (ht:t∈x.l)=>Tm.sz_lt ht
  show Sl M w 5 (isTm M w K) v
  cases x with
  | mk a b s u zu l zl=>
   have e:(gT (.mk a b s u zu l zl)).lD=listD (gF zl) 5 ((l.map gT).map tmD):=by
    show listD (gF zl) 5 ((gT.gTs l).map tmD)=_
    rw[aA1]
   rw[e]at h
   simp only[Tm.l]at h1 h2
   refine vC1 h rfl hM (by simp;omega) (by omega) fun m hm j y c hj hc=> ?_
   obtain⟨t,ht,rfl⟩:=List.mem_map.1 hm
   obtain⟨t0,ht0,rfl⟩:=List.mem_map.1 ht
   have hsz:=h2 t0 ht0
   rw[aX0]at hj
   have hj2:j<5:=cT0 hj
   match j,hj with
   | 0,hj=>cases hj;unfold isTm;exact jA0 hc
   | 1,hj=>cases hj;unfold isTm;exact jA0 hc
   | 2,hj=>cases hj;unfold isTm;exact iM1 hc
   | 3,hj=>cases hj;unfold isTm;exact sl_u hM hc (by omega)
   | 4,hj=>cases hj;exact sl_l hM K (by omega) (by omega) hc
end
end
section
open Go
theorem eE0 {o o':O} (h:shO o=shO o')(ha:bL0 o'=true):bL0 o=true:=by
 cases o <;> cases o' <;> simp_all [shO,bL0]
theorem pW1 {o o':O} (h:shO o=shO o')(ha:bI0 (some o')=false):∀ k l c r,o ≠ .stk k l c r:=by
 rintro k l c r rfl
 cases o' <;> simp_all [shO,bI0]
theorem Sim.re {g g':Guest}{w:World}{F F':Nat→Prop}{β:Int→Nat}{loc loc':List O} (hS : @Sim g w F β (lk loc))(hF:∀ b,F' b→b<w.heap.size)(hFl:∀ b,Live β (lk loc) b→¬ F' b)(hG:∀ b,g'.G b→F' b)
  (ho:∀ id o',lk loc' id=some o'→bL0 o'=true→bI0 (some o')=false∧∃ o,lk loc id=some o∧shO o=shO o' ∧ @RO g' w (Nn w F' β (lk loc')) β (shL (lk loc')) (β id) (bs β id) o') : @Sim g' w F' β (lk loc'):=by
 have lv:∀ b,Live β (lk loc') b→Live β (lk loc) b:=by
  rintro b ⟨id,o',h1,h2,h3⟩
  obtain⟨_,o,q1,q2,_⟩:=ho id o' h1 h2
  exact⟨id,o,q1,eE0 q2 h2,h3⟩
 refine @Sim.mk g' w F' β (lk loc') hF (fun id o' h1 h2=> ?_) (fun id id' o1 o2 h1 h2 a1 a2 e=> ?_) ⟨(@Sim.laid g _ _ _ _ hS).1,fun h=>(@Sim.laid g _ _ _ _ hS).2 (lv _ h)⟩ hG
 ·obtain⟨_,o,q1,q2,q3⟩:=ho id o' h1 h2
  obtain⟨p1,p2,_⟩:= @Sim.live g _ _ _ _ hS id o q1 (eE0 q2 h2)
  exact⟨p1,hFl _ ⟨id,o,q1,eE0 q2 h2,rfl⟩,q3⟩
 ·obtain⟨s1,o,q1,q2,q3⟩:=ho id o1 h1 a1
  obtain⟨s2,p,r1,r2,r3⟩:=ho id' o2 h2 a2
  rcases @Sim.inj g _ _ _ _ hS id id' o p q1 r1 (eE0 q2 a1) (eE0 r2 a2) e with h | ⟨k,l,l',r,c,h,_⟩ | ⟨k,l,l',r,c,h,_⟩
  ·exact .inl h
  ·rw[q1]at h;cases h;exact absurd rfl (pW1 q2 s1 _ _ _ _)
  ·rw[r1]at h;cases h;exact absurd rfl (pW1 r2 s2 _ _ _ _)
theorem mO0 {g:Guest}{w:World}{N:Nat→Prop}{β:Int→Nat}{sh:Nat→Option Sh}:∀ {l:List Value}{ds:List D},All2 (@RK g w N β sh) l (ds.map C.d)→All2 (@RepD g w N) l ds
 | [],[],_=> .nil
 | [],_::_,h=>by cases h
 | _::_,[],h=>by cases h
 | x::l,d::ds,h=>by cases h with | cons h1 h2=>exact .cons h1.2 (mO0 h2)
theorem pR0 {g:Guest}{w:World}{N:Nat→Prop}{β:Int→Nat}{sh:Nat→Option Sh}:∀ {l:List Value}{ds:List D},All2 (@RepD g w N) l ds→All2 (@RK g w N β sh) l (ds.map C.d)
 | [],[],_=> .nil
 | [],_::_,h=>by cases h
 | _::_,[],h=>by cases h
 | x::l,d::ds,h=>by cases h with | cons h1 h2=>exact .cons ⟨@RepD.cell g _ _ _ _ h1,h1⟩ (pR0 h2)
def rawC (l:List Value):List C:=l.map fun y=> .d (.v y)
theorem mP0 {g:Guest}{w:World}{N:Nat→Prop}{β:Int→Nat}{sh:Nat→Option Sh}:∀ {l:List Value},(∀ y∈l,cellB y=true)→All2 (@RK g w N β sh) l (rawC l)
 | [],_=> .nil
 | x::l,h=> .cons ⟨h x List.mem_cons_self,@RepD.v g _ _ _ (h x List.mem_cons_self)⟩ (mP0 fun y hy=>h y (List.mem_cons_of_mem _ hy))
theorem kI0 {g:Guest}{w:World}{N:Nat→Prop}{β:Int→Nat}{sh:Nat→Option Sh}{l:List Value}{cs:List C} (h:All2 (@RK g w N β sh) l cs):∀ y∈l,cellB y=true:=by
 intro y hy
 obtain⟨j,hj⟩:=List.getElem?_of_mem hy
 obtain⟨c,_,h⟩:=h.get_left hj
 exact h.1
theorem dW1 {α:Type}{β γ:Type}{R:α→β→Prop}{S:α→γ→Prop}{f:β→γ}{P:β→Prop} (h:∀ a b,R a b→P b→S a (f b)):∀ {l:List α}{m:List β},All2 R l m→(∀ b∈m,P b)→All2 S l (m.map f)
 | _,_,.nil,_=> .nil
 | _,_,.cons h1 h2,hp=> .cons (h _ _ h1 (hp _ List.mem_cons_self)) (dW1 h h2 fun b hb=>hp b (List.mem_cons_of_mem _ hb))
theorem jF1 (x:Tm):tmC x=(tmD x).map C.d:=by rw[aX0];rfl
theorem rD0 (x:Lev):levC x=(levD x).map C.d:=rfl
theorem sJ0 (x:Tb):tbC x=[x.d].map C.d:=rfl
def askD (x:Ask):List D:=[.v (.string x.s),x.d,.v (.int .i64 x.n)]++tmD x.a++tmD x.b
theorem mZ0 (x:Ask):askC x=(askD x).map C.d:=by simp[askD,aX0,askC]
theorem mP1 {loc:List O}{id:Nat}{o:O} (h:lk loc id=some o):loc[id]? = some o:=by
 unfold lk at h
 split at h
 ·cases h
 ·exact h
theorem dB0 {g:Guest}{w:World}{F:Nat→Prop}{β:Int→Nat}{look:Look} (hS : @Sim g w F β look){id:Nat}{cs:List C} (h:look id=some (.box cs)) :
  ∃ vals ty,w.heap[β id]? = some (.cells vals ty (0,0))∧All2 (@RK g w (Nn w F β look) β (shL look)) vals.toList cs:=(@Sim.live g _ _ _ _ hS id _ h rfl).2.2
end
section
open Go
theorem sE1 [Guest]:∀ f g args objs out,E2 f=some g→g args objs=some out→(eC0 prog f∧eI0 prog f args objs out)∨bJ1 prog f args objs out:=by
 intro f g args objs out h1 h2
 unfold E2 at h1
 by_cases h0:f=240
 ·subst h0;rw[if_pos rfl]at h1;cases h1;exact .inl ⟨gY0,dT1 (dS1 h2)⟩
 rw[if_neg h0]at h1
 unfold E1 at h1
 by_cases h:f=121
 ·subst h;rw[if_pos rfl]at h1;cases h1;exact .inl ⟨iL0,dR1 (dQ1 h2)⟩
 ·rw[if_neg h]at h1
  by_cases h':f=14
  ·subst h';rw[if_pos rfl]at h1;cases h1
   unfold g14 at h2
   split at h2
   ·cases h2;exact .inl ⟨nA0,lJ0 oV1 nA0⟩
   ·cases h2
  ·rw[if_neg h']at h1;cases h1
theorem Behind.trans [Guest] {P:Program}{w w1 w2:World}{F:Nat→Prop}{β β1 β2:Int→Nat}{loc l1 l2:List O}{a a1 a2:Act}{e1 e2:Env} (h:Behind P w F β loc a e1 l1 a1 w1 β1)(k:Behind P w1 F β1 l1 a1 e2 l2 a2 w2 β2):Behind P w F β loc a e2 l2 a2 w2 β2:=by
 obtain⟨b1,b2,b3,b4,b5⟩:=h
 obtain⟨c1,c2,c3,c4,c5⟩:=k
 exact⟨c1,c2,b3.trans c3,c4.trans b4,c5.trans b5⟩
theorem cH0 {P:Program}{c c1 c2:Code}{k:List Item}{a:Act}{w:World}{Post:FinK→Act→World→Prop} (h:c = .seq c1 c2)(hr:Reach P (.code c1 :: .code c2::k) a w Post):Reach P (.code c::k) a w Post:=by
 subst h
 exact aF0 (fun b cs=>step_seq) hr
theorem cS0 [Guest] {P:Program} (hN:iI0 P){rec:Rec} (hrec:kO0 P rec)(hMix:P.follows .mixedOrders=true){F:Nat→Prop}{Post:FinK→Act→World→Prop}{c:Code}{k:List Item}{env env':Env}{loc loc' loc0:List O}{a a0:Act}{w w0:World}{β β0:Int→Nat}{nt:Nat}
  (h:dM0 (goC P rec nt c env loc) env' loc') (hn:a.tmps.size=nt) (hd:a.defers=[]) (hb0:Behind P w0 F β0 loc0 a0 env loc a w β)
  (hq:∀ a' w' β',Behind P w0 F β0 loc0 a0 env' loc' a' w' β'→a'.tmps.size=nt→a'.defers=[]→Reach P k a' w' Post):Reach P (.code c::k) a w Post:=by
 refine cE0 hN hrec hMix h hn hd hb0.1 hb0.2.1 fun a' w' β' hb=>hq a' w' β' (hb0.trans hb) (hb.2.2.2.1.trans hn) (hb.2.2.2.2.trans hd)
theorem s0 : B10 = .seq (Q10 [0]) (Q10 [1]):=by kernel_rfl
theorem s1 : Q10 [1] = .seq (Q10 [1,0]) (Q10 [1,1]):=by kernel_rfl
theorem s3 : Q10 [1,1] = .seq (Q10 [1,1,0]) (Q10 [1,1,1]):=by kernel_rfl
theorem s4 : Q10 [1,1,1] = .seq (Q10 [1,1,1,0]) (Q10 [1,1,1,1]):=by kernel_rfl
theorem s5 : Q10 [1,1,1,1] = .seq (Q10 [1,1,1,1,0]) (Q10 [1,1,1,1,1]):=by kernel_rfl
theorem s6 : Q10 [1,1,1,1,1] = .seq (Q10 [1,1,1,1,1,0]) (Q10 [1,1,1,1,1,1]):=by kernel_rfl
theorem s7 : Q10 [1,1,1,1,1,1] = .seq (Q10 [1,1,1,1,1,1,0]) (Q10 [1,1,1,1,1,1,1]):=by kernel_rfl
theorem s8 : Q10 [1,1,1,1,1,1,1] = .seq (Q10 [1,1,1,1,1,1,1,0]) (Q10 [1,1,1,1,1,1,1,1]):=by kernel_rfl
theorem s9 : Q10 [1,1,1,1,1,1,1,1] = .seq (Q10 [1,1,1,1,1,1,1,1,0]) (Q10 [1,1,1,1,1,1,1,1,1]):=by kernel_rfl
def envA : Env:=[(2,pv 0),(3,pv 1),(5,pv 2),(7,pv 3),(10,pv 4),(12,pv 5),(14,pv 6)]
def envB : Env:=[(2,pv 0),(3,pv 1),(5,pv 2),(7,pv 3),(10,pv 4),(12,pv 5),(14,pv 6),(16,.c (.own 15)),(17,pv 17)]
theorem walkA [Guest] {F:Nat→Prop}{β:Int→Nat}{a0:Act}{w0:World}{Post:FinK→Act→World→Prop}{k:List Item} (x:Tb)(q:Ask)(a b c d:Tm)(l:Lev)(e1 e2 e3 e4 e5:Int)(bb:Bool)
  (r13:run prog E2 (.call 13 [tbV x] [])=some (.ret [bV false] []))(r38:run prog E2 (.call 38 [askV q] [])=some (.ret [bV false] []))
  (r32:run prog E2 (.call 32 [tbV x,sV q.s,dV q.d] [])=some (.ret [tmV a,iV e1] []))(r34:run prog E2 (.call 34 [tbV x,sV q.s,dV q.d] [])=some (.ret [tmV b,bV bb,iV e2] []))(r39:run prog E2 (.call 39 [tbV x,sV q.s,dV q.d] [])=some (.ret [tmV c,iV e3] []))
  (r46:run prog E2 (.call 46 [tbV x,sV q.s,dV q.d,iV q.n,tmV q.a] [])=some (.ret [tmV d,iV e4] []))(r41:run prog E2 (.call 41 [tbV x,sV q.s,dV q.d] [])=some (.ret [levV l,iV e5] []))
  (hn:a0.tmps.size=161) (hd:a0.defers=[]) (hS:Sim w0 F β (lk [])) (hE:EnvR w0 F β (lk []) a0.tmps [(0,tbV x),(1,askV q)])
  (hq:∀ a' w' β',Behind prog w0 F β [] a0 envA [.box (tbC x),.box (askC q),.box (tmC a),.box (tmC b),.box (tmC c),.box (tmC d),.box (levC l)] a' w' β'→a'.tmps.size=161→a'.defers=[]→Reach prog (.code (Q10 [1,1,1,1,1,1,1])::k) a' w' Post) :
  Reach prog (.code B10::k) a0 w0 Post:=by
 have hb:Behind prog w0 F β [] a0 [(0,tbV x),(1,askV q)] [] a0 w0 β:=⟨hS,hE,St.refl _ _ _ _,rfl,rfl⟩
 refine cH0 s0 (cS0 dU0 rec2 eW0 (pa0 E2 x q) hn hd hb fun a1 w1 β1 hb1 hn1 hd1=> ?_)
 refine cH0 s1 (cS0 dU0 rec2 eW0 (pa1 E2 x q r13 r38) hn1 hd1 hb1 fun a1 w1 β1 hb1 hn1 hd1=> ?_)
 refine cH0 s3 (cS0 dU0 rec2 eW0 (pa3 E2 x q a e1 bb r32) hn1 hd1 hb1 fun a1 w1 β1 hb1 hn1 hd1=> ?_)
 refine cH0 s4 (cS0 dU0 rec2 eW0 (pa4 E2 x q _ b e2 bb r34) hn1 hd1 hb1 fun a1 w1 β1 hb1 hn1 hd1=> ?_)
 refine cH0 s5 (cS0 dU0 rec2 eW0 (pa5 E2 x q _ _ c e3 bb r39) hn1 hd1 hb1 fun a1 w1 β1 hb1 hn1 hd1=> ?_)
 refine cH0 s6 (cS0 dU0 rec2 eW0 (pa6 E2 x q _ _ _ d e4 bb r46) hn1 hd1 hb1 fun a1 w1 β1 hb1 hn1 hd1=> ?_)
 refine cH0 s7 (cS0 dU0 rec2 eW0 (pa7 E2 x q _ _ _ _ l e5 bb r41) hn1 hd1 hb1 fun a1 w1 β1 hb1 hn1 hd1=> ?_)
 exact hq a1 w1 β1 hb1 hn1 hd1
theorem walkB [Guest] {F:Nat→Prop}{β:Int→Nat}{a0:Act}{w0:World}{Post:FinK→Act→World→Prop}{k:List Item} (o0 o1:O)(a b c d a' b' c' d':Tm)(l l':Lev)
  (ra:run prog E2 (.call 48 [tmV a] [])=some (.ret [tmV a'] []))(rb:run prog E2 (.call 48 [tmV b] [])=some (.ret [tmV b'] []))(rc:run prog E2 (.call 48 [tmV c] [])=some (.ret [tmV c'] []))(rd:run prog E2 (.call 48 [tmV d] [])=some (.ret [tmV d'] []))(rl:run prog E2 (.call 49 [levV l] [])=some (.ret [levV l'] []))
  (hn:a0.tmps.size=161) (hd:a0.defers=[]) (hS:Sim w0 F β (lk [o0,o1,.box (tmC a),.box (tmC b),.box (tmC c),.box (tmC d),.box (levC l)])) (hE:EnvR w0 F β (lk [o0,o1,.box (tmC a),.box (tmC b),.box (tmC c),.box (tmC d),.box (levC l)]) a0.tmps envA)
  (hq:∀ a1 w' β',Behind prog w0 F β [o0,o1,.box (tmC a),.box (tmC b),.box (tmC c),.box (tmC d),.box (levC l)] a0 envB [o0,o1,.box (tmC a),.box (tmC b),.box (tmC c),.box (tmC d),.box (levC l),.hole,.hole,.hole,.hole,.hole,.hole,.hole,.hole,.arr 5 [tmD a',tmD b',tmD c',tmD d'],.hole,.box (levC l')] a1 w' β'→a1.tmps.size=161→a1.defers=[]→Reach prog (.code (Q10 [1,1,1,1,1,1,1,1,1])::k) a1 w' Post) :
  Reach prog (.code (Q10 [1,1,1,1,1,1,1])::k) a0 w0 Post:=by
 have hb:Behind prog w0 F β [o0,o1,.box (tmC a),.box (tmC b),.box (tmC c),.box (tmC d),.box (levC l)] a0 envA [o0,o1,.box (tmC a),.box (tmC b),.box (tmC c),.box (tmC d),.box (levC l)] a0 w0 β:=⟨hS,hE,St.refl _ _ _ _,rfl,rfl⟩
 refine cH0 s8 (cS0 dU0 rec2 eW0 (pb8 E2 o0 o1 (.box (levC l)) a b c d a' b' c' d' ra rb rc rd) hn hd hb fun a1 w1 β1 hb1 hn1 hd1=> ?_)
 refine cH0 s9 (cS0 dU0 rec2 eW0 (pb9 E2 o0 o1 (.box (tmC a)) (.box (tmC b)) (.box (tmC c)) (.box (tmC d)) (.arr 5 [tmD a',tmD b',tmD c',tmD d']) l l' rl) hn1 hd1 hb1 fun a1 w1 β1 hb1 hn1 hd1=> ?_)
 exact hq a1 w1 β1 hb1 hn1 hd1
theorem walkD [Guest] {F:Nat→Prop}{β:Int→Nat}{a0:Act}{w0:World}{env:Env}{loc:List O}{c:Code}{out:Out}{fn:Func}{cf:Cf} (h:run prog E2 (.k cf [.code c] env loc)=some out)(hr:fn.results.toList=cf.res)(hn:a0.tmps.size=cf.nt)(hd:a0.defers=[])(hS:Sim w0 F β (lk loc))(hE:EnvR w0 F β (lk loc) a0.tmps env) :
  Reach prog [.code c] a0 w0 (PostK prog fn cf.m out w0 F β (lk loc)):=by
 obtain⟨n,hn'⟩:=(cJ0 _ _ _ _).1 h
 have hk:=jM0 dU0 sE1 eW0 n _ _ hn'
 have hc:lU0 [.code c] [.code c]:=⟨[],rfl,rfl⟩
 exact jG0 hc (hk fn [.code c] a0 w0 F β hr hc hn hd hS hE)
theorem at_raw {w:World}{F:Nat→Prop}{β:Int→Nat}{look:Look} (hS:Sim w F β look){id:Nat}{xs:List Value} (h:look id=some (.box (rawC xs))):At w (β id) 0 xs:=by
 obtain⟨vals,ty,hb,hall⟩:=dB0 hS h
 have hv:vals=xs.toArray:=by
  have:=oT0 (v:= .agg vals) (xs:=xs) ⟨vals,rfl,hall⟩
  simpa using this
 subst hv
 intro j z hj
 simp only[World.cell?,hb]
 simpa using hj
theorem wC1 {α β:Type}{f:α→β}{ops:Array α}{x y:β} (h:ops.toList.map f=[x,y]):∃ o0 o1,ops = #[o0,o1]∧f o0=x∧f o1=y:=by
 obtain⟨l⟩:=ops
 cases l with
 | nil=>simp at h
 | cons a l=>
  cases l with
  | nil=>simp at h
  | cons b l=>
   cases l with
   | nil=>simp at h;exact⟨a,b,rfl,h.1,h.2⟩
   | cons c l=>simp at h
theorem pB0 {Post:FinK→Act→World→Prop}{k:List Item}{M:Nat→Prop}{F:Nat→Prop}{β:Int→Nat}{a:Act}{w:World}{env:Env}{loc:List O}{n T f s d0 d1 id:Nat}{ops:Array Oper}{xs:List Value}
  (hops:ops.toList.map (fun o=>(o.dst,o.op,o.guard))=[(some d0,.load T (.tmp s),none),(some d1,.call { callee:= .value (.func f),args:= #[.tmp d0],argTypes:= #[T] },none)])
  (hS:Sim w F β (lk loc)) (hE:EnvR w F β (lk loc) a.tmps env) (hn:a.tmps.size=161) (hlt:d0<161) (hlt1:d1<161) (hs:gt env s=pv id) (ha:gt env d0 = .c .any) (hb:gt env d1 = .c .any)
  (hbox:lk loc id=some (.box (rawC xs))) (hxs:∀ y∈xs,cellB y=true) (hc:cutC prog T (rawC xs) 0=some (.agg (rawC xs))) (hMF:∀ b,M b→F b) (hL:¬ M dI0) (hB:eC0 prog f)
  (hcall:Calls prog f #[.agg xs.toArray] w fun e w'=>(∃ v,e = .returned v)∧Sp M w w')
  (hq:∀ a' w',Sim w' F β (lk loc)→EnvR w' F β (lk loc) a'.tmps env→Sp M w w'→a'.tmps.size=161→a'.defers=a.defers→Reach prog k a' w' Post):Reach prog (.code (.region n ops false)::k) a w Post:=by
 obtain⟨o0,o1,rfl,k0,k1⟩:=wC1 hops
 simp only[Prod.mk.injEq]at k0 k1
 obtain⟨p1,p2,p3⟩:=k0
 obtain⟨q1,q2,q3⟩:=k1
 refine aF0 (fun b cs=>step_region) (gI0 ?_)
 show wpOps _ _ _ [0,1] _ _
 have hp:a.eval (.tmp s) = .pointer (some ⟨β id,0,none⟩):=by
  have:=iO0 hE (.tmp s)
  have e2:ev env (.tmp s)=pv id:=hs
  rw[e2]at this
  exact this.2
 have hat:=at_raw hS hbox
 rw[wpOps_cons]
 refine sN0 (w:=w) (F:=F) (β:=β) (look:=lk loc) (xs:=xs) (v:= .agg (rawC xs)) (d:=some d0) rfl p3 p2 p1 hp hat hxs hc fun y hy=> ?_
 have hy':y = .agg xs.toArray:=oT0 (xs:=xs) hy
 subst hy'
 have hE4:=hE.put (dst:=some d0) (x:= .agg xs.toArray) (v:= .c .any) trivial (by rw[hC0,hn];exact decide_eq_true hlt)
 have hev:((a.put (some d0) (.agg xs.toArray)).eval (.tmp d0)) = .agg xs.toArray:=by
  show(a.put (some d0) (.agg xs.toArray)).tmps.getD d0 undef=_
  simp[Act.put,Array.getD_eq_getD_getElem?,hn,hlt]
 rw[wpOps_cons]
 refine sM0 dU0 (f:=f) (args:= #[.tmp d0]) (vals:= #[.agg xs.toArray]) (d:=some d1) rfl q3 q2 q1 (by simp only[List.map_toArray,List.map_cons,List.map_nil,hev]) hB hcall fun e w5 he=> ?_
 obtain⟨⟨u,rfl⟩,hs5⟩:=he
 refine⟨u,rfl,?_⟩
 obtain⟨hS5,hR5⟩:=hS.sp noG hs5 hMF hL
 have hE5:EnvR w5 F β _ (a.put (some d0) (.agg xs.toArray)).tmps _:=fun t=>hR5 _ _ (hE4 t)
 have hE6:=hE5.put (dst:=some d1) (x:=u) (v:= .c .any) trivial (by rw[hC0,bP0,hn];exact decide_eq_true hlt1)
 refine hq _ _ hS5 (hE6.sub fun t=> ?_) hs5 (by rw[bP0,bP0];exact hn) (by rw[bG0,bG0])
 by_cases e1:t=d1
 ·subst e1;exact .inr hb
 ·by_cases e0:t=d0
  ·subst e0;exact .inr ha
  ·left
   show gt env t=gt (pt (pt env d0 (.c .any)) d1 (.c .any)) t
   rw[xX0,xX0,if_neg e1,if_neg e0]
end
section
open Go
theorem iR1 (loc:List O)(id:Nat):shL (lk loc) id=((loc.map shO)[id]?).join:=by
 unfold shL lk
 rw[List.getElem?_map]
 cases h:loc[id]? with
 | none=>rfl
 | some o=>cases o <;> rfl
theorem nH1 {loc loc':List O} (h:loc.map shO=loc'.map shO):shL (lk loc)=shL (lk loc'):=by
 funext id
 rw[iR1,iR1,h]
theorem hG1 {loc loc':List O} (h:loc.map shO=loc'.map shO){β:Int→Nat}{b:Nat}:Live β (lk loc) b→Live β (lk loc') b:=by
 rintro⟨id,o,h1,h2,h3⟩
 have e:(loc.map shO)[id]? = some (shO o):=by rw[List.getElem?_map,mP1 h1];rfl
 rw[h,List.getElem?_map]at e
 obtain⟨o',e1,e2⟩:=Option.map_eq_some_iff.1 e
 have ha:bL0 o'=true:=eE0 e2 h2
 exact⟨id,o',mW0 e1 (by rintro rfl;cases ha),ha,h3⟩
theorem hQ1 {loc loc':List O} (h:loc.map shO=loc'.map shO){w:World}{F:Nat→Prop}{β:Int→Nat}{b:Nat} (hb:Nn w F β (lk loc) b):Nn w F β (lk loc') b:=⟨hb.1,hb.2.1,fun hl=>hb.2.2 (hG1 h.symm hl)⟩
def ptrB : V→Bool
 | .c (.ptr _ _)=>true
 | .c (.own _)=>true
 | _=>false
theorem aB1 : ∀ {env:Env},env.all (fun p=>ptrB p.2)=true→∀ t,gt env t = .c .any∨ptrB (gt env t)=true
 | [],_,t=> .inl rfl
 | (u,v)::r,h,t=>by
  simp only[List.all_cons,Bool.and_eq_true]at h
  unfold gt
  split
  ·exact .inr h.1
  ·exact aB1 h.2 t
theorem gK1 {g g':Guest}{w:World}{F F':Nat→Prop}{β:Int→Nat}{loc loc':List O}{tmps:Array Value}{env:Env} (h : @EnvR g w F β (lk loc) tmps env)(hs:loc.map shO=loc'.map shO)(hp:env.all (fun p=>ptrB p.2)=true) : @EnvR g' w F' β (lk loc') tmps env:=by
 intro t
 have h1:=h t
 rcases aB1 hp t with e | e
 ·rw[e];trivial
 ·generalize gt env t=v at h1 e ⊢
  have h2 : @RV g w (Nn w F β (lk loc)) β (shL (lk loc)) (tmps.getD t undef) v:=h1
  show @RV g' w (Nn w F' β (lk loc')) β (shL (lk loc')) (tmps.getD t undef) v
  rw[← nH1 hs]
  cases v with
  | c x=>
   cases x with
   | ptr id off=>exact h2
   | own id=>exact h2
   | _=>cases e
  | agg _=>cases e
  | tup _=>cases e
theorem bE1 {g g':Guest}{w w':World}{N N':Nat→Prop} (hk:∀ b,N b→N' b∧w'.heap[b]? = w.heap[b]?):∀ {l:List Value}{ds:List D},All2 (@RepD g w N) l ds→(∀ d∈ds,Pd d)→All2 (@RepD g' w' N') l ds
 | _,_,.nil,_=> .nil
 | _,_,.cons h t,hp=> .cons (RepD.swap h hk (hp _ List.mem_cons_self)) (bE1 hk t fun d hd=>hp d (List.mem_cons_of_mem _ hd))
theorem gF0 {g g':Guest}{w w':World}{N N':Nat→Prop} (hk:∀ b,g.G b→g'.G b∧w'.heap[b]? = w.heap[b]?):∀ {l:List Value}{ds:List D},All2 (@RepD g w N) l ds→(∀ d∈ds,Cd d)→All2 (@RepD g' w' N') l ds
 | _,_,.nil,_=> .nil
 | _,_,.cons h t,hp=> .cons (RepD.keepC h hk (hp _ List.mem_cons_self)) (gF0 hk t fun d hd=>hp d (List.mem_cons_of_mem _ hd))
theorem recol {g g':Guest}{w:World}{N N':Nat→Prop}{l:List Value}{ds:List D} (h:All2 (@RepD g w N) l ds)(hp:∀ d∈ds,Pd d)(hg:∀ b,N b→g'.G b):All2 (@RepD g' w N') l (ds.map recD):=
 dW1 (P:=Pd) (fun a b h hb=> @RepD.given w N N' noGuest g' _ _ (@RepD.swap w w N N g noGuest _ _ h (fun b hb=>⟨hb,rfl⟩) hb) (fun b hb=>hb.elim) hg) h hp
theorem oB1 {g g':Guest}{w:World}{N N':Nat→Prop}{β:Int→Nat}{sh sh':Nat→Option Sh}{l:List Value}{x:Tm} (h:All2 (@RK g w N β sh) l (tmC x))(hp:PdT x)(hg:∀ b,N b→g'.G b):All2 (@RK g' w N' β sh') l (tmC (gT x)):=by
 rw[jF1]at h ⊢
 rw[← nH0]
 exact pR0 (recol (mO0 h) hp.cells hg)
theorem lev_re {g g':Guest}{w:World}{N N':Nat→Prop}{β:Int→Nat}{sh sh':Nat→Option Sh}{l:List Value}{x:Lev} (h:All2 (@RK g w N β sh) l (levC x))(hp:PdL x)(hg:∀ b,N b→g'.G b):All2 (@RK g' w N' β sh') l (levC (gL x)):=by
 rw[rD0]at h ⊢
 rw[← nG0]
 exact pR0 (recol (mO0 h) hp.cells hg)
theorem aG1 {g g':Guest}{w w':World}{N N':Nat→Prop}{β β':Int→Nat}{sh sh':Nat→Option Sh}{l:List Value}{x:Lev} (h:All2 (@RK g w N β sh) l (levC x))(hp:PdL x)(hk:∀ b,N b→N' b∧w'.heap[b]? = w.heap[b]?):All2 (@RK g' w' N' β' sh') l (levC x):=by
 rw[rD0]at h ⊢
 exact pR0 (bE1 hk (mO0 h) hp.cells)
theorem jX0 {g g':Guest}{w w':World}{N N':Nat→Prop}{β β':Int→Nat}{sh sh':Nat→Option Sh}:∀ {l xs:List Value},All2 (@RK g w N β sh) l (rawC xs)→l=xs∧All2 (@RK g' w' N' β' sh') l (rawC xs)
 | [],[],_=>⟨rfl,.nil⟩
 | [],_::_,h=>by cases h
 | _::_,[],h=>by cases h
 | y::l,x::xs,h=>by
  cases h with
  | cons h1 h2=>
   obtain⟨rfl,h3⟩:=jX0 (g':=g') (w':=w') (N':=N') (β':=β') (sh':=sh') (xs:=xs) h2
   have h4 : @RepD g w N y (.v x):=h1.2
   cases h4 with
   | v hc=>exact⟨rfl,.cons ⟨hc,@RepD.v g' _ _ _ hc⟩ h3⟩
theorem zG0 {g g':Guest}{w w':World}{N N':Nat→Prop}{β:Int→Nat}{sh sh':Nat→Option Sh}{b z k:Nat}{els:List (List D)} (h : @RO g w N β sh b z (.arr k els))(hp:∀ l∈els,∀ d∈l,Pd d)(hb:w'.heap[b]? = w.heap[b]?)(hk:∀ b,N b→N' b∧w'.heap[b]? = w.heap[b]?) : @RO g' w' N' β sh' b z (.arr k els):=by
 obtain⟨vals,ty,h1,h2,h3,h4,h5⟩:=h
 refine⟨vals,ty,hb.trans h1,h2,h3,h4,fun i l j x e1 e2=> ?_⟩
 obtain⟨v,q1,q2⟩:=h5 i l j x e1 e2
 exact⟨v,q1,RepD.swap q2 hk (hp l (List.mem_of_getElem? e1) x (List.mem_of_getElem? e2))⟩
theorem nK0 {g:Guest}{w:World}{N M:Nat→Prop}{β:Int→Nat}{sh:Nat→Option Sh}{l:List Value}{x:Tm} (h:All2 (@RK g w N β sh) l (tmC (gT x)))(hM:∀ b,g.G b→M b∧Soft w b)(hs:x.sz<2^50) :
  ∃ x0 x1 x2 x3 x4,l=[x0,x1,x2,x3,x4]∧isInt x0∧isInt x1∧isStr x2∧Sl M w 2 (isLev M w) x3∧isTm M w x.sz 4 x4:=by
 rw[jF1,aX0]at h
 have h':=mO0 h
 cases h' with | cons r0 h'=>
 cases h' with | cons r1 h'=>
 cases h' with | cons r2 h'=>
 cases h' with | cons r3 h'=>
 cases h' with | cons r4 h'=>
 cases h'
 exact⟨_,_,_,_,_,rfl,jA0 r0,jA0 r1,iM1 r2,sl_u hM r3 hs,sl_l hM x.sz (Nat.le_refl _) hs r4⟩
theorem hD1 {g:Guest}{w:World}{N M:Nat→Prop}{β:Int→Nat}{sh:Nat→Option Sh}{l:List Value}{x:Lev} (h:All2 (@RK g w N β sh) l (levC (gL x)))(hM:∀ b,g.G b→M b∧Soft w b)(hs:x.vs.length<2^50) :
  ∃ x0 x1,l=[x0,x1]∧isInt x0∧Sl M w 2 isLV x1:=by
 rw[rD0]at h
 have h':=mO0 h
 cases h' with | cons r0 h'=>
 cases h' with | cons r1 h'=>
 cases h'
 exact⟨_,_,rfl,jA0 r0,sl_lv hM r1 hs⟩
theorem isTm.cellB {M:Nat→Prop}{w:World}{K:Nat}{x:Value} (h:isTm M w K 4 x):cellB x=true:=by
 obtain⟨K',_,h⟩:=isTm4 h
 exact h.cellB
theorem sG0 {M:Nat→Prop}{w w':World}{K:Nat}{x0 x1 x2 x3 x4:Value} (h0:isInt x0)(h1:isInt x1)(h2:isStr x2)(h3:Sl M w 2 (isLev M w) x3)(h4:isTm M w K 4 x4)(hs:Sp M w w')(hM:∀ b,M b→b<w.heap.size)(hL:¬ M dI0)(hl:w'.cell? ⟨dI0,0,none⟩=some lZ0) :
  Calls prog 50 #[.agg [x0,x1,x2,x3,x4].toArray] w' fun e w''=>(∃ v,e = .returned v)∧Sp M w' w'':=
 iZ1 K w' M (fun b hb=>Nat.lt_of_lt_of_le (hM b hb) hs.size) hL hl x0 x1 x2 x3 x4 h0 h1 h2 (Sl.mono (R:=isLev M w) (R':=isLev M w') hs (fun _ _ _ a b=>isLev.mono hs a b) h3) (isTm.mono hs K 4 x4 x4 h4 (Like.refl _))
theorem nW1 {M:Nat→Prop}{w w':World}{x0 x1:Value} (h0:isInt x0)(h1:Sl M w 2 isLV x1)(hs:Sp M w w')(hM:∀ b,M b→b<w.heap.size)(hL:¬ M dI0)(hl:w'.cell? ⟨dI0,0,none⟩=some lZ0) :
  Calls prog 51 #[.agg [x0,x1].toArray] w' fun e w''=>(∃ v,e = .returned v)∧Sp M w' w'':=
 jA1 (fun b hb=>Nat.lt_of_lt_of_le (hM b hb) hs.size) hL hl (by obtain⟨z,rfl⟩:=h0;rfl) (Sl.mono hs (fun _ _ _ a b=>isInt.like a b) h1)
def opsOf : Code→Array Oper
 | .region _ ops _=>ops
 | _=> #[]
noncomputable def O10 (p:List Nat):Array Oper:=opsOf (Q10 p)
theorem s10 : Q10 [1,1,1,1,1,1,1,1,1] = .seq (.region 10 (O10 [1,1,1,1,1,1,1,1,1,0]) false) (Q10 [1,1,1,1,1,1,1,1,1,1]):=by kernel_rfl
theorem s11 : Q10 [1,1,1,1,1,1,1,1,1,1] = .seq (.region 11 (O10 [1,1,1,1,1,1,1,1,1,1,0]) false) (Q10 [1,1,1,1,1,1,1,1,1,1,1]):=by kernel_rfl
theorem s12 : Q10 [1,1,1,1,1,1,1,1,1,1,1] = .seq (.region 12 (O10 [1,1,1,1,1,1,1,1,1,1,1,0]) false) (Q10 [1,1,1,1,1,1,1,1,1,1,1,1]):=by kernel_rfl
theorem s13 : Q10 [1,1,1,1,1,1,1,1,1,1,1,1] = .seq (.region 13 (O10 [1,1,1,1,1,1,1,1,1,1,1,1,0]) false) (Q10 [1,1,1,1,1,1,1,1,1,1,1,1,1]):=by kernel_rfl
theorem s14 : Q10 [1,1,1,1,1,1,1,1,1,1,1,1,1] = .seq (.region 14 (O10 [1,1,1,1,1,1,1,1,1,1,1,1,1,0]) false) (Q10 [1,1,1,1,1,1,1,1,1,1,1,1,1,1]):=by kernel_rfl
def W2 (s d0 d1 T f:Nat):List (Option Nat × Op × Option (Nat × Bool)):=[(some d0,.load T (.tmp s),none),(some d1,.call { callee:= .value (.func f),args:= #[.tmp d0],argTypes:= #[T] },none)]
theorem o10 : (O10 [1,1,1,1,1,1,1,1,1,0]).toList.map (fun o=>(o.dst,o.op,o.guard))=W2 5 86 87 33 50:=by kernel_rfl
theorem o11 : (O10 [1,1,1,1,1,1,1,1,1,1,0]).toList.map (fun o=>(o.dst,o.op,o.guard))=W2 7 88 89 33 50:=by kernel_rfl
theorem o12 : (O10 [1,1,1,1,1,1,1,1,1,1,1,0]).toList.map (fun o=>(o.dst,o.op,o.guard))=W2 10 90 91 33 50:=by kernel_rfl
theorem o13 : (O10 [1,1,1,1,1,1,1,1,1,1,1,1,0]).toList.map (fun o=>(o.dst,o.op,o.guard))=W2 12 92 93 33 50:=by kernel_rfl
theorem o14 : (O10 [1,1,1,1,1,1,1,1,1,1,1,1,1,0]).toList.map (fun o=>(o.dst,o.op,o.guard))=W2 14 94 95 36 51:=by kernel_rfl
theorem lQ1 (x0 x1 x2 x3 x4:Value):cutC prog 33 (rawC [x0,x1,x2,x3,x4]) 0=some (.agg (rawC [x0,x1,x2,x3,x4])):=by
 simp only[rawC,List.map_cons,List.map_nil,cutC,zT33];rfl
theorem cut36 (x0 x1:Value):cutC prog 36 (rawC [x0,x1]) 0=some (.agg (rawC [x0,x1])):=by
 simp only[rawC,List.map_cons,List.map_nil,cutC,zT36];rfl
end
section
open Go
@[reducible] def gOld (w0:World):Guest:=⟨fun b=>b<w0.heap.size⟩
@[reducible] def gNew (w0 w1:World)(β:Int→Nat)(look:Look):Guest:=⟨fun b=>w0.heap.size≤b∧Soft w1 b∧¬ Live β look b⟩
@[reducible] def FB (w1:World)(β:Int→Nat)(look:Look):Nat→Prop:=fun z=>z<w1.heap.size∧¬ Live β look z
def locA (x:Tb)(q:Ask)(a b c d:Tm)(l:Lev):List O:=[.box (tbC x),.box (askC q),.box (tmC a),.box (tmC b),.box (tmC c),.box (tmC d),.box (levC l)]
def uH1 (v0 v1:List Value)(a b c d:Tm)(l:Lev):List O:=[.box (rawC v0),.box (rawC v1),.box (tmC a),.box (tmC b),.box (tmC c),.box (tmC d),.box (levC l)]
def locB (v0 v1:List Value)(a b c d:Tm)(l:Lev)(els:List (List D))(l':Lev):List O:=[.box (rawC v0),.box (rawC v1),.box (tmC a),.box (tmC b),.box (tmC c),.box (tmC d),.box (levC l),.hole,.hole,.hole,.hole,.hole,.hole,.hole,.hole,.arr 5 els,.hole,.box (levC l')]
def locC (v0 v1 v2 v3 v4 v5 v6:List Value)(els:List (List D))(l':Lev):List O:=[.box (rawC v0),.box (rawC v1),.box (rawC v2),.box (rawC v3),.box (rawC v4),.box (rawC v5),.box (rawC v6),.hole,.hole,.hole,.hole,.hole,.hole,.hole,.hole,.arr 5 els,.hole,.box (levC l')]
def locD (x:Tb)(q:Ask)(v2 v3 v4 v5 v6:List Value)(els:List (List D))(l':Lev):List O:=[.box (tbC x),.box (askC q),.box (rawC v2),.box (rawC v3),.box (rawC v4),.box (rawC v5),.box (rawC v6),.hole,.hole,.hole,.hole,.hole,.hole,.hole,.hole,.arr 5 els,.hole,.box (levC l')]
theorem toB {w0 w1:World}{β:Int→Nat}{x:Tb}{q:Ask}{a b c d:Tm}{l:Lev}{tmps:Array Value} (hS : @Sim (gOld w0) w1 (fun b=>b<w0.heap.size) β (lk (locA x q a b c d l)))(hE : @EnvR (gOld w0) w1 (fun b=>b<w0.heap.size) β (lk (locA x q a b c d l)) tmps envA)
  (pa:PdT a) (pb:PdT b) (pc:PdT c) (pd:PdT d) (pl:PdL l) :
  ∃ v0 v1:List Value,∃ N:Nat→Prop,All2 (@RepD (gOld w0) w1 N) v0 [x.d]∧All2 (@RepD (gOld w0) w1 N) v1 (askD q) ∧
   @Sim (gNew w0 w1 β (lk (locA x q a b c d l))) w1 (FB w1 β (lk (locA x q a b c d l))) β (lk (uH1 v0 v1 (gT a) (gT b) (gT c) (gT d) (gL l))) ∧
   @EnvR (gNew w0 w1 β (lk (locA x q a b c d l))) w1 (FB w1 β (lk (locA x q a b c d l))) β (lk (uH1 v0 v1 (gT a) (gT b) (gT c) (gT d) (gL l))) tmps envA:=by
 obtain⟨v0,t0,h0,m0⟩:= @dB0 (gOld w0) _ _ _ _ hS 0 (tbC x) rfl
 obtain⟨v1,t1,h1,m1⟩:= @dB0 (gOld w0) _ _ _ _ hS 1 (askC q) rfl
 obtain⟨v2,t2,h2,m2⟩:= @dB0 (gOld w0) _ _ _ _ hS 2 (tmC a) rfl
 obtain⟨v3,t3,h3,m3⟩:= @dB0 (gOld w0) _ _ _ _ hS 3 (tmC b) rfl
 obtain⟨v4,t4,h4,m4⟩:= @dB0 (gOld w0) _ _ _ _ hS 4 (tmC c) rfl
 obtain⟨v5,t5,h5,m5⟩:= @dB0 (gOld w0) _ _ _ _ hS 5 (tmC d) rfl
 obtain⟨v6,t6,h6,m6⟩:= @dB0 (gOld w0) _ _ _ _ hS 6 (levC l) rfl
 have hg:∀ z,Nn w1 (fun z=>z<w0.heap.size) β (lk (locA x q a b c d l)) z→(gNew w0 w1 β (lk (locA x q a b c d l))).G z:=fun z h=>⟨Nat.le_of_not_lt h.2.1,h.1,h.2.2⟩
 have r0:=m0
 have r1:=m1
 rw[sJ0]at r0
 rw[mZ0]at r1
 refine⟨v0.toList,v1.toList,_,mO0 r0,mO0 r1,?_,gK1 hE (by rfl) (by rfl)⟩
 refine Sim.re hS (fun b h=>h.1) (fun b h k=>k.2 h) (fun b h=>⟨h.2.1.1,h.2.2⟩) fun id o' e1 e2=> ?_
 match id,mP1 e1 with
 | 0,h=>cases h;exact⟨rfl,_,rfl,rfl,v0,t0,h0,mP0 (kI0 m0)⟩
 | 1,h=>cases h;exact⟨rfl,_,rfl,rfl,v1,t1,h1,mP0 (kI0 m1)⟩
 | 2,h=>cases h;exact⟨rfl,_,rfl,rfl,v2,t2,h2,oB1 m2 pa hg⟩
 | 3,h=>cases h;exact⟨rfl,_,rfl,rfl,v3,t3,h3,oB1 m3 pb hg⟩
 | 4,h=>cases h;exact⟨rfl,_,rfl,rfl,v4,t4,h4,oB1 m4 pc hg⟩
 | 5,h=>cases h;exact⟨rfl,_,rfl,rfl,v5,t5,h5,oB1 m5 pd hg⟩
 | 6,h=>cases h;exact⟨rfl,_,rfl,rfl,v6,t6,h6,lev_re m6 pl hg⟩
 | n+7,h=>cases h
theorem toC {w0 w1 w2:World}{β1 β:Int→Nat}{look1:Look}{v0 v1:List Value}{a b c d:Tm}{l l':Lev}{els:List (List D)}{tmps:Array Value}
  (hS : @Sim (gNew w0 w1 β1 look1) w2 (FB w1 β1 look1) β (lk (locB v0 v1 (gT a) (gT b) (gT c) (gT d) (gL l) els l'))) (hE : @EnvR (gNew w0 w1 β1 look1) w2 (FB w1 β1 look1) β (lk (locB v0 v1 (gT a) (gT b) (gT c) (gT d) (gL l) els l')) tmps envB)
  (hsz:w1.heap.size≤w2.heap.size) (hkg:∀ z,(gNew w0 w1 β1 look1).G z→w2.heap[z]? = w1.heap[z]?) (pe:∀ m∈els,∀ y∈m,Pd y) (pl:PdL l') (za:a.sz<2^50) (zb:b.sz<2^50) (zc:c.sz<2^50) (zd:d.sz<2^50) (zl:l.vs.length<2^50) :
  ∃ a0 a1 a2 a3 a4 b0 b1 b2 b3 b4 c0 c1 c2 c3 c4 d0 d1 d2 d3 d4 l0 l1,
   (isInt a0∧isInt a1∧isStr a2∧Sl (gNew w0 w1 β1 look1).G w2 2 (isLev (gNew w0 w1 β1 look1).G w2) a3∧isTm (gNew w0 w1 β1 look1).G w2 a.sz 4 a4) ∧
   (isInt b0∧isInt b1∧isStr b2∧Sl (gNew w0 w1 β1 look1).G w2 2 (isLev (gNew w0 w1 β1 look1).G w2) b3∧isTm (gNew w0 w1 β1 look1).G w2 b.sz 4 b4) ∧
   (isInt c0∧isInt c1∧isStr c2∧Sl (gNew w0 w1 β1 look1).G w2 2 (isLev (gNew w0 w1 β1 look1).G w2) c3∧isTm (gNew w0 w1 β1 look1).G w2 c.sz 4 c4) ∧
   (isInt d0∧isInt d1∧isStr d2∧Sl (gNew w0 w1 β1 look1).G w2 2 (isLev (gNew w0 w1 β1 look1).G w2) d3∧isTm (gNew w0 w1 β1 look1).G w2 d.sz 4 d4) ∧
   (isInt l0∧Sl (gNew w0 w1 β1 look1).G w2 2 isLV l1) ∧
   Sim w2 (FB w1 β1 look1) β (lk (locC v0 v1 [a0,a1,a2,a3,a4] [b0,b1,b2,b3,b4] [c0,c1,c2,c3,c4] [d0,d1,d2,d3,d4] [l0,l1] els l')) ∧
   EnvR w2 (FB w1 β1 look1) β (lk (locC v0 v1 [a0,a1,a2,a3,a4] [b0,b1,b2,b3,b4] [c0,c1,c2,c3,c4] [d0,d1,d2,d3,d4] [l0,l1] els l')) tmps envB:=by
 have hM:∀ z,(gNew w0 w1 β1 look1).G z→(gNew w0 w1 β1 look1).G z∧Soft w2 z:=fun z h=>⟨h,h.2.1.same (Nat.lt_of_lt_of_le h.2.1.1 hsz) (hkg z h)⟩
 obtain⟨u0,t0,h0,m0⟩:= @dB0 (gNew w0 w1 β1 look1) _ _ _ _ hS 0 (rawC v0) rfl
 obtain⟨u1,t1,h1,m1⟩:= @dB0 (gNew w0 w1 β1 look1) _ _ _ _ hS 1 (rawC v1) rfl
 obtain⟨u2,t2,h2,m2⟩:= @dB0 (gNew w0 w1 β1 look1) _ _ _ _ hS 2 (tmC (gT a)) rfl
 obtain⟨u3,t3,h3,m3⟩:= @dB0 (gNew w0 w1 β1 look1) _ _ _ _ hS 3 (tmC (gT b)) rfl
 obtain⟨u4,t4,h4,m4⟩:= @dB0 (gNew w0 w1 β1 look1) _ _ _ _ hS 4 (tmC (gT c)) rfl
 obtain⟨u5,t5,h5,m5⟩:= @dB0 (gNew w0 w1 β1 look1) _ _ _ _ hS 5 (tmC (gT d)) rfl
 obtain⟨u6,t6,h6,m6⟩:= @dB0 (gNew w0 w1 β1 look1) _ _ _ _ hS 6 (levC (gL l)) rfl
 obtain⟨_,_,h15⟩:= @Sim.live (gNew w0 w1 β1 look1) _ _ _ _ hS 15 (.arr 5 els) rfl rfl
 obtain⟨u17,t17,h17,m17⟩:= @dB0 (gNew w0 w1 β1 look1) _ _ _ _ hS 17 (levC l') rfl
 obtain⟨a0,a1,a2,a3,a4,ea,pa⟩:=nK0 m2 hM za
 obtain⟨b0,b1,b2,b3,b4,eb,pb⟩:=nK0 m3 hM zb
 obtain⟨c0,c1,c2,c3,c4,ec,pc⟩:=nK0 m4 hM zc
 obtain⟨d0,d1,d2,d3,d4,ed,pd⟩:=nK0 m5 hM zd
 obtain⟨l0,l1,el,pl'⟩:=hD1 m6 hM zl
 refine⟨a0,a1,a2,a3,a4,b0,b1,b2,b3,b4,c0,c1,c2,c3,c4,d0,d1,d2,d3,d4,l0,l1,pa,pb,pc,pd,pl',?_,gK1 hE (by rfl) (by rfl)⟩
 have hk:∀ z,Nn w2 (FB w1 β1 look1) β (lk (locB v0 v1 (gT a) (gT b) (gT c) (gT d) (gL l) els l')) z→Nn w2 (FB w1 β1 look1) β (lk (locC v0 v1 [a0,a1,a2,a3,a4] [b0,b1,b2,b3,b4] [c0,c1,c2,c3,c4] [d0,d1,d2,d3,d4] [l0,l1] els l')) z∧w2.heap[z]? = w2.heap[z]? := fun z h=>⟨hQ1 (by rfl) h,rfl⟩
 refine Sim.re hS (fun z h=>Nat.lt_of_lt_of_le h.1 hsz) (fun z h k=> ?_) (fun z h=>h.elim) fun id o' e1 e2=> ?_
 ·obtain⟨id,o,q1,q2,q3⟩:=h
  exact(@Sim.live (gNew w0 w1 β1 look1) _ _ _ _ hS id o q1 q2).2.1 (q3 ▸ k)
 ·match id,mP1 e1 with
  | 0,h=>cases h;exact⟨rfl,_,rfl,rfl,u0,t0,h0,(jX0 m0).2⟩
  | 1,h=>cases h;exact⟨rfl,_,rfl,rfl,u1,t1,h1,(jX0 m1).2⟩
  | 2,h=>cases h;exact⟨rfl,_,rfl,rfl,u2,t2,h2,by rw[← ea];exact mP0 (kI0 m2)⟩
  | 3,h=>cases h;exact⟨rfl,_,rfl,rfl,u3,t3,h3,by rw[← eb];exact mP0 (kI0 m3)⟩
  | 4,h=>cases h;exact⟨rfl,_,rfl,rfl,u4,t4,h4,by rw[← ec];exact mP0 (kI0 m4)⟩
  | 5,h=>cases h;exact⟨rfl,_,rfl,rfl,u5,t5,h5,by rw[← ed];exact mP0 (kI0 m5)⟩
  | 6,h=>cases h;exact⟨rfl,_,rfl,rfl,u6,t6,h6,by rw[← el];exact mP0 (kI0 m6)⟩
  | 7,h=>cases h;cases e2
  | 8,h=>cases h;cases e2
  | 9,h=>cases h;cases e2
  | 10,h=>cases h;cases e2
  | 11,h=>cases h;cases e2
  | 12,h=>cases h;cases e2
  | 13,h=>cases h;cases e2
  | 14,h=>cases h;cases e2
  | 15,h=>cases h;exact⟨rfl,_,rfl,rfl,zG0 h15 pe rfl hk⟩
  | 16,h=>cases h;cases e2
  | 17,h=>cases h;exact⟨rfl,_,rfl,rfl,u17,t17,h17,aG1 m17 pl hk⟩
  | n+18,h=>cases h
end
section
open Go
theorem isInt.cellB {x:Value} (h:isInt x):Am.cellB x=true:=by obtain⟨z,rfl⟩:=h;rfl
theorem isStr.cellB {x:Value} (h:isStr x):Am.cellB x=true:=by obtain⟨z,rfl⟩:=h;rfl
theorem lH1 {x0 x1 x2 x3 x4:Value}{M:Nat→Prop}{w:World}{K:Nat} (h0:isInt x0)(h1:isInt x1)(h2:isStr x2)(h3:Sl M w 2 (isLev M w) x3)(h4:isTm M w K 4 x4):∀ y∈[x0,x1,x2,x3,x4],Am.cellB y=true:=by
 intro y hy
 simp only[List.mem_cons,List.not_mem_nil,or_false]at hy
 rcases hy with rfl | rfl | rfl | rfl | rfl
 ·exact h0.cellB
 ·exact h1.cellB
 ·exact h2.cellB
 ·exact h3.cellB
 ·exact h4.cellB
theorem cell2 {x0 x1:Value}{M:Nat→Prop}{w:World} (h0:isInt x0)(h1:Sl M w 2 isLV x1):∀ y∈[x0,x1],Am.cellB y=true:=by
 intro y hy
 simp only[List.mem_cons,List.not_mem_nil,or_false]at hy
 rcases hy with rfl | rfl
 ·exact h0.cellB
 ·exact h1.cellB
theorem walkC {Post:FinK→Act→World→Prop}{M F:Nat→Prop}{β:Int→Nat}{a0:Act}{w:World}{v0 v1:List Value}{els:List (List D)}{l':Lev}{K1 K2 K3 K4:Nat}{p0 p1 p2 p3 p4 q0 q1 q2 q3 q4 r0 r1 r2 r3 r4 t0 t1 t2 t3 t4 l0 l1:Value}
  (pa:isInt p0∧isInt p1∧isStr p2∧Sl M w 2 (isLev M w) p3∧isTm M w K1 4 p4) (pb:isInt q0∧isInt q1∧isStr q2∧Sl M w 2 (isLev M w) q3∧isTm M w K2 4 q4)
  (pc:isInt r0∧isInt r1∧isStr r2∧Sl M w 2 (isLev M w) r3∧isTm M w K3 4 r4) (pd:isInt t0∧isInt t1∧isStr t2∧Sl M w 2 (isLev M w) t3∧isTm M w K4 4 t4) (pl:isInt l0∧Sl M w 2 isLV l1)
  (hM:∀ z,M z→z<w.heap.size) (hMF:∀ z,M z→F z) (hL:¬ M dI0)
  (hn:a0.tmps.size=161) (hd:a0.defers=[]) (hS:Sim w F β (lk (locC v0 v1 [p0,p1,p2,p3,p4] [q0,q1,q2,q3,q4] [r0,r1,r2,r3,r4] [t0,t1,t2,t3,t4] [l0,l1] els l')))
  (hE:EnvR w F β (lk (locC v0 v1 [p0,p1,p2,p3,p4] [q0,q1,q2,q3,q4] [r0,r1,r2,r3,r4] [t0,t1,t2,t3,t4] [l0,l1] els l')) a0.tmps envB){k:List Item}
  (hq:∀ a' w',Sim w' F β (lk (locC v0 v1 [p0,p1,p2,p3,p4] [q0,q1,q2,q3,q4] [r0,r1,r2,r3,r4] [t0,t1,t2,t3,t4] [l0,l1] els l'))→EnvR w' F β (lk (locC v0 v1 [p0,p1,p2,p3,p4] [q0,q1,q2,q3,q4] [r0,r1,r2,r3,r4] [t0,t1,t2,t3,t4] [l0,l1] els l')) a'.tmps envB→Sp M w w'→a'.tmps.size=161→a'.defers=[] →
   Reach prog (.code (Q10 [1,1,1,1,1,1,1,1,1,1,1,1,1,1])::k) a' w' Post):Reach prog (.code (Q10 [1,1,1,1,1,1,1,1,1])::k) a0 w Post:=by
 obtain⟨a1,a2,a3,a4,a5⟩:=pa
 obtain⟨b1,b2,b3,b4,b5⟩:=pb
 obtain⟨c1,c2,c3,c4,c5⟩:=pc
 obtain⟨d1,d2,d3,d4,d5⟩:=pd
 obtain⟨f1,f2⟩:=pl
 have sp0:=Sp.refl M w
 refine cH0 s10 (pB0 o10 (id:=2) hS hE hn (by decide) (by decide) rfl rfl rfl rfl (lH1 a1 a2 a3 a4 a5) (lQ1 _ _ _ _ _) hMF hL kQ0 (sG0 a1 a2 a3 a4 a5 sp0 hM hL hS.laid.1) fun a' w1 hS hE sp hn' hd'=> ?_)
 have hd:=hd'.trans hd
 have sp0:=sp0.trans sp
 refine cH0 s11 (pB0 o11 (id:=3) hS hE hn' (by decide) (by decide) rfl rfl rfl rfl (lH1 b1 b2 b3 b4 b5) (lQ1 _ _ _ _ _) hMF hL kQ0 (sG0 b1 b2 b3 b4 b5 sp0 hM hL hS.laid.1) fun a' w1 hS hE sp hn' hd'=> ?_)
 have hd:=hd'.trans hd
 have sp0:=sp0.trans sp
 refine cH0 s12 (pB0 o12 (id:=4) hS hE hn' (by decide) (by decide) rfl rfl rfl rfl (lH1 c1 c2 c3 c4 c5) (lQ1 _ _ _ _ _) hMF hL kQ0 (sG0 c1 c2 c3 c4 c5 sp0 hM hL hS.laid.1) fun a' w1 hS hE sp hn' hd'=> ?_)
 have hd:=hd'.trans hd
 have sp0:=sp0.trans sp
 refine cH0 s13 (pB0 o13 (id:=5) hS hE hn' (by decide) (by decide) rfl rfl rfl rfl (lH1 d1 d2 d3 d4 d5) (lQ1 _ _ _ _ _) hMF hL kQ0 (sG0 d1 d2 d3 d4 d5 sp0 hM hL hS.laid.1) fun a' w1 hS hE sp hn' hd'=> ?_)
 have hd:=hd'.trans hd
 have sp0:=sp0.trans sp
 refine cH0 s14 (pB0 o14 (id:=6) hS hE hn' (by decide) (by decide) rfl rfl rfl rfl (cell2 f1 f2) (cut36 _ _) hMF hL zN0 (nW1 f1 f2 sp0 hM hL hS.laid.1) fun a' w1 hS hE sp hn' hd'=> ?_)
 exact hq a' w1 hS hE (sp0.trans sp) hn' (hd'.trans hd)
theorem pY1 (q:Ask):∀ d∈askD (gA q),Cd d:=by
 intro d hd
 simp only[askD,List.mem_append,List.mem_cons,List.not_mem_nil,or_false]at hd
 rcases hd with((rfl | rfl | rfl) | hd) | hd
 ·exact .v _
 ·exact CdQ q
 ·exact .v _
 ·exact CdT q.a d hd
 ·exact CdT q.b d hd
theorem backD {w0 w1 w7:World}{β1 β:Int→Nat}{look1:Look}{v0 v1 v2 v3 v4 v5 v6:List Value}{x:Tb}{q:Ask}{els:List (List D)}{l':Lev}{tmps:Array Value}{N1:Nat→Prop}
  (hS:Sim w7 (FB w1 β1 look1) β (lk (locC v0 v1 v2 v3 v4 v5 v6 els l'))) (hE:EnvR w7 (FB w1 β1 look1) β (lk (locC v0 v1 v2 v3 v4 v5 v6 els l')) tmps envB)
  (hr0:All2 (@RepD (gOld w0) w1 N1) v0 [(gB x).d]) (hr1:All2 (@RepD (gOld w0) w1 N1) v1 (askD (gA q))) (hold:∀ z,z<w0.heap.size→w7.heap[z]? = w1.heap[z]?) (hF:∀ z,z<w0.heap.size→FB w1 β1 look1 z) (pe:∀ m∈els,∀ y∈m,Pd y) (pl:PdL l') :
  @Sim (gOld w0) w7 (FB w1 β1 look1) β (lk (locD (gB x) (gA q) v2 v3 v4 v5 v6 els l')) ∧ @EnvR (gOld w0) w7 (FB w1 β1 look1) β (lk (locD (gB x) (gA q) v2 v3 v4 v5 v6 els l')) tmps envB:=by
 obtain⟨u0,t0,h0,m0⟩:=dB0 hS (id:=0) (cs:=rawC v0) rfl
 obtain⟨u1,t1,h1,m1⟩:=dB0 hS (id:=1) (cs:=rawC v1) rfl
 obtain⟨u2,t2,h2,m2⟩:=dB0 hS (id:=2) (cs:=rawC v2) rfl
 obtain⟨u3,t3,h3,m3⟩:=dB0 hS (id:=3) (cs:=rawC v3) rfl
 obtain⟨u4,t4,h4,m4⟩:=dB0 hS (id:=4) (cs:=rawC v4) rfl
 obtain⟨u5,t5,h5,m5⟩:=dB0 hS (id:=5) (cs:=rawC v5) rfl
 obtain⟨u6,t6,h6,m6⟩:=dB0 hS (id:=6) (cs:=rawC v6) rfl
 obtain⟨_,_,h15⟩:=hS.live 15 (.arr 5 els) rfl rfl
 obtain⟨u17,t17,h17,m17⟩:=dB0 hS (id:=17) (cs:=levC l') rfl
 have hk:∀ z,Nn w7 (FB w1 β1 look1) β (lk (locC v0 v1 v2 v3 v4 v5 v6 els l')) z→Nn w7 (FB w1 β1 look1) β (lk (locD (gB x) (gA q) v2 v3 v4 v5 v6 els l')) z∧w7.heap[z]? = w7.heap[z]? := fun z h=>⟨hQ1 (by rfl) h,rfl⟩
 have hk2:∀ z,(gOld w0).G z→(gOld w0).G z∧w7.heap[z]? = w1.heap[z]? := fun z h=>⟨h,hold z h⟩
 refine⟨?_,gK1 hE (by rfl) (by rfl)⟩
 refine Sim.re hS hS.flt (fun z h k=> ?_) (fun z h=>hF z h) fun id o' e1 e2=> ?_
 ·obtain⟨id,o,q1,q2,q3⟩:=h
  exact(hS.live id o q1 q2).2.1 (q3 ▸ k)
 ·match id,mP1 e1 with
  | 0,h=>
   cases h
   refine⟨rfl,_,rfl,rfl,u0,t0,h0,?_⟩
   rw[(jX0 (g':=noGuest) (w':=w7) (N':=N1) (β':=β) (sh':=shL (lk [])) m0).1,sJ0]
   exact pR0 (gF0 hk2 hr0 fun d hd=>by rw[List.mem_singleton.1 hd];exact CdB x)
  | 1,h=>
   cases h
   refine⟨rfl,_,rfl,rfl,u1,t1,h1,?_⟩
   rw[(jX0 (g':=noGuest) (w':=w7) (N':=N1) (β':=β) (sh':=shL (lk [])) m1).1,mZ0]
   exact pR0 (gF0 hk2 hr1 (pY1 q))
  | 2,h=>cases h;exact⟨rfl,_,rfl,rfl,u2,t2,h2,(jX0 m2).2⟩
  | 3,h=>cases h;exact⟨rfl,_,rfl,rfl,u3,t3,h3,(jX0 m3).2⟩
  | 4,h=>cases h;exact⟨rfl,_,rfl,rfl,u4,t4,h4,(jX0 m4).2⟩
  | 5,h=>cases h;exact⟨rfl,_,rfl,rfl,u5,t5,h5,(jX0 m5).2⟩
  | 6,h=>cases h;exact⟨rfl,_,rfl,rfl,u6,t6,h6,(jX0 m6).2⟩
  | 7,h=>cases h;cases e2
  | 8,h=>cases h;cases e2
  | 9,h=>cases h;cases e2
  | 10,h=>cases h;cases e2
  | 11,h=>cases h;cases e2
  | 12,h=>cases h;cases e2
  | 13,h=>cases h;cases e2
  | 14,h=>cases h;cases e2
  | 15,h=>cases h;exact⟨rfl,_,rfl,rfl,zG0 h15 pe rfl hk⟩
  | 16,h=>cases h;cases e2
  | 17,h=>cases h;exact⟨rfl,_,rfl,rfl,u17,t17,h17,aG1 m17 pl hk⟩
  | n+18,h=>cases h
end
section
open Go
def jU1 (w0 w':World):Prop:=(∀ z,z<w0.heap.size→w'.heap[z]? = w0.heap[z]?)∧w'.os=w0.os∧w'.output=w0.output
def Post10 (w0:World):FinK→Act→World→Prop:=fun fk a' w'=>a'.defers=[]∧match fk with
 | .ret=>∃ v,(results f10 a'.tmps).run prog w' = .ok v w'∧Ending.returned v = .returned (.bool true)∧jU1 w0 w'
 | .pan ch=>Ending.panicked ch = .returned (.bool true)∧jU1 w0 w'
theorem uD1 {w:World} (h:w.cell? ⟨dI0,0,none⟩=some lZ0):dI0<w.heap.size:=by
 rcases Nat.lt_or_ge dI0 w.heap.size with h' | h'
 ·exact h'
 ·simp[World.cell?,Array.getElem?_eq_none h']at h
theorem iT1 {w:World} (hl:w.cell? ⟨dI0,0,none⟩=some lZ0) : @Sim (gOld w) w (fun b=>b<w.heap.size) (fun _=>0) (lk []):=
 @Sim.mk (gOld w) _ _ _ _ (fun _ h=>h) (fun id o h=>(by cases h)) (fun id id' o o' h=>(by cases h)) ⟨hl,by rintro⟨id,o,h1,_⟩;cases h1⟩ fun b hb=>hb
theorem uE1 {w0:World}{cs cs':Array Value}{N:Nat→Prop} (x:Tb)(q:Ask)(hr:All2 (@RepD (gOld w0) w0 N) cs.toList [(gB x).d])(hr':All2 (@RepD (gOld w0) w0 N) cs'.toList (askD (gA q)))(hlaid:w0.cell? ⟨dI0,0,none⟩=some lZ0)
  (a b c d a' b' c' d':Tm) (l l':Lev) (e1 e2 e3 e4 e5:Int) (bb:Bool)
  (r13:run prog E2 (.call 13 [tbV (gB x)] [])=some (.ret [bV false] []))(r38:run prog E2 (.call 38 [askV (gA q)] [])=some (.ret [bV false] []))
  (r32:run prog E2 (.call 32 [tbV (gB x),sV (gA q).s,dV (gA q).d] [])=some (.ret [tmV a,iV e1] []))(r34:run prog E2 (.call 34 [tbV (gB x),sV (gA q).s,dV (gA q).d] [])=some (.ret [tmV b,bV bb,iV e2] []))(r39:run prog E2 (.call 39 [tbV (gB x),sV (gA q).s,dV (gA q).d] [])=some (.ret [tmV c,iV e3] []))
  (r46:run prog E2 (.call 46 [tbV (gB x),sV (gA q).s,dV (gA q).d,iV (gA q).n,tmV (gA q).a] [])=some (.ret [tmV d,iV e4] []))(r41:run prog E2 (.call 41 [tbV (gB x),sV (gA q).s,dV (gA q).d] [])=some (.ret [levV l,iV e5] []))
  (pa:PdT a) (pb:PdT b) (pc:PdT c) (pd:PdT d) (pl:PdL l) (za:a.sz<2^50) (zb:b.sz<2^50) (zc:c.sz<2^50) (zd:d.sz<2^50) (zl:l.vs.length<2^50)
  (ra:run prog E2 (.call 48 [tmV (gT a)] [])=some (.ret [tmV a'] []))(rb:run prog E2 (.call 48 [tmV (gT b)] [])=some (.ret [tmV b'] []))(rc:run prog E2 (.call 48 [tmV (gT c)] [])=some (.ret [tmV c'] []))(rd:run prog E2 (.call 48 [tmV (gT d)] [])=some (.ret [tmV d'] []))(rl:run prog E2 (.call 49 [levV (gL l)] [])=some (.ret [levV l'] []))
  (pa':PdT a') (pb':PdT b') (pc':PdT c') (pd':PdT d') (pl':PdL l')
  (r52:run prog E2 (.call 52 [dV (.s 5 [tmD a',tmD b',tmD c',tmD d']),dV (.s 5 [tmD a,tmD b,tmD c,tmD d])] [])=some (.ret [bV true] []))(r43:run prog E2 (.call 43 [levV l',levV l] [])=some (.ret [bV true] [])) :
  Calls prog 10 #[.agg cs,.agg cs'] w0 fun e W'=>e = .returned (.bool true)∧jU1 w0 W':=by
 refine eH0 (c:=B10) func10 (by kernel_rfl) ?_
 have pe:∀ m∈[tmD a',tmD b',tmD c',tmD d'],∀ y∈m,Pd y:=by
  intro m hm
  simp only[List.mem_cons,List.not_mem_nil,or_false]at hm
  rcases hm with rfl | rfl | rfl | rfl
  ·exact pa'.cells
  ·exact pb'.cells
  ·exact pc'.cells
  ·exact pd'.cells
 have hlt:=uD1 hlaid
 have hS:=iT1 hlaid
 have hargs:All2 (@RVs (gOld w0) w0 (fun b=>b<w0.heap.size) (fun _=>0) (lk [])) [.agg cs,.agg cs'] [tbV (gB x),askV (gA q)]:=by
  have k0:∀ z,(gOld w0).G z→(gOld w0).G z∧w0.heap[z]? = w0.heap[z]? := fun z h=>⟨h,rfl⟩
  refine .cons ⟨cs,rfl,?_⟩ (.cons ⟨cs',rfl,?_⟩ .nil)
  ·rw[sJ0];exact pR0 (gF0 k0 hr fun y hy=>by rw[List.mem_singleton.1 hy];exact CdB x)
  ·rw[mZ0];exact pR0 (gF0 k0 hr' (pY1 q))
 have hE:= @qZ0 (gOld w0) w0 (fun b=>b<w0.heap.size) (fun _=>0) [] [.agg cs,.agg cs'] [tbV (gB x),askV (gA q)] f10.ntmps hargs
 generalize ha:({ tmps:= #[.agg cs,.agg cs']++Array.replicate (f10.ntmps - (#[.agg cs,.agg cs']:Array Value).size) undef,defers:=[] }:Act)=a0
 have ht:a0.tmps = #[.agg cs,.agg cs']++Array.replicate (f10.ntmps - (#[.agg cs,.agg cs']:Array Value).size) undef:=by rw[← ha]
 have hd:a0.defers=[]:=by rw[← ha]
 have hsz:a0.tmps.size=161:=by rw[ht];simp[show f10.ntmps=161 by kernel_rfl]
 have hE' : @EnvR (gOld w0) w0 (fun b=>b<w0.heap.size) (fun _=>0) (lk []) a0.tmps [(0,tbV (gB x)),(1,askV (gA q))]:=by rw[ht];exact hE
 show Reach prog [.code B10] a0 w0 (Post10 w0)
 clear hE ha ht
 refine @walkA (gOld w0) _ _ a0 w0 _ _ (gB x) (gA q) a b c d l e1 e2 e3 e4 e5 bb r13 r38 r32 r34 r39 r46 r41 hsz hd hS hE' fun a1 w1 β1 hb1 hn1 hd1=> ?_
 obtain⟨hS1,hE1,st1,_,_⟩:=hb1
 obtain⟨v0,v1,N1,hv0,hv1,hS1',hE1'⟩:=toB (x:=gB x) (q:=gA q) hS1 hE1 pa pb pc pd pl
 generalize hlook:lk (locA (gB x) (gA q) a b c d l)=look1 at hS1' hE1'
 have hlive1:∀ z,Live β1 look1 z→w0.heap.size≤z:=by
  subst hlook
  rintro z ⟨id,o,q1,q2,rfl⟩
  exact Nat.le_of_not_lt (@Sim.live (gOld w0) _ _ _ _ hS1 id o q1 q2).2.1
 have hold1:∀ z,z<w0.heap.size→w1.heap[z]? = w0.heap[z]? := fun z hz=> @St.block (gOld w0) _ _ _ _ _ _ _ st1 z hz (by rintro⟨id,o,h1,_⟩;cases h1)
 have hsz1:w0.heap.size≤w1.heap.size:= @St.size (gOld w0) _ _ _ _ _ _ _ st1
 have hFB:∀ z,z<w0.heap.size→FB w1 β1 look1 z:=fun z hz=>⟨Nat.lt_of_lt_of_le hz hsz1,fun h=>by have:=hlive1 z h;omega⟩
 refine @walkB (gNew w0 w1 β1 look1) _ _ a1 w1 _ _ (.box (rawC v0)) (.box (rawC v1)) (gT a) (gT b) (gT c) (gT d) a' b' c' d' (gL l) l' ra rb rc rd rl hn1 hd1 hS1' hE1' fun a2 w2 β2 hb2 hn2 hd2=> ?_
 obtain⟨hS2,hE2,st2,_,_⟩:=hb2
 have hsz2:w1.heap.size≤w2.heap.size:= @St.size (gNew w0 w1 β1 look1) _ _ _ _ _ _ _ st2
 have hliveB:∀ z,Live β1 (lk (uH1 v0 v1 (gT a) (gT b) (gT c) (gT d) (gL l))) z→¬ FB w1 β1 look1 z:=by
  rintro z ⟨id,o,q1,q2,rfl⟩
  exact(@Sim.live (gNew w0 w1 β1 look1) _ _ _ _ hS1' id o q1 q2).2.1
 have hold2:∀ z,z<w0.heap.size→w2.heap[z]? = w1.heap[z]? := fun z hz=> @St.block (gNew w0 w1 β1 look1) _ _ _ _ _ _ _ st2 z (Nat.lt_of_lt_of_le hz hsz1) fun h=>hliveB z h (hFB z hz)
 obtain⟨a0',a1',a2',a3',a4',b0,b1,b2,b3,b4,c0,c1,c2,c3,c4,d0,d1,d2,d3,d4,l0,l1,qa,qb,qc,qd,ql,hS3,hE3⟩:=toC (els:=[tmD a',tmD b',tmD c',tmD d']) (l':=l') hS2 hE2 hsz2 (@St.guest (gNew w0 w1 β1 look1) _ _ _ _ _ _ _ st2) pe pl' za zb zc zd zl
 refine walkC qa qb qc qd ql (fun z h=>Nat.lt_of_lt_of_le h.2.1.1 hsz2) (fun z h=>⟨h.2.1.1,h.2.2⟩) (fun h=>by have:=h.1;omega) hn2 hd2 hS3 hE3 fun a3 w3 hS4 hE4 sp hn3 hd3=> ?_
 have hold3:∀ z,z<w0.heap.size→w3.heap[z]? = w2.heap[z]? := fun z hz=>sp.other z (Nat.lt_of_lt_of_le hz (Nat.le_trans hsz1 hsz2)) fun h=>by have:=h.1;omega
 obtain⟨hS5,hE5⟩:=backD hS4 hE4 hv0 hv1 (fun z hz=>(hold3 z hz).trans (hold2 z hz)) hFB pe pl'
 have hD:=pd15 E2 (gB x) (gA q) a b c d a' b' c' d' l l' e1 e2 e3 e4 e5 bb (.d (.v a0')) (.d (.v a1')) (.d (.v a2')) (.d (.v a3')) (.d (.v a4')) (.d (.v b0)) (.d (.v b1)) (.d (.v b2)) (.d (.v b3)) (.d (.v b4)) (.d (.v c0)) (.d (.v c1)) (.d (.v c2)) (.d (.v c3)) (.d (.v c4)) (.d (.v d0)) (.d (.v d1)) (.d (.v d2)) (.d (.v d3)) (.d (.v d4)) (.d (.v l0)) (.d (.v l1)) r32 r34 r39 r46 r41 r52 r43 oW1
 have hfin:= @walkD (gOld w0) _ _ a3 w3 envB (locD (gB x) (gA q) [a0',a1',a2',a3',a4'] [b0,b1,b2,b3,b4] [c0,c1,c2,c3,c4] [d0,d1,d2,d3,d4] [l0,l1] [tmD a',tmD b',tmD c',tmD d'] l') _ _ f10 _ hD (by kernel_rfl) hn3 hd3 hS5 hE5
 refine hfin.mono fun fk a4 w4 hp=> ?_
 cases fk with
 | pan ch=>
  obtain⟨_,x,os,β',h1,_⟩:=hp
  cases h1
 | ret=>
  obtain⟨h0,vs,os,v,β',h1,h2,h3,h4,st4⟩:=hp
  cases h1
  refine⟨h0,v,h2,?_,fun z hz=> ?_,?_,?_⟩
  ·rcases h3 with⟨y,hy,hv⟩ | ⟨hne,_⟩
   ·cases hy
    have hv' : @RepD (gOld w0) w4 _ v (.v (.bool true)):=hv
    cases hv'
    rfl
   ·exact absurd rfl hne
  ·refine(@St.block (gOld w0) _ _ _ _ _ _ _ st4 z (Nat.lt_of_lt_of_le hz (Nat.le_trans hsz1 (Nat.le_trans hsz2 sp.size))) fun h=> ?_).trans ((hold3 z hz).trans ((hold2 z hz).trans (hold1 z hz)))
   obtain⟨id,o,q1,q2,q3⟩:=h
   exact(@Sim.live (gOld w0) _ _ _ _ hS5 id o q1 q2).2.1 (q3 ▸ hFB z hz)
  ·exact(@St.os (gOld w0) _ _ _ _ _ _ _ st4).trans (sp.os.trans ((@St.os (gNew w0 w1 β1 look1) _ _ _ _ _ _ _ st2).trans (@St.os (gOld w0) _ _ _ _ _ _ _ st1)))
  ·exact(@St.output (gOld w0) _ _ _ _ _ _ _ st4).trans (sp.output.trans ((@St.output (gNew w0 w1 β1 look1) _ _ _ _ _ _ _ st2).trans (@St.output (gOld w0) _ _ _ _ _ _ _ st1)))
end
section
open Go
variable (ext:Ext)
theorem hN1 {α:Type}{l:List α}{p:α × Nat} (h:p∈l.zipIdx):p.1∈l:=by
 obtain⟨x,i⟩:=p
 exact(List.mem_zipIdx' h).2 ▸ List.getElem_mem _
theorem qM0 {α:Type} (f g:α→Nat)(K:Nat):∀ l:List α,(∀ x∈l,f x≤K*g x)→(l.map f).sum≤K*(l.map g).sum
 | [],_=>by simp
 | x::l,h=>by
  have:=qM0 f g K l fun y hy=>h y (List.mem_cons_of_mem _ hy)
  have:=h x List.mem_cons_self
  simp only[List.map_cons,List.sum_cons,Nat.mul_add];omega
theorem clL_sz (l:List Lev):((clL l).map Lev.sz).sum=(l.map Lev.sz).sum:=by
 unfold clL;rw[List.map_map];rfl
theorem mkT_sz {K N:Nat} (g:Tm→Int→Tm)(x:Tm)(D:Nat→Int)(hK:1≤K)(h:∀ y∈x.l,∀ i,(mapP g N y (D i)).sz≤K*y.sz):(mkT x (x.l.zipIdx.map fun p=>mapP g N p.1 (D p.2))).sz≤K*x.sz:=by
 have e:(mkT x (x.l.zipIdx.map fun p=>mapP g N p.1 (D p.2))).sz=1+((clL x.u).map Lev.sz).sum+((x.l.zipIdx.map fun p=>mapP g N p.1 (D p.2)).map Tm.sz).sum:=Tm.sz_eq _
 rw[clL_sz]at e
 rw[e,x.sz_eq,List.map_map]
 have h1:=qM0 (fun p:Tm × Nat=>(mapP g N p.1 (D p.2)).sz) (fun p=>p.1.sz) K x.l.zipIdx fun p hp=>h p.1 (hN1 hp) p.2
 have h2:x.l.zipIdx.map (fun p=>p.1.sz)=x.l.map Tm.sz:=by
  have:=List.zipIdx_map_fst 0 x.l
  conv=>rhs;rw[← this]
  rw[List.map_map];rfl
 rw[h2]at h1
 have h3:1+(x.u.map Lev.sz).sum≤K*(1+(x.u.map Lev.sz).sum):=Nat.le_mul_of_pos_left _ hK
 have h4:((x.l.zipIdx.map (Tm.sz ∘ fun p=>mapP g N p.1 (D p.2)))).sum=(x.l.zipIdx.map (fun p:Tm × Nat=>(mapP g N p.1 (D p.2)).sz)).sum:=rfl
 rw[h4,Nat.mul_add K]
 omega
theorem jP1 : zTm.sz=1:=by rw[Tm.sz_eq];rfl
theorem hK1 (g:Tm→Int→Tm)(K:Nat)(hK:1≤K)(hg:∀ x d,(g x d).sz≤max x.sz K):∀ (N:Nat)(x:Tm)(d:Int),(mapP g N x d).sz≤K*x.sz
 | 0,x,d=>by
  have:=x.sz_pos
  have:1*1≤K*x.sz:=Nat.mul_le_mul hK this
  rw[mapP,jP1];omega
 | N+1,x,d=>by
  have h:=mkT_sz (N:=N) g x (fun i=>wr (d+binds x.op x.l.length i)) hK fun y _ i=>hK1 g K hK hg N y _
  have hx:K*1≤K*x.sz:=Nat.mul_le_mul_left _ x.sz_pos
  rw[mapP]
  split
  ·have:=hg (mkT x (x.l.zipIdx.map fun p=>mapP g N p.1 (wr (d+binds x.op x.l.length p.2)))) d
   omega
  ·exact h
theorem re_sz (x:Tm)(n:Int):(Tm.mk x.op n x.s x.u x.zu x.l x.zl).sz=x.sz:=by rw[Tm.sz_eq,x.sz_eq];rfl
theorem upP_sz (A:Tm)(d:Int):(upP A d).sz≤A.sz:=by
 have:=hK1 (shC d) 1 (Nat.le_refl _) (fun x e=>by
  unfold shC
  split
  ·rw[re_sz];omega
  ·omega) A.sz A 0
 unfold upP;omega
theorem flP_sz (A x:Tm):(flP A x).sz≤A.sz*x.sz:=by
 unfold flP
 refine hK1 _ _ A.sz_pos (fun y d=> ?_) _ _ _
 unfold flC
 split
 ·omega
 ·split
  ·have:=upP_sz A d;omega
  ·rw[re_sz];omega
inductive Wd : Tm→Prop
 | mk (x:Tm):x.u.length<2^29→(∀ u∈x.u,u.vs.length<2^29)→x.l.length<2^29→(∀ t∈x.l,Wd t)→Wd x
theorem Wd.of : ∀ (N:Nat)(x:Tm),x.sz≤N→N<2^29→Wd x
 | 0,x,h,_=>by have:=x.sz_pos;omega
 | N+1,x,h,hN=>by
  have h1:=x.ulen_lt
  have h2:=x.len_lt
  exact .mk x (by omega) (fun u hu=>by have:=Tm.lev_lt hu;unfold Lev.sz at this;omega) (by omega) fun t ht=>Wd.of N t (by have:=Tm.sz_lt ht;omega) (by omega)
theorem Wd.z : Wd zTm:=Wd.of 1 _ (by rw[jP1];omega) (by omega)
theorem mkT_wd {x:Tm}{ls:List Tm} (h:Wd x)(hl:ls.length=x.l.length)(hls:∀ t∈ls,Wd t):Wd (mkT x ls):=by
 cases h with
 | mk _ h1 h2 h3 h4=>
  refine .mk _ (by show(clL x.u).length<_;unfold clL;rw[List.length_map];exact h1) (fun u hu=> ?_) (by show ls.length<_;rw[hl];exact h3) hls
  have hu':u∈clL x.u:=hu
  unfold clL at hu'
  obtain⟨v,hv,rfl⟩:=List.mem_map.1 hu'
  exact h2 v hv
theorem Wd.l {x:Tm} (h:Wd x):∀ t∈x.l,Wd t:=by cases h with | mk _ _ _ _ h=>exact h
theorem yK0 {g:Tm→Int→Tm} (hg:∀ y d,Wd y→Wd (g y d)):∀ (N:Nat)(x:Tm)(d:Int),Wd x→Wd (mapP g N x d)
 | 0,x,d,_=>Wd.z
 | N+1,x,d,hx=>by
  have h:Wd (mkT x (x.l.zipIdx.map fun p=>mapP g N p.1 (wr (d+binds x.op x.l.length p.2)))):=mkT_wd hx (by simp) fun t ht=>by
   obtain⟨p,hp,rfl⟩:=List.mem_map.1 ht
   exact yK0 hg N _ _ (hx.l _ (hN1 hp))
  rw[mapP]
  split
  ·exact hg _ _ h
  ·exact h
theorem re_wd {x:Tm} (n:Int)(h:Wd x):Wd (.mk x.op n x.s x.u x.zu x.l x.zl):=by
 cases h with
 | mk _ h1 h2 h3 h4=>exact .mk _ h1 h2 h3 h4
theorem upP_wd {A:Tm} (d:Int)(h:Wd A):Wd (upP A d):=yK0 (fun y e h=>by unfold shC;split;exact re_wd _ h;exact h) _ _ _ h
theorem flP_wd {A x:Tm} (hA:Wd A)(h:Wd x):Wd (flP A x):=yK0 (fun y d h=>by
 unfold flC
 split
 ·exact h
 ·split
  ·exact upP_wd d hA
  ·exact re_wd _ h) _ _ _ h
theorem gT_u (x:Tm):(gT x).u=x.u.map gL:=by cases x;rfl
theorem gT_l (x:Tm):(gT x).l=x.l.map gT:=by
 cases x with
 | mk a b s u zu l zl=>show gT.gTs l=l.map gT;exact aA1 l
theorem gT_wd {x:Tm} (h:Wd x):Wd (gT x):=by
 induction h with
 | mk x h1 h2 h3 h4 ih=>
  refine .mk _ (by rw[gT_u,List.length_map];exact h1) (fun u hu=> ?_) (by rw[gT_l,List.length_map];exact h3) fun t ht=> ?_
  ·rw[gT_u]at hu
   obtain⟨v,hv,rfl⟩:=List.mem_map.1 hu
   exact h2 v hv
  ·rw[gT_l]at ht
   obtain⟨y,hy,rfl⟩:=List.mem_map.1 ht
   exact ih y hy
theorem kY0 : ∀ x:Tm,(gT x).sz=x.sz:=by
 have key:∀ (N:Nat) (x:Tm),x.sz≤N→(gT x).sz=x.sz:=by
  intro N
  induction N with
  | zero=>intro x h;have:=x.sz_pos;omega
  | succ N ih=>
   intro x h
   rw[Tm.sz_eq,x.sz_eq,gT_u,gT_l,List.map_map,List.map_map]
   congr 2
   exact List.map_congr_left fun t ht=>ih t (by have:=Tm.sz_lt ht;omega)
 exact fun x=>key x.sz x (Nat.le_refl _)
theorem op_mk (a b:Int)(s:ByteArray)(u:List Lev)(zu:Fl)(l:List Tm)(zl:Fl):(Tm.mk a b s u zu l zl).op=a:=rfl
theorem n_mk (a b:Int)(s:ByteArray)(u:List Lev)(zu:Fl)(l:List Tm)(zl:Fl):(Tm.mk a b s u zu l zl).n=b:=rfl
theorem s_mk (a b:Int)(s:ByteArray)(u:List Lev)(zu:Fl)(l:List Tm)(zl:Fl):(Tm.mk a b s u zu l zl).s=s:=rfl
theorem u_mk (a b:Int)(s:ByteArray)(u:List Lev)(zu:Fl)(l:List Tm)(zl:Fl):(Tm.mk a b s u zu l zl).u=u:=rfl
theorem l_mk (a b:Int)(s:ByteArray)(u:List Lev)(zu:Fl)(l:List Tm)(zl:Fl):(Tm.mk a b s u zu l zl).l=l:=rfl
theorem zW0 : ∀ (N:Nat)(x:Tm),x.sz≤N→eqTm (cpTm (gT x)) x=true
 | 0,x,h=>by have:=x.sz_pos;omega
 | N+1,x,h=>by
  have h2:allR iG0 ((x.u.map gL).map jP0) x.u=true:=by
   rw[List.map_map];exact qR0 fun u _=>zV0 u
  have h3:allR eqTm ((x.l.map gT).map cpTm) x.l=true:=by
   rw[List.map_map];exact qR0 fun t ht=>zW0 N t (by have:=Tm.sz_lt ht;omega)
  have e1:(gT x).op=x.op:=by cases x;rfl
  have e2:(gT x).n=x.n:=by cases x;rfl
  have e3:(gT x).s=x.s:=by cases x;rfl
  rw[gM1,qY0,gT_u,gT_l,e1,e2,e3]
  simp only[op_mk,n_mk,s_mk,u_mk,l_mk,h2,h3,beq_self_eq_true,Bool.and_self]
set_option maxHeartbeats 8000000 in
theorem rN1 (hx:ext 48=none)(h89:ext 89=none)(h49:ext 49=none)(h90:ext 90=none){x:Tm} (h:Wd x):run prog ext (.call 48 [tmV x] [])=some (.ret [tmV (cpTm x)] []):=by
 induction h with
 | mk x h1 h2 h3 h4 ih=>
  have r89:=copy89 ext h89 h49 x.zu x.u h1 h2
  have r90:=copy90 ext h90 x.zl x.l h3 ih
  have e:listD x.zu 2 (x.u.map levD)=x.uD:=rfl
  have e':listD x.zl 5 (x.l.map tmD)=x.lD:=rfl
  rw[e]at r89
  rw[e']at r90
  rw[qY0]
  (rw[enT hx func48 rfl];simp only[f48,zR,Nat.zero_le,simprocAttr,zE])
  simp only[tmV,hI0,dV]at r89 r90 ⊢
  simp only[tmC]
  simp only[zS,zD,aB0,aA0,zT33,zT30,zT31,zT9,zT3,bD0,aH0,aI0,Array.size,List.length,r89,r90,simprocAttr]
  rw[aE0 _ _ _ _ (by kernel_rfl)]
  simp only[zS,zD,aB0,aA0,zT33,simprocAttr]
  (refine .trans ?_ rfl;kernel_rfl)
end
section
open Go
def Dc.smO (x:Dc):Prop:=x.type.sz<2^21∧x.body.sz<2^21∧x.param.sz<2^21∧∀ c∈x.cons,c.arg.sz<2^21
theorem nV1 : zDc.smO:=⟨by show zTm.sz<_;rw[pC0];omega,by show zTm.sz<_;rw[pC0];omega,by show zTm.sz<_;rw[pC0];omega,fun c hc=>by cases hc⟩
theorem oZ0 (x:Tb)(s:ByteArray)(h:∀ d∈x.ds,d.smO):(eN0 x s).1.smO:=by
 unfold eN0
 split
 ·exact nV1
 ·rename_i d e
  split
  ·exact h d (List.mem_of_find?_eq_some e)
  ·exact nV1
theorem lX0 (x:Tb)(s:ByteArray)(h:∀ d∈x.ds,d.smO):(iP0 x s).1.smO:=by
 unfold iP0
 split
 ·exact nV1
 ·rename_i d e
  split
  ·exact h d (List.mem_of_find?_eq_some e)
  ·exact nV1
theorem pY0 (d:Dc)(i:Int)(h:d.smO):(gE0 d i).sz<2^21:=by
 unfold gE0
 split
 ·rename_i c e
  exact h.2.2.2 c (List.mem_of_getElem? e)
 ·rw[pC0];omega
section
variable (x:Tb) (s:ByteArray) (l:List Lev) (h:∀ d∈x.ds,d.smO)
theorem wC0 : zTm.sz<2^25:=by rw[pC0];omega
theorem vS0 {t:Tm} (ht:t.sz<2^21):(setL (fun u=>bW0 u l) t).1.sz<2^25:=by
 have h2:=iQ1 (fun u=>vY0 l u) _ t (Nat.le_refl _)
 omega
include h
theorem jJ1 (n:Nat):(mR0 (fun u=>bW0 u l) x s n).1.sz<2^25:=by
 unfold mR0
 repeat' split
 all_goals first | exact wC0 | exact vS0 l (oZ0 x s h).1
theorem eI1 (n:Nat):(kR0 (fun u=>bW0 u l) x s n).1.sz<2^25:=by
 unfold kR0
 repeat' split
 all_goals first | exact wC0 | exact vS0 l (oZ0 x s h).2.1
theorem cW1 (n:Nat):(iX0 (fun u=>bW0 u l) x s n).1.sz<2^25:=by
 unfold iX0
 repeat' split
 all_goals first | exact wC0 | exact vS0 l (lX0 x s h).2.2.1
theorem uN0 (n:Nat)(i:Int):(mK0 (fun u=>bW0 u l) x s n i).1.sz<2^25:=by
 unfold mK0
 repeat' split
 all_goals first | exact wC0 | exact vS0 l (pY0 _ i (lX0 x s h))
theorem kA1 {A:Tm} (hA:A.sz<2^21)(n:Nat)(i:Int):(pH0 (fun u=>bW0 u l) (flP A) x s n i).1.sz<2^50:=by
 unfold pH0
 split
 ·have h1:=flP_sz A (mK0 (fun u=>bW0 u l) x s n i).1
  have h2:=uN0 x s l h n i
  have h4:A.sz*(mK0 (fun u=>bW0 u l) x s n i).1.sz≤2^21*2^25:=Nat.mul_le_mul (by omega) (by omega)
  dsimp only
  omega
 ·have:=wC0;dsimp only;omega
theorem kC1 {A:Tm} (hA:A.sz<2^21)(n:Nat)(i:Int):Wd (pH0 (fun u=>bW0 u l) (flP A) x s n i).1:=by
 unfold pH0
 split
 ·exact flP_wd (Wd.of A.sz A (Nat.le_refl _) (by omega)) (Wd.of _ _ (Nat.le_refl _) (by have:=uN0 x s l h n i;omega))
 ·exact Wd.z
end
theorem hX1 (x:Tb)(s:ByteArray)(l:List Lev)(n:Nat):(mM0 (fun u=>bW0 u l) x s n).1.vs.length<2^29:=by
 unfold mM0
 split
 ·have h2:=vY0 l (inst x s n).1.over
  unfold Lev.sz at h2;dsimp only;omega
 ·show(0:Nat)<_;omega
theorem own10 {w0:World}{cs cs':Array Value}{N:Nat→Prop} (x:Tb)(q:Ask)(hr:All2 (@RepD (gOld w0) w0 N) cs.toList [(gB x).d])(hr':All2 (@RepD (gOld w0) w0 N) cs'.toList (askD (gA q)))(hlaid:w0.cell? ⟨dI0,0,none⟩=some lZ0)
  (hok:(gB x).ok) (hsm:∀ d∈(gB x).ds,d.smO) (hl:(gA q).ls.length<2^50) (ha:(gA q).a.sz<2^21) (hb:(gA q).b.sz<2^50) :
  Calls prog 10 #[.agg cs,.agg cs'] w0 fun e W'=>e = .returned (.bool true)∧jU1 w0 W':=by
 have H:∀ n,n≠14∧n≠121∧n≠240→E2 n=none:=fun n h=>ex2 n h.1 h.2.1 h.2.2
 have hs:=sorts2
 have hc:=rL1
 obtain⟨b1,r13⟩:=sZ1 E2 (H _ (by decide)) (H _ (by decide)) (H _ (by decide)) (H _ (by decide)) (H _ (by decide)) (H _ (by decide)) (gB x) hok
 obtain⟨b2,r31⟩:=mO1 E2 (H _ (by decide)) (gA q).z (gA q).ls hl
 obtain⟨b3,ra⟩:=lY0 E2 (H _ (by decide)) (H _ (by decide)) (H _ (by decide)) (gA q).a 400 (by omega)
 obtain⟨b4,rb⟩:=lY0 E2 (H _ (by decide)) (H _ (by decide)) (H _ (by decide)) (gA q).b 400 hb
 have r38:=uA1 E2 (H _ (by decide)) (gA q) b2 b3 b4 r31 ra rb
 generalize (decide (((gA q).s.size:Int)>200)||(b2||(b3||b4)))=b5 at r38
 by_cases c1:b1=true∨b5=true
 ·have hrun:=sY1 E2 (H _ (by decide)) (gB x) (gA q) b1 b5 r13 r38 oW1 c1
  have hok : @eI0 (gOld w0) prog 10 [tbV (gB x),askV (gA q)] [] (.ret [bV true] []):=by
   rcases @rec2 (gOld w0) 10 _ _ _ hrun with⟨_,h⟩ | ⟨xs,y,h,_⟩
   ·exact h
   ·cases xs with
    | nil=>cases h
    | cons a l=>simp only[List.map_cons,List.cons.injEq]at h;cases h.1
  have hargs:All2 (@RVs (gOld w0) w0 (fun b=>b<w0.heap.size) (fun _=>0) (lk [])) [.agg cs,.agg cs'] [tbV (gB x),askV (gA q)]:=by
   have k0:∀ z,(gOld w0).G z→(gOld w0).G z∧w0.heap[z]? = w0.heap[z]? := fun z h=>⟨h,rfl⟩
   refine .cons ⟨cs,rfl,?_⟩ (.cons ⟨cs',rfl,?_⟩ .nil)
   ·rw[sJ0];exact pR0 (gF0 k0 hr fun y hy=>by rw[List.mem_singleton.1 hy];exact CdB x)
   ·rw[mZ0];exact pR0 (gF0 k0 hr' (pY1 q))
  refine(hok w0 (fun b=>b<w0.heap.size) (fun _=>0) _ (iT1 hlaid) hargs).mono ?_
  rintro e W' ⟨β',v,rfl,hres,_,hst⟩
  refine⟨?_,fun z hz=> @St.block (gOld w0) _ _ _ _ _ _ _ hst z hz (by rintro⟨id,o,h1,_⟩;cases h1),@St.os (gOld w0) _ _ _ _ _ _ _ hst,@St.output (gOld w0) _ _ _ _ _ _ _ hst⟩
  rcases hres with⟨y,hy,hv⟩ | ⟨hne,_⟩
  ·cases hy
   have hv' : @RepD (gOld w0) W' _ v (.v (.bool true)):=hv
   cases hv'
   rfl
  ·exact absurd rfl hne
 ·have hb1:b1=false:=by cases b1;rfl;exact absurd (.inl rfl) c1
  have hb5:b5=false:=by cases b5;rfl;exact absurd (.inr rfl) c1
  subst hb1 hb5
  have hth:=oZ0 (gB x) (gA q).s hsm
  have hts:=lX0 (gB x) (gA q).s hsm
  have hca:=pY0 _ (gA q).n hts
  have h78:=cB1 E2 (H _ (by decide)) (H _ (by decide)) (H _ (by decide)) (H _ (by decide)) (gB x) (gA q).s hok.1
  have g71:=fam71 E2 (H _ (by decide)) (H _ (by decide)) (H _ (by decide)) (H _ (by decide)) (gB x) (gA q).s hok.1
  have g83:=inst83 E2 (H _ (by decide)) (gB x) (gA q).s (gA q).z (gA q).ls g71
  have fP:=fun u=>vV1 E2 (H _ (by decide)) (H _ (by decide)) (H _ (by decide)) (H _ (by decide)) (H _ (by decide)) (H _ (by decide)) (H _ (by decide)) hs (H _ (by decide)) (H _ (by decide)) (H _ (by decide)) (H _ (by decide)) (H _ (by decide)) u (gA q).z (gA q).ls
  have sP:=fun(t:Tm) (ht:t.sz<2^21)=>set79 E2 (H _ (by decide)) (fun u=>bW0 u (gA q).ls) _ fP t.sz t (Nat.le_refl _) (by omega)
  have r32:=type32 E2 (H _ (by decide)) (fun u=>bW0 u (gA q).ls) (gB x) (gA q).s (gA q).z (gA q).ls h78 (sP _ hth.1)
  have r34:=body34 E2 (H _ (by decide)) (fun u=>bW0 u (gA q).ls) (gB x) (gA q).s (gA q).z (gA q).ls h78 (sP _ hth.2.1)
  have r39:=f39_ E2 (H _ (by decide)) (fun u=>bW0 u (gA q).ls) (gB x) (gA q).s (gA q).z (gA q).ls g83 (sP _ hts.2.2.1)
  have r41:=f41_ E2 (H _ (by decide)) (fun u=>bW0 u (gA q).ls) (gB x) (gA q).s (gA q).z (gA q).ls g83 (fP _)
  have hfl:∀ t:Tm,t.sz<2^25→run prog E2 (.call 86 [tmV t,dV (argD (gA q).a)] [])=some (.ret [tmV (flP (gA q).a t)] []):=fun t ht=>
   fillP E2 (H _ (by decide)) (H _ (by decide)) (H _ (by decide)) (H _ (by decide)) (H _ (by decide)) (H _ (by decide)) (H _ (by decide)) (H _ (by decide)) hc (H _ (by decide)) (H _ (by decide)) t (gA q).a (by omega) (by omega)
  have r46:=arg46 E2 (H _ (by decide)) (fun u=>bW0 u (gA q).ls) (flP (gA q).a) (gB x) (gA q).s (gA q).z (gA q).ls (gA q).n (gA q).a g83 (sP _ hca) (fun _=>hfl _ (vS0 (gA q).ls hca))
  have r36:=fun(a b:Tm) (h:a.sz<2^50)=>eq36 E2 (H _ (by decide)) (H _ (by decide)) (H _ (by decide)) (H _ (by decide)) a.sz a b (Nat.le_refl _) h
  have c48:=fun(t:Tm) (ht:Wd t)=>rN1 E2 (H _ (by decide)) (H _ (by decide)) (H _ (by decide)) (H _ (by decide)) (gT_wd ht)
  have wdo:=fun(t:Tm) (ht:t.sz<2^25)=>Wd.of t.sz t (Nat.le_refl _) (by omega)
  have za:=jJ1 (gB x) (gA q).s (gA q).ls hsm (gA q).ls.length
  have zb:=eI1 (gB x) (gA q).s (gA q).ls hsm (gA q).ls.length
  have zc:=cW1 (gB x) (gA q).s (gA q).ls hsm (gA q).ls.length
  have zd:=kA1 (gB x) (gA q).s (gA q).ls hsm ha (gA q).ls.length (gA q).n
  have wd:=kC1 (gB x) (gA q).s (gA q).ls hsm ha (gA q).ls.length (gA q).n
  have zl:=hX1 (gB x) (gA q).s (gA q).ls (gA q).ls.length
  have pa:=jK1 (gB x) (gA q).s (gA q).ls (gA q).ls.length
  have pb:=eJ1 (gB x) (gA q).s (gA q).ls (gA q).ls.length
  have pc:=cX1 (gB x) (gA q).s (gA q).ls (gA q).ls.length
  have pd:=kB1 (gB x) (gA q).s (gA q).ls (gA q).a (gA q).ls.length (gA q).n
  have pl:=hY1 (gB x) (gA q).s (gA q).ls (gA q).ls.length
  generalize (mR0 (fun u=>bW0 u (gA q).ls) (gB x) (gA q).s (gA q).ls.length)=A1 at r32 za pa
  generalize (kR0 (fun u=>bW0 u (gA q).ls) (gB x) (gA q).s (gA q).ls.length)=A2 at r34 zb pb
  generalize (iX0 (fun u=>bW0 u (gA q).ls) (gB x) (gA q).s (gA q).ls.length)=A3 at r39 zc pc
  generalize (pH0 (fun u=>bW0 u (gA q).ls) (flP (gA q).a) (gB x) (gA q).s (gA q).ls.length (gA q).n)=A4 at r46 zd wd pd
  generalize (mM0 (fun u=>bW0 u (gA q).ls) (gB x) (gA q).s (gA q).ls.length)=A5 at r41 zl pl
  have cpp:=fun t:Tm=>gC1 t.sz t (Nat.le_refl _)
  have czg:=fun t:Tm=>gD1 t.sz t (Nat.le_refl _)
  have e52:=eq52 E2 (H _ (by decide)) [cpTm (gT A1.1),cpTm (gT A2.1),cpTm (gT A3.1),cpTm (gT A4.1)] [A1.1,A2.1,A3.1,A4.1] ⟨false,false⟩ ⟨false,false⟩ (by simp) (fun t ht y=>r36 t y (by
   simp only[List.mem_cons,List.not_mem_nil,or_false]at ht
   rcases ht with rfl | rfl | rfl | rfl
   ·rw[czg,kY0];omega
   ·rw[czg,kY0];omega
   ·rw[czg,kY0];omega
   ·rw[czg,kY0];omega))
  have eall:allR eqTm [cpTm (gT A1.1),cpTm (gT A2.1),cpTm (gT A3.1),cpTm (gT A4.1)] [A1.1,A2.1,A3.1,A4.1]=true:=by
   simp only[allR,zW0 _ _ (Nat.le_refl _),Bool.and_self]
  rw[eall]at e52
  have e43:=eq43 E2 (H _ (by decide)) (jP0 (gL A5.1)) A5.1 (by show A5.1.vs.length<_;omega)
  have e43':iG0 (jP0 (gL A5.1)) A5.1=true:=zV0 A5.1
  rw[e43']at e43
  have c49:=oZ1 E2 (H _ (by decide)) (gL A5.1) zl
  exact uE1 x q hr hr' hlaid A1.1 A2.1 A3.1 A4.1 _ _ _ _ A5.1 _ _ _ _ _ _ _ r13 r38 r32 r34 r39 r46 r41 pa pb pc pd pl (by omega) (by omega) (by omega) zd (by omega) (c48 _ (wdo _ za)) (c48 _ (wdo _ zb)) (c48 _ (wdo _ zc)) (c48 _ wd) c49 (cpp _) (cpp _) (cpp _) (cpp _) (PdL.cp _) e52 e43
end
end Go.Proofs.YteenjodhmppgjaaGreatDoor.Am
