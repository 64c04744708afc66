/- A part of the proof of a card. No conditions. -/
import Derived.Test.YteenjodhmppgjaaGreatDoorPa2
set_option linter.all false
set_option maxHeartbeats 16000000
set_option maxRecDepth 10000
namespace Go.Proofs.YteenjodhmppgjaaGreatDoor.Am
section
open Go
variable [Guest]
def eJ0 (P:Program)(rec:Rec)(nt:Nat)(all:Array Oper):List Oper→Env→List O→Option (Env × List O)
 | [],env,loc=>some (env,loc)
 | ⟨d,o,_,_,_,g⟩::l,env,loc=>
  if hC0 nt d=true then
   match wantedA all env g with
   | some true=>match opA P rec (lk loc) loc.length (ev env) o with
    | some ⟨.val v,upd,_⟩=>eJ0 P rec nt all l (putO env d v) (updO loc upd)
    | _=>none
   | some false=>eJ0 P rec nt all l (putO env d (.tup [])) loc
   | none=>none
  else none
def uW0 (all:Array Oper)(r:Option (Env × List O × List (List Nat × List Nat))):Option (Env × List O):=
 match r with
 | some (env,loc,fps)=>if nZ0 all fps=true then some (env,loc) else none
 | none=>none
def goC (P:Program)(rec:Rec)(nt:Nat):Code→Env→List O→Option (Env × List O)
 | .skip,env,loc=>some (env,loc)
 | .seq a b,env,loc=>match goC P rec nt a env loc with
  | some (e,l)=>goC P rec nt b e l
  | none=>none
 | .cond x a b,env,loc=>match ev env x with
  | .c (.d (.v (.bool true)))=>goC P rec nt a env loc
  | .c (.d (.v (.bool false)))=>goC P rec nt b env loc
  | _=>none
 | .region _ ops false,env,loc=>eJ0 P rec nt ops ops.toList env loc
 | .region _ ops true,env,loc=>uW0 ops (bD0 P rec nt ops loc.length ops.toList 0 env (loc++iH0 ops.size))
 | _,_,_=>none
section
variable {P:Program}
theorem rA0 (hN:iI0 P){rec:Rec} (hrec:kO0 P rec){all:Array Oper}{Q:Exit→Act→World→Prop}{F:Nat→Prop}{env':Env}{loc':List O}:∀ {l:List Oper}{is:List Nat}{env:Env}{loc:List O}{a:Act}{w:World}{β:Int→Nat},
  eJ0 P rec a.tmps.size all l env loc=some (env',loc')→is.map (fun i=>all[i]?)=l.map some→Sim w F β (lk loc)→EnvR w F β (lk loc) a.tmps env →
  (∀ a' w' β',Behind P w F β loc a env' loc' a' w' β'→Q .normal a' w')→wpOps P all Q is a w
 | [],is,env,loc,a,w,β,h,hl,hS,hE,hq=>by
  have:is=[]:=by simpa using hl
  subst this
  simp only[eJ0,Option.some.injEq,Prod.mk.injEq]at h
  obtain⟨rfl,rfl⟩:=h
  exact hq a w β ⟨hS,hE,St.refl _ _ _ _,rfl,rfl⟩
 | ⟨d,op,t,p,af,g⟩::l,is,env,loc,a,w,β,h,hl,hS,hE,hq=>by
  cases is with
  | nil=>simp at hl
  | cons i is=>
   simp only[List.map_cons,List.cons.injEq]at hl
   obtain⟨hi,hl⟩:=hl
   simp only[eJ0]at h
   split at h
   case isFalse=>cases h
   rename_i hd
   cases hw:wantedA all env g with
   | none=>simp[hw]at h
   | some b=>
    have hwant:=wA0 hE hw ⟨d,op,t,p,af,g⟩ rfl
    cases b with
    | false=>
     simp only[hw]at h
     simp only[wpOps,hi]
     rw[hwant]
     simp only[Bool.false_eq_true,if_false]
     refine rA0 hN hrec (by rw[bP0];exact h) hl hS (hE.put iP1 hd) fun a2 w2 β2 hb2=> ?_
     obtain⟨c1,c2,c3,c4,c5⟩:=hb2
     exact hq a2 w2 β2 ⟨c1,c2,c3,by rw[bP0]at c4;exact c4,by rw[bG0]at c5;exact c5⟩
    | true=>
     simp only[hw]at h
     cases hop:opA P rec (lk loc) loc.length (ev env) op with
     | none=>simp[hop]at h
     | some e=>
      obtain⟨res,upd,rd⟩:=e
      cases res with
      | pan x=>simp[hop]at h
      | val v=>
       simp only[hop]at h
       simp only[wpOps,hi]
       rw[hwant]
       simp only[if_true]
       left
       have hslot:∀ id,loc.length≤id→lk loc id=none:=by
        intro id hid
        simp[lk,List.getElem?_eq_none hid]
       have hgo:=oO0 hN hrec hS (hG0 loc) (hslot _ (Nat.le_refl _)) (a:=a) (o:=⟨d,op,t,p,af,g⟩) (fun y=>iO0 hE y) hop (fun id h1 _=>hslot id h1)
       refine hgo _ _ fun w' β' hgd=> ?_
       obtain⟨g1,g2⟩:=hgd
       dsimp only at g1 g2
       rw[← eP0]at g1 g2
       intro x hx
       dsimp only at hx
       rw[← eP0]at hx
       refine rA0 hN hrec (by rw[bP0];exact h) hl g1 ((EnvR.mono g2 hE).put hx hd) fun a2 w2 β2 hb2=> ?_
       obtain⟨c1,c2,c3,c4,c5⟩:=hb2
       exact hq a2 w2 β2 ⟨c1,c2,g2.trans c3,by rw[bP0]at c4;exact c4,by rw[bG0]at c5;exact c5⟩
theorem iY0 (hN:iI0 P){rec:Rec} (hrec:kO0 P rec)(hMix:P.follows .mixedOrders=true){F:Nat→Prop}{Post:FinK→Act→World→Prop}:∀ {c:Code}{k:List Item}{env env':Env}{loc loc':List O}{a:Act}{w:World}{β:Int→Nat},
  goC P rec a.tmps.size c env loc=some (env',loc')→a.defers=[]→Sim w F β (lk loc)→EnvR w F β (lk loc) a.tmps env →
  (∀ a' w' β',Behind P w F β loc a env' loc' a' w' β'→Reach P k a' w' Post)→Reach P (.code c::k) a w Post
 | .skip,k,env,env',loc,loc',a,w,β,h,hd,hS,hE,hq=>by
  simp only[goC,Option.some.injEq,Prod.mk.injEq]at h
  obtain⟨rfl,rfl⟩:=h
  exact aF0 (fun b cs=>step_skip) (hq a w β ⟨hS,hE,St.refl _ _ _ _,rfl,rfl⟩)
 | .seq c1 c2,k,env,env',loc,loc',a,w,β,h,hd,hS,hE,hq=>by
  simp only[goC]at h
  cases h1:goC P rec a.tmps.size c1 env loc with
  | none=>simp[h1]at h
  | some p=>
   obtain⟨e,l⟩:=p
   simp only[h1]at h
   refine aF0 (fun b cs=>step_seq) (iY0 hN hrec hMix h1 hd hS hE fun a1 w1 β1 hb=> ?_)
   obtain⟨b1,b2,b3,b4,b5⟩:=hb
   refine iY0 hN hrec hMix (by rw[b4];exact h) (b5.trans hd) b1 b2 fun a2 w2 β2 hb2=> ?_
   obtain⟨c1,c2,c3,c4,c5⟩:=hb2
   exact hq a2 w2 β2 ⟨c1,c2,b3.trans c3,c4.trans b4,c5.trans b5⟩
 | .cond x c1 c2,k,env,env',loc,loc',a,w,β,h,hd,hS,hE,hq=>by
  simp only[goC]at h
  split at h
  ·rename_i hx
   refine dS0 (t:=true) hE hx ?_
   simp only[if_true]
   exact iY0 hN hrec hMix h hd hS hE hq
  ·rename_i hx
   refine dS0 (t:=false) hE hx ?_
   simp only[Bool.false_eq_true,if_false]
   exact iY0 hN hrec hMix h hd hS hE hq
  ·cases h
 | .region n ops false,k,env,env',loc,loc',a,w,β,h,hd,hS,hE,hq=>by
  refine aF0 (fun b cs=>step_region) (gI0 ?_)
  exact rA0 (Q:=Qr P k Post) hN hrec h (iE1 ops) hS hE fun a' w' β' hb=>hq a' w' β' hb
 | .region n ops true,k,env,env',loc,loc',a,w,β,h,hd,hS,hE,hq=>by
  simp only[goC]at h
  cases hdr:bD0 P rec a.tmps.size ops loc.length ops.toList 0 env (loc++iH0 ops.size) with
  | none=>simp[hdr,uW0]at h
  | some p=>
   obtain⟨e1,l1,fps⟩:=p
   simp only[hdr,uW0]at h
   split at h
   case isFalse=>cases h
   rename_i hok
   simp only[Option.some.injEq,Prod.mk.injEq]at h
   obtain⟨rfl,rfl⟩:=h
   intro b cs
   have hw:=oV0 (w':={ w with drawn:=w.drawn+1 }) hS rfl rfl rfl rfl
   obtain⟨hS1,st1⟩:=hw
   have hE1:=EnvR.mono st1 hE
   have hany:=gH1 hN hrec hS1 hE1 rfl hd hdr hok (Q:=Qr P k Post)
    (fun a' w' β' g1 g2 g3 g4 g5=>hq a' w' β' ⟨g1,g2,st1.trans g3,g4,by rw[g5,hd]⟩)
   have this:wpOps P ops (Qr P k Post) (Region.schedule (P.follows .mixedOrders) ops (w.tape w.drawn (.order b.fn n))) a { w with drawn:=w.drawn+1 }:=by
    simp only[Region.schedule,hMix,Bool.true_or,if_true]
    exact wpAny_sound ops.size _ _ a _ hany
   obtain⟨fk,a',w',todo,p1,p2⟩:=gI0 this b cs
   exact⟨fk,a',w',todo,p1,.head step_region_draw p2⟩
 | .block _ _,_,_,_,_,_,_,_,_,h,_,_,_,_=>by cases h
 | .loop _,_,_,_,_,_,_,_,_,h,_,_,_,_=>by cases h
 | .exit _,_,_,_,_,_,_,_,_,h,_,_,_,_=>by cases h
 | .ret,_,_,_,_,_,_,_,_,h,_,_,_,_=>by cases h
end
def subE (env' e:Env):Prop:=∀ t,gt env' t=gt e t∨gt env' t = .c .any
def dM0 (r:Option (Env × List O))(env':Env)(loc':List O):Prop:=match r with
 | some (e,l)=>l=loc'∧subE env' e
 | none=>False
theorem bR0 (e:Env):subE [] e:=fun _=> .inr rfl
theorem aD0 {t:Nat}{v:V}{r e:Env} (h1:gt e t=v)(h2:subE r e):subE ((t,v)::r) e:=by
 intro u
 by_cases h:t=u
 ·subst h;left;simp[gt,h1]
 ·have:gt ((t,v)::r) u=gt r u:=by simp[gt,h]
  rw[this];exact h2 u
theorem EnvR.sub {w:World}{F:Nat→Prop}{β:Int→Nat}{look:Look}{tmps:Array Value}{env' e:Env} (h:EnvR w F β look tmps e)(hs:subE env' e):EnvR w F β look tmps env':=by
 intro t
 rcases hs t with h1 | h1
 ·rw[h1];exact h t
 ·rw[h1];trivial
theorem cE0 {P:Program} (hN:iI0 P){rec:Rec} (hrec:kO0 P rec)(hMix:P.follows .mixedOrders=true){F:Nat→Prop}{Post:FinK→Act→World→Prop}{c:Code}{k:List Item}{env env':Env}{loc loc':List O}{a:Act}{w:World}{β:Int→Nat}{nt:Nat}
  (h:dM0 (goC P rec nt c env loc) env' loc') (hn:a.tmps.size=nt) (hd:a.defers=[]) (hS:Sim w F β (lk loc)) (hE:EnvR w F β (lk loc) a.tmps env)
  (hq:∀ a' w' β',Behind P w F β loc a env' loc' a' w' β'→Reach P k a' w' Post):Reach P (.code c::k) a w Post:=by
 subst hn
 cases hg:goC P rec a.tmps.size c env loc with
 | none=>rw[hg]at h;exact h.elim
 | some p=>
  obtain⟨e,l⟩:=p
  rw[hg]at h
  obtain⟨rfl,hs⟩:=h
  refine iY0 hN hrec hMix hg hd hS hE fun a' w' β' hb=> ?_
  obtain⟨b1,b2,b3,b4,b5⟩:=hb
  exact hq a' w' β' ⟨b1,b2.sub hs,b3,b4,b5⟩
end
section
open Go
def Like (v v':Value):Prop:=(∃ k n n',v = .int k n∧v' = .int k n')∨(∃ s s',v = .string s∧v' = .string s')∨v=v'
theorem Like.refl (v:Value):Like v v:= .inr (.inr rfl)
theorem Like.trans {a b c:Value} (h:Like a b)(k:Like b c):Like a c:=by
 rcases h with⟨q,n,n',rfl,rfl⟩ | ⟨s,s',rfl,rfl⟩ | rfl
 ·rcases k with⟨q',m,m',e,rfl⟩ | ⟨s,s',e,rfl⟩ | rfl
  ·cases e;exact .inl ⟨_,_,_,rfl,rfl⟩
  ·cases e
  ·exact .inl ⟨_,_,_,rfl,rfl⟩
 ·rcases k with⟨q',m,m',e,rfl⟩ | ⟨t,t',e,rfl⟩ | rfl
  ·cases e
  ·exact .inr (.inl ⟨_,_,rfl,rfl⟩)
  ·exact .inr (.inl ⟨_,_,rfl,rfl⟩)
 ·exact k
structure Sp (M:Nat→Prop)(w w':World):Prop where
 os:w'.os=w.os
 tape:w'.tape=w.tape
 output:w'.output=w.output
 size:w.heap.size≤w'.heap.size
 other:∀ b,b<w.heap.size→¬ M b→w'.heap[b]? = w.heap[b]?
 same:∀ b,M b→∀ vals ty fr,w.heap[b]? = some (.cells vals ty fr)→∃ vals',w'.heap[b]? = some (.cells vals' ty fr)∧vals'.size=vals.size∧∀ (i:Nat) v,vals[i]? = some v→∃ v',vals'[i]? = some v'∧Like v v'
theorem Sp.refl (M:Nat→Prop)(w:World):Sp M w w:=⟨rfl,rfl,rfl,Nat.le_refl _,fun _ _ _=>rfl,fun _ _ vals _ _ h=>⟨vals,h,rfl,fun _ v hv=>⟨v,hv,Like.refl v⟩⟩⟩
theorem Sp.trans {M:Nat→Prop}{w w' w'':World} (h:Sp M w w')(k:Sp M w' w''):Sp M w w'':=by
 refine⟨k.os.trans h.os,k.tape.trans h.tape,k.output.trans h.output,Nat.le_trans h.size k.size,fun b hb hm=>(k.other b (Nat.lt_of_lt_of_le hb h.size) hm).trans (h.other b hb hm),fun b hm vals ty fr e=> ?_⟩
 obtain⟨v1,e1,s1,p1⟩:=h.same b hm vals ty fr e
 obtain⟨v2,e2,s2,p2⟩:=k.same b hm v1 ty fr e1
 refine⟨v2,e2,s2.trans s1,fun i v hv=> ?_⟩
 obtain⟨x,hx,l1⟩:=p1 i v hv
 obtain⟨y,hy,l2⟩:=p2 i x hx
 exact⟨y,hy,l1.trans l2⟩
theorem Sp.st [Guest] {M m:Nat→Prop}{w0 w w':World}{β β':Int→Nat}{look look':Look} (h:Sp M w0 w)(hM:∀ b,M b→b<w0.heap.size)(hst:St m w β look w' β' look')(hl:∀ b,Live β look b→w0.heap.size≤b):Sp M w0 w':=by
 have hb:∀ b,b<w0.heap.size→w'.heap[b]? = w.heap[b]? := fun b hb=>hst.block b (Nat.lt_of_lt_of_le hb h.size) fun hlv=>by have:=hl b hlv;omega
 refine⟨hst.os.trans h.os,hst.tape.trans h.tape,hst.output.trans h.output,Nat.le_trans h.size hst.size,fun b hb' hm=>(hb b hb').trans (h.other b hb' hm),fun b hm vals ty fr e=> ?_⟩
 obtain⟨v1,e1,s1,p1⟩:=h.same b hm vals ty fr e
 exact⟨v1,(hb b (hM b hm)).trans e1,s1,p1⟩
theorem Sp.set {M:Nat→Prop}{w:World}{b:Nat}{vals:Array Value}{ty:TypeId}{vals':Array Value} (hm:M b)(hb:w.heap[b]? = some (.cells vals ty (0,0)))(hs:vals'.size=vals.size)
  (hl:∀ (i:Nat) v,vals[i]? = some v→∃ v',vals'[i]? = some v'∧Like v v'):Sp M w (w.setRow b vals'):=by
 refine⟨rfl,rfl,rfl,by rw[gK0];exact Nat.le_refl _,fun c _ hc=>dT0 _ _ _ _ (fun e=>hc (e ▸ hm)),fun c hc us ty' fr e=> ?_⟩
 by_cases h:c=b
 ·subst h
  rw[hb]at e
  cases e
  exact⟨vals',by simp[World.setRow,Array.getElem?_modify,hb],hs,hl⟩
 ·exact⟨us,by rw[dT0 _ _ _ _ h];exact e,rfl,fun _ v hv=>⟨v,hv,Like.refl v⟩⟩
def Sl (M:Nat→Prop)(w:World)(k:Nat)(R:Nat→Value→Prop)(v:Value):Prop:=
 (∃ a cap,v = .slice a 0 cap)∨∃ b o n cap vals ty,v = .slice (some ⟨b,o,none⟩) n cap∧n<2^50∧M b∧w.heap[b]? = some (.cells vals ty (0,0))∧o+n*k≤vals.size ∧
  ∀ i j,i<n→j<k→∃ x,vals[o+i*k+j]? = some x∧R j x
theorem Sl.mono {M:Nat→Prop}{w w':World} (hs:Sp M w w'){k:Nat}{R R':Nat→Value→Prop} (hR:∀ j x x',R j x→Like x x'→R' j x'){v:Value} (h:Sl M w k R v):Sl M w' k R' v:=by
 rcases h with h | ⟨b,o,n,cap,vals,ty,rfl,hn,hm,hb,hle,hx⟩
 ·exact .inl h
 ·obtain⟨vals',e,s,p⟩:=hs.same b hm vals ty _ hb
  refine .inr ⟨b,o,n,cap,vals',ty,rfl,hn,hm,e,by rw[s];exact hle,fun i j hi hj=> ?_⟩
  obtain⟨x,h1,h2⟩:=hx i j hi hj
  obtain⟨x',h3,h4⟩:=p _ x h1
  exact⟨x',h3,hR j x x' h2 h4⟩
def isInt (x:Value):Prop:=∃ n,x = .int .i64 n
def isStr (x:Value):Prop:=∃ s,x = .string s
theorem isInt.like {x x':Value} (h:isInt x)(l:Like x x'):isInt x':=by
 obtain⟨n,rfl⟩:=h
 rcases l with⟨k,a,b,e,rfl⟩ | ⟨s,s',e,_⟩ | rfl
 ·cases e;exact⟨_,rfl⟩
 ·cases e
 ·exact⟨_,rfl⟩
theorem isStr.like {x x':Value} (h:isStr x)(l:Like x x'):isStr x':=by
 obtain⟨n,rfl⟩:=h
 rcases l with⟨k,a,b,e,rfl⟩ | ⟨s,s',e,rfl⟩ | rfl
 ·cases e
 ·exact⟨_,rfl⟩
 ·exact⟨_,rfl⟩
theorem Sl.like {M:Nat→Prop}{w:World}{k:Nat}{R:Nat→Value→Prop}{x x':Value} (h:Sl M w k R x)(l:Like x x'):x'=x:=by
 have:∃ a n c,x = .slice a n c:=by
  rcases h with⟨a,c,rfl⟩ | ⟨b,o,n,cap,vals,ty,rfl,_⟩
  ·exact⟨_,_,_,rfl⟩
  ·exact⟨_,_,_,rfl⟩
 obtain⟨a,n,c,rfl⟩:=this
 rcases l with⟨k,a,b,e,_⟩ | ⟨s,s',e,_⟩ | rfl
 ·cases e
 ·cases e
 ·rfl
def isLV (_:Nat)(x:Value):Prop:=isInt x
def isLev (M:Nat→Prop)(w:World)(j:Nat)(x:Value):Prop:=match j with | 0=>isInt x | _=>Sl M w 2 isLV x
def isTm (M:Nat→Prop)(w:World):Nat→Nat→Value→Prop
 | _,0,x=>isInt x
 | _,1,x=>isInt x
 | _,2,x=>isStr x
 | _,3,x=>Sl M w 2 (isLev M w) x
 | 0,_,_=>False
 | N+1,_,x=>Sl M w 5 (isTm M w N) x
theorem isLev.mono {M:Nat→Prop}{w w':World} (hs:Sp M w w'){j:Nat}{x x':Value} (h:isLev M w j x)(l:Like x x'):isLev M w' j x':=by
 match j with
 | 0=>exact isInt.like h l
 | j+1=>
  have h':Sl M w 2 isLV x:=h
  rw[h'.like l]
  exact Sl.mono hs (fun _ _ _ a b=>isInt.like a b) h'
theorem isTm.mono {M:Nat→Prop}{w w':World} (hs:Sp M w w'):∀ (N j:Nat)(x x':Value),isTm M w N j x→Like x x'→isTm M w' N j x'
 | N,0,x,x',h,l=>by unfold isTm at h ⊢;exact isInt.like h l
 | N,1,x,x',h,l=>by unfold isTm at h ⊢;exact isInt.like h l
 | N,2,x,x',h,l=>by unfold isTm at h ⊢;exact isStr.like h l
 | N,3,x,x',h,l=>by
  unfold isTm at h ⊢
  rw[Sl.like (R:=isLev M w) h l]
  exact Sl.mono (R:=isLev M w) (R':=isLev M w') hs (fun _ _ _ a b=>isLev.mono hs a b) h
 | 0,j+4,x,x',h,l=>by unfold isTm at h;exact h.elim
 | N+1,j+4,x,x',h,l=>by
  unfold isTm at h ⊢
  rw[Sl.like (R:=isTm M w N) h l]
  exact Sl.mono (R:=isTm M w N) (R':=isTm M w' N) hs (fun j a b p q=>isTm.mono hs N j a b p q) h
section
variable [Guest] {P:Program}{w:World}{F:Nat→Prop}{β:Int→Nat}{look:Look}
theorem Sim.upF {w':World} (hS:Sim w F β look)(hG:∀ b,¬ Guest.G b)(hsz:w.heap.size≤w'.heap.size)(hk:∀ b,b<w.heap.size→¬ F b→w'.heap[b]? = w.heap[b]?)(hlaid:w'.heap[dI0]? = w.heap[dI0]?) :
  Sim w' F β look∧∀ v x,RVs w F β look v x→RVs w' F β look v x:=by
 have keep:Keep w (Nn w F β look) w' (Nn w' F β look):=⟨fun b ⟨h1,h2,h3⟩=>⟨⟨h1.same (Nat.lt_of_lt_of_le h1.1 hsz) (hk b h1.1 h2),h2,h3⟩,hk b h1.1 h2⟩,fun b hb=>absurd hb (hG b)⟩
 have ids:Ids (fun _=>True) w β (shL look) w' β (shL look):=by
  intro id s _ hs
  by_cases hg:s = .gone
  ·subst hg;exact .inr (.inr ⟨rfl,hs⟩)
  ·obtain⟨o,ho,hso⟩:=gL0 hs
   obtain⟨a,b,_⟩:=hS.live id o ho (eM0 hso hg)
   exact .inl ⟨rfl,hs,bQ0 (hk _ a b),rfl⟩
 refine⟨⟨fun b hb=>Nat.lt_of_lt_of_le (hS.flt b hb) hsz,fun id o hl ha=> ?_,hS.inj,⟨?_,hS.laid.2⟩,fun b hb=>absurd hb (hG b)⟩,fun v x h=>RV.mono keep ids h⟩
 ·obtain⟨a,b,c⟩:=hS.live id o hl ha
  exact⟨Nat.lt_of_lt_of_le a hsz,b,RO.mono keep ids (hk _ a b) c⟩
 ·rw[World.cell?_of_block (w:=w) hlaid];exact hS.laid.1
theorem Sim.sp {M:Nat→Prop}{w':World} (hS:Sim w F β look)(hG:∀ b,¬ Guest.G b)(hs:Sp M w w')(hM:∀ b,M b→F b)(hL:¬ M dI0):Sim w' F β look∧∀ v x,RVs w F β look v x→RVs w' F β look v x:=by
 have hlt:dI0<w.heap.size:=by
  rcases Nat.lt_or_ge dI0 w.heap.size with h | h
  ·exact h
  ·have:=hS.laid.1;simp[World.cell?,Array.getElem?_eq_none h]at this
 exact hS.upF hG hs.size (fun b hb hf=>hs.other b hb fun hm=>hf (hM b hm)) (hs.other _ hlt hL)
theorem iA0 {all:Array Oper}{o:Oper}{a:Act} (hg:o.guard=none):Region.wanted o (yielded all a.tmps)=true:=by unfold Region.wanted;rw[hg]
theorem wB0 {all:Array Oper}{Q:Exit→Act→World→Prop}{i:Nat}{K:Act→World→Prop}{a:Act}{o:Oper}{T:TypeId}{p x:Operand}{xv:Value}{n b off:Nat}{vals:Array Value}{ty:TypeId}
  (hi:all[i]? = some o) (hg:o.guard=none) (ho:o.op = .store T p x) (hdst:o.dst=none) (hp:a.eval p = .pointer (some ⟨b,off,none⟩)) (hx:a.eval x=xv) (hs:bN0 P T=some n) (hn:xv.cells.size=n)
  (hb:w.heap[b]? = some (.cells vals ty (0,0))) (hl:off+n≤vals.size) (h1:∀ y∈xv.cells.toList,cellB y=true)
  (hq:K a (w.setRow b (vals.toList.take off++xv.cells.toList++vals.toList.drop (off+n)).toArray)):wpOp P all Q i K a w:=by
 unfold wpOp
 simp only[hi]
 rw[iA0 hg,if_pos rfl]
 left
 have hrun:(execOp a.eval o).run P w = .ok .skip (w.setRow b (vals.toList.take off++xv.cells.toList++vals.toList.drop (off+n)).toArray):=by
  simp[execOp,ho,hp,hx,Instr.storeAt,Instr.sureAddr,gJ0 (P:=P) hs hn hb hl h1]
 show Oper.upon P o a K Q ((execOp a.eval o).run P w)
 rw[hrun]
 show K (a.put o.dst undef) _
 rw[hdst]
 exact hq
theorem sN0 {all:Array Oper}{Q:Exit→Act→World→Prop}{i:Nat}{K:Act→World→Prop}{a:Act}{o:Oper}{T:TypeId}{p:Operand}{b off:Nat}{xs:List Value}{v:V}{d:Option Nat}
  (hi:all[i]? = some o) (hg:o.guard=none) (ho:o.op = .load T p) (hdst:o.dst=d) (hp:a.eval p = .pointer (some ⟨b,off,none⟩)) (hat:At w b off xs) (hxs:∀ y∈xs,cellB y=true) (hc:cutC P T (xs.map fun y=>C.d (.v y)) 0=some v)
  (hq:∀ y,RVs w F β look y v→K (a.put d y) w):wpOp P all Q i K a w:=by
 subst hdst
 unfold wpOp
 simp only[hi]
 rw[iA0 hg,if_pos rfl]
 left
 have hall:All2 (RK w (Nn w F β look) β (shL look)) xs (xs.map fun y=>C.d (.v y)):=by
  clear hat hc
  induction xs with
  | nil=>exact .nil
  | cons y l ih=>exact .cons ⟨hxs y (by simp),RepD.v (hxs y (by simp))⟩ (ih fun z hz=>hxs z (by simp[hz]))
 obtain⟨y,h1,h2⟩:=sB0 (P:=P) hall hat hc
 rw[Nat.add_zero]at h1
 have hrun:(execOp a.eval o).run P w = .ok (.value y) w:=by
  simp[execOp,ho,hp,Instr.loadAt,Instr.sureAddr,h1]
 show Oper.upon P o a K Q ((execOp a.eval o).run P w)
 rw[hrun]
 exact hq y h2
theorem sM0 (hN:iI0 P){all:Array Oper}{Q:Exit→Act→World→Prop}{i:Nat}{K:Act→World→Prop}{a:Act}{o:Oper}{f:FuncId}{args:Array Operand}{tys:Array TypeId}{vals:Array Value}{R:Ending→World→Prop}{d:Option Nat}
  (hi:all[i]? = some o) (hg:o.guard=none) (ho:o.op = .call { callee:= .value (.func f),args:=args,argTypes:=tys }) (hdst:o.dst=d) (hv:args.map a.eval=vals) (hB:eC0 P f) (hc:Calls P f vals w R)
  (hq:∀ e w',R e w'→∃ v,e = .returned v∧K (a.put d v) w'):wpOp P all Q i K a w:=by
 subst hdst
 unfold wpOp
 simp only[hi]
 rw[iA0 hg,if_pos rfl]
 left
 have hrun:(execOp a.eval o).run P w = .ok (.enter f vals) w:=by
  simp only[execOp,ho,resolve,Act.eval,Deferred.ofValue,pure_bind,invoke]
  have:args.map (fun y=>a.eval y)=vals:=hv
  first
   | (rw[show(#[]++args.map a.eval ++ #[]:Array Value)=vals by rw[hv];simp];exact eL0 hN hB _ _)
   | (simp only[Array.empty_append,Array.append_empty,hv];exact eL0 hN hB _ _)
 show Oper.upon P o a K Q ((execOp a.eval o).run P w)
 rw[hrun]
 refine Calls.mono hc fun e w' he=> ?_
 obtain⟨v,rfl,hk⟩:=hq e w' he
 exact hk
theorem vL0 {vals:Array Value}{xs:List Value}{off:Nat} (hl:off+xs.length≤vals.size)(hx:∀ (j:Nat) x,xs[j]? = some x→∃ y,vals[off+j]? = some y∧Like y x) :
  (vals.toList.take off++xs++vals.toList.drop (off+xs.length)).toArray.size=vals.size∧∀ (i:Nat) v,vals[i]? = some v→∃ v',(vals.toList.take off++xs++vals.toList.drop (off+xs.length)).toArray[i]? = some v'∧Like v v':=by
 refine⟨by simp;omega,fun i v hv=> ?_⟩
 have hi:i<vals.size:=by
  rcases Nat.lt_or_ge i vals.size with h | h
  ·exact h
  ·rw[Array.getElem?_eq_none h]at hv;cases hv
 by_cases h1:i<off
 ·refine⟨v,?_,Like.refl v⟩
  simp only[List.getElem?_toArray,List.append_assoc]
  rw[List.getElem?_append_left (by simp;omega),List.getElem?_take,if_pos h1]
  first | exact hv | simpa using hv
 ·by_cases h2:i<off+xs.length
  ·have hx':xs[i - off]? = some (xs[i - off]'(by omega)):=List.getElem?_eq_getElem (by omega)
   obtain⟨y,h3,h4⟩:=hx (i - off) _ hx'
   rw[show off+(i - off)=i by omega,hv]at h3
   cases h3
   refine⟨_,?_,h4⟩
   simp only[List.getElem?_toArray,List.append_assoc]
   rw[List.getElem?_append_right (by simp;omega)]
   have e:(List.take off vals.toList).length=off:=by simp;omega
   rw[e,List.getElem?_append_left (by omega)]
   exact hx'
  ·refine⟨v,?_,Like.refl v⟩
   simp only[List.getElem?_toArray]
   rw[List.getElem?_append_right (by simp;omega)]
   have e:(List.take off vals.toList++xs).length=off+xs.length:=by simp;omega
   rw[e,List.getElem?_drop,show off+xs.length+(i - (off+xs.length))=i by omega]
   simpa using hv
end
end
section
open Go
theorem Like.symm {a b:Value} (h:Like a b):Like b a:=by
 rcases h with⟨q,n,n',rfl,rfl⟩ | ⟨s,s',rfl,rfl⟩ | rfl
 ·exact .inl ⟨_,_,_,rfl,rfl⟩
 ·exact .inr (.inl ⟨_,_,rfl,rfl⟩)
 ·exact Like.refl _
def depB (all:Array Oper)(o:Oper)(s:Nat):Bool:=o.after.toList.any fun e=>Region.binds .any e&&decide ((all[e.on]?).bind (·.dst)=some s)
def canB (base:List Nat)(all:Array Oper)(o:Oper)(s:Nat):Bool:=base.contains s||depB all o s
def okS (base:List Nat)(all:Array Oper)(listed:Array Bool)(s:Nat):Prop:=s∈base∨∃ j oj,all[j]? = some oj∧oj.dst=some s∧listed.getD j false=true
theorem qF0 {listed:Array Bool}{i j:Nat} (h:(listed.setIfInBounds i true).getD j false=true):j=i∨listed.getD j false=true:=by
 by_cases e:j=i
 ·exact .inl e
 ·right
  simp only[Array.getD_eq_getD_getElem?]at h ⊢
  rw[Array.getElem?_setIfInBounds_ne (fun h=>e h.symm)]at h
  exact h
theorem nA1 {all:Array Oper}{listed:Array Bool}{i:Nat} (h:i∈Region.ready .any all listed):∃ o,all[i]? = some o∧∀ e∈o.after.toList,Region.binds .any e=true→listed.getD e.on false=true:=by
 unfold Region.ready at h
 rw[List.mem_filter]at h
 obtain⟨_,h⟩:=h
 simp only[Bool.and_eq_true]at h
 obtain⟨_,h⟩:=h
 cases ho:all[i]? with
 | none=>rw[ho]at h;cases h
 | some o=>
  refine⟨o,rfl,fun e he hb=> ?_⟩
  rw[ho]at h
  simp only[Option.map_some,Option.getD_some,Array.all_eq_true_iff_forall_mem]at h
  have:=h e (by simpa using he)
  rw[hb]at this
  simpa using this
theorem oD0 {α:Type}{p q:α→Bool} (hpq:∀ x,q x=true→p x=true):∀ {l:List α}{x:α},x∈l→p x=true→q x=false→(l.filter q).length<(l.filter p).length
 | [],x,hx,_,_=>by cases hx
 | y::l,x,hx,h1,h2=>by
  have hle:∀ l:List α,(l.filter q).length≤(l.filter p).length:=by
   intro l
   induction l with
   | nil=>simp
   | cons z l ih=>
    rw[List.filter_cons,List.filter_cons]
    cases hq:q z with
    | true=>simp only[hpq z hq,if_true,List.length_cons];omega
    | false=>cases hp:p z <;> simp only[if_true,Bool.false_eq_true,if_false,List.length_cons] <;> omega
  rw[List.filter_cons,List.filter_cons]
  rcases List.mem_cons.1 hx with rfl | hx
  ·have:=hle l
   simp only[h1,h2,if_true,Bool.false_eq_true,if_false,List.length_cons];omega
  ·have:=oD0 hpq hx h1 h2
   cases hq:q y with
   | true=>simp only[hpq y hq,if_true,List.length_cons];omega
   | false=>cases hp:p y <;> simp only[if_true,Bool.false_eq_true,if_false,List.length_cons] <;> omega
theorem cF1 {all:Array Oper}{listed:Array Bool}{i fuel:Nat} (hls:listed.size=all.size)(hi:i∈Region.ready .any all listed)(hc:((List.range all.size).filter fun j=> !listed.getD j false).length≤fuel+1) :
  ((List.range all.size).filter fun j=> !(listed.setIfInBounds i true).getD j false).length≤fuel:=by
 unfold Region.ready at hi
 rw[List.mem_filter]at hi
 obtain⟨hir,hi⟩:=hi
 simp only[Bool.and_eq_true]at hi
 have hin:=List.mem_range.1 hir
 have h1:listed.getD i false=false:=by
  have:=hi.1
  simp only[Array.getD_eq_getD_getElem?]at this ⊢
  rw[Array.getElem?_eq_getElem (by omega)]at this ⊢
  simpa using this
 have h2:(listed.setIfInBounds i true).getD i false=true:=by
  simp only[Array.getD_eq_getD_getElem?]
  rw[Array.getElem?_setIfInBounds_self_of_lt (by omega)]
  rfl
 have:=oD0 (p:=fun j=> !listed.getD j false) (q:=fun j=> !(listed.setIfInBounds i true).getD j false) (fun j hj=>by
  cases hs:listed.getD j false with
  | false=>rfl
  | true=>
   exfalso
   have:(listed.setIfInBounds i true).getD j false=true:=by
    by_cases e:j=i
    ·subst e;exact h2
    ·simp only[Array.getD_eq_getD_getElem?]at hs ⊢
     rw[Array.getElem?_setIfInBounds_ne (fun h=>e h.symm)]
     exact hs
   rw[this]at hj;cases hj) hir (by rw[h1];rfl) (by rw[h2];rfl)
 omega
section
variable [Guest] {P:Program}
def InvR (M:Nat→Prop)(w0:World)(loc:List O)(base:List Nat)(E:Env)(nt:Nat)(all:Array Oper)(listed:Array Bool)(a:Act)(w:World):Prop:=
 ∃ β,Sim w (fun b=>b<w0.heap.size) β (lk loc)∧(∀ s,okS base all listed s→RVs w (fun b=>b<w0.heap.size) β (lk loc) (a.tmps.getD s undef) (gt E s))∧Sp M w0 w∧a.tmps.size=nt∧a.defers=[]
def PureR (P:Program)(rec:Rec)(loc:List O)(base:List Nat)(E:Env)(nt:Nat)(all:Array Oper)(o:Oper):Prop:=
 ∃ t,o.dst=some t∧t<nt∧∀ ρ:Operand→V,(∀ s,canB base all o s=true→ρ (.tmp s)=gt E s)→∃ rd,opA P rec (lk loc) loc.length ρ o.op=some ⟨.val (gt E t),[],rd⟩
def oU1 (P:Program)(base:List Nat)(E:Env)(all:Array Oper)(b:Nat)(vals:Array Value)(o:Oper):Prop:=
 o.dst=none∧∃ p off T xv n,canB base all o p=true∧gt E p = .c (.d (.v (.pointer (some ⟨b,off,none⟩))))∧o.op = .store T (.tmp p) (.const xv)∧bN0 P T=some n∧xv.cells.size=n∧off+n≤vals.size∧(∀ y∈xv.cells.toList,cellB y=true) ∧
  ∀ (j:Nat) x,xv.cells.toList[j]? = some x→∃ y,vals[off+j]? = some y∧Like y x
theorem qX1 (hN:iI0 P){rec:Rec} (hrec:kO0 P rec)(hG:∀ b,¬ Guest.G b){M:Nat→Prop}{w0:World} (hM:∀ b,M b→b<w0.heap.size)(hL:¬ M dI0){loc:List O}{base:List Nat}{E:Env}{nt:Nat}{all:Array Oper}{b:Nat}{vals:Array Value}{ty:TypeId}
  (hb:w0.heap[b]? = some (.cells vals ty (0,0))) (hm:M b) (H:∀ (i:Nat) o,all[i]? = some o→o.guard=none∧(PureR P rec loc base E nt all o∨oU1 P base E all b vals o)){Q:Exit→Act→World→Prop}
  (hq:∀ a w,(∃ β,Sim w (fun b=>b<w0.heap.size) β (lk loc)∧(∀ s∈base,RVs w (fun b=>b<w0.heap.size) β (lk loc) (a.tmps.getD s undef) (gt E s))∧Sp M w0 w∧a.tmps.size=nt∧a.defers=[])→Q .normal a w) :
  ∀ (fuel:Nat) (listed:Array Bool) (a:Act) (w:World),listed.size=all.size→((List.range all.size).filter fun j=> !listed.getD j false).length≤fuel→InvR M w0 loc base E nt all listed a w→wpAny P .any all Q fuel listed a w:=by
 have fin:∀ (listed:Array Bool) (a:Act) (w:World),InvR M w0 loc base E nt all listed a w→Q .normal a w:=by
  rintro listed a w ⟨β,h1,h2,h3,h4,h5⟩
  exact hq a w ⟨β,h1,fun s hs=>h2 s (.inl hs),h3,h4,h5⟩
 intro fuel
 induction fuel with
 | zero=>
  intro listed a w hls hc hinv
  refine⟨?_,fin _ _ _ hinv⟩
  unfold Region.ready
  rw[List.filter_eq_nil_iff]
  intro j hj
  have hj':=List.mem_range.1 hj
  have h1:listed.getD j true=true:=by
   cases hs:listed.getD j false with
   | true=>
    simp only[Array.getD_eq_getD_getElem?]at hs ⊢
    rw[Array.getElem?_eq_getElem (by omega)]at hs ⊢
    simpa using hs
   | false=>
    have:j∈(List.range all.size).filter fun j=> !listed.getD j false:=List.mem_filter.2 ⟨hj,by rw[hs];rfl⟩
    have hnil:((List.range all.size).filter fun j=> !listed.getD j false)=[]:=List.eq_nil_of_length_eq_zero (by omega)
    rw[hnil]at this
    simp at this
  rw[h1]
  simp
 | succ fuel ih=>
  intro listed a w hls hc hinv
  refine⟨fun _=>fin _ _ _ hinv,fun i hi=> ?_⟩
  have hls':(listed.setIfInBounds i true).size=all.size:=by rw[Array.size_setIfInBounds];exact hls
  have hcnt:((List.range all.size).filter fun j=> !(listed.setIfInBounds i true).getD j false).length≤fuel:=cF1 hls hi hc
  obtain⟨β,hS,hR,hsp,hsz,hd⟩:=hinv
  obtain⟨o,ho,hdep⟩:=nA1 hi
  obtain⟨hg,hor⟩:=H i o ho
  have hcan:∀ s,canB base all o s=true→okS base all listed s:=by
   intro s hs
   unfold canB at hs
   rw[Bool.or_eq_true]at hs
   rcases hs with hs | hs
   ·exact .inl (by simpa using hs)
   ·unfold depB at hs
    rw[List.any_eq_true]at hs
    obtain⟨e,he,h2⟩:=hs
    rw[Bool.and_eq_true]at h2
    obtain⟨h2,h3⟩:=h2
    have h3:=of_decide_eq_true h3
    cases hj:all[e.on]? with
    | none=>rw[hj]at h3;cases h3
    | some oj=>
     rw[hj]at h3
     exact .inr ⟨e.on,oj,hj,h3,hdep e he h2⟩
  rcases hor with⟨t,hdst,ht,hop⟩ | ⟨hdst,p,off,T,xv,n,hp,hE,hst,hs,hn,hle,h1,hlk⟩
  ·let ρ:Operand→V:=fun y=>match y with
    | .tmp s=>if canB base all o s=true then gt E s else .c .any
    | y=>ev [] y
   have hρ:∀ y,RVs w (fun b=>b<w0.heap.size) β (lk loc) (a.eval y) (ρ y):=by
    intro y
    cases y with
    | tmp s=>
     show RVs _ _ _ _ (a.tmps.getD s undef) (if canB base all o s=true then gt E s else .c .any)
     split
     ·rename_i h;exact hR s (hcan s h)
     ·trivial
    | const x=>exact kE0 x
    | global g=>trivial
    | func f=>exact iO0 (env:=[]) (fun t=>trivial) (.func f)
   obtain⟨rd,hop⟩:=hop ρ fun s hs=>if_pos hs
   unfold wpOp
   simp only[ho]
   rw[iA0 hg,if_pos rfl]
   left
   have hslot:∀ id,loc.length≤id→lk loc id=none:=by
    intro id hid
    simp[lk,List.getElem?_eq_none hid]
   have hgo:=oO0 hN hrec hS (hG0 loc) (hslot _ (Nat.le_refl _)) (a:=a) (o:=o) hρ hop (fun id h1 _=>hslot id h1)
   refine hgo _ _ fun w' β' hgd=> ?_
   obtain⟨g1,g2⟩:=hgd
   dsimp only at g1 g2
   rw[← eP0]at g1 g2
   intro x hx
   dsimp only at hx
   rw[← eP0]at hx
   refine ih _ _ _ hls' hcnt ⟨β',g1,fun s hs=> ?_,hsp.st hM g2 (fun b ⟨id,q,q1,q2,q3⟩=>by have:=(hS.live id q q1 q2).2.1;omega),by rw[bP0];exact hsz,by rw[bG0];exact hd⟩
   rw[hdst]
   by_cases e:s=t
   ·subst e
    have:((a.put (some s) x).tmps.getD s undef)=x:=by simp[Act.put,Array.getD_eq_getD_getElem?,hsz,ht]
    rw[this]
    exact hx
   ·have:((a.put (some t) x).tmps.getD s undef)=a.tmps.getD s undef:=by
     simp only[Act.put,Array.getD_eq_getD_getElem?]
     rw[Array.getElem?_setIfInBounds_ne (fun h=>e h.symm)]
    rw[this]
    have hs':okS base all listed s:=by
     rcases hs with hs | ⟨j,oj,q1,q2,q3⟩
     ·exact .inl hs
     ·rcases qF0 q3 with rfl | q3
      ·rw[ho]at q1;cases q1;rw[hdst]at q2;cases q2;exact absurd rfl e
      ·exact .inr ⟨j,oj,q1,q2,q3⟩
    exact RV.mono g2.keep g2.ids (hR s hs')
  ·have hpv:a.eval (.tmp p) = .pointer (some ⟨b,off,none⟩):=by
    have:=hR p (hcan p hp)
    rw[hE]at this
    exact(rv_v this).1
   obtain⟨vals',hb',hsz',hl'⟩:=hsp.same b hm vals ty _ hb
   have hov:=vL0 (vals:=vals') (xs:=xv.cells.toList) (off:=off) (by simp;omega) (fun j x hj=>by
    obtain⟨y,q1,q2⟩:=hlk j x hj
    obtain⟨y',q3,q4⟩:=hl' _ y q1
    exact⟨y',q3,q4.symm.trans q2⟩)
   rw[show xv.cells.toList.length=n by simpa using hn]at hov
   have hset:=Sp.set hm hb' hov.1 hov.2
   refine wB0 ho hg hst hdst hpv (xv:=xv) rfl hs hn hb' (by omega) h1 ?_
   obtain⟨hS4,hR4⟩:=hS.sp hG hset hM hL
   refine ih _ _ _ hls' hcnt ⟨β,hS4,fun s hs=>hR4 _ _ (hR s ?_),hsp.trans hset,hsz,hd⟩
   rcases hs with hs | ⟨j,oj,q1,q2,q3⟩
   ·exact .inl hs
   ·rcases qF0 q3 with rfl | q3
    ·rw[ho]at q1;cases q1;rw[hdst]at q2;cases q2
    ·exact .inr ⟨j,oj,q1,q2,q3⟩
end
end
end Go.Proofs.YteenjodhmppgjaaGreatDoor.Am
