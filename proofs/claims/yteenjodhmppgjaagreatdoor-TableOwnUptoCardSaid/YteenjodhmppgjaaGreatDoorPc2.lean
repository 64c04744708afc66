/- A part of the proof of a card. No conditions. -/
import Derived.Test.YteenjodhmppgjaaGreatDoorPb1
import Derived.Test.YteenjodhmppgjaaGreatDoorPa4
set_option linter.all false
set_option maxHeartbeats 16000000
set_option maxRecDepth 10000
namespace Go.Proofs.YteenjodhmppgjaaGreatDoor.Am
open Go.Proofs.Tryz
section
open Go
def rec0 : Rec:=fun _=>none
theorem dQ0 : kO0 prog rec0:=fun _ _ _ _ h=>by cases h
noncomputable def B51 : Code:=f51.body.getD .skip
noncomputable def L51 : Code:=sub B51 [1,1,0,0]
def mC0 (c vs:Value):List O:=[.box [.d (.v c),.d (.v vs)]]
def bK1 (f:Func)(M:Nat→Prop)(w:World):FinK→Act→World→Prop:=fun fk a' w'=>a'.defers=[]∧match fk with
 | .ret=>∃ v,(results f a'.tmps).run prog w' = .ok v w'∧(∃ u,Ending.returned v = .returned u)∧Sp M w w'
 | .pan ch=>(∃ u,Ending.panicked ch = .returned u)∧Sp M w w'
theorem cG0 {w w1:World}{β:Int→Nat}{look:Look} (hS:Sim w1 (fun b=>b<w.heap.size) β look)(b:Nat)(h:Live β look b):w.heap.size≤b:=by
 obtain⟨id,o,h1,h2,rfl⟩:=h
 have:=(hS.live id o h1 h2).2.1
 omega
theorem noG : ∀ b,¬ Guest.G b:=fun _ h=>h
theorem oT0 {w:World}{F:Nat→Prop}{β:Int→Nat}{look:Look}{v:Value}{xs:List Value} (h:RVs w F β look v (.agg (xs.map fun y=>C.d (.v y)))):v = .agg xs.toArray:=by
 obtain⟨a,rfl,h⟩:=h
 congr 1
 have key:∀ (l:List Value) (xs:List Value),All2 (RK w (Nn w F β look) β (shL look)) l (xs.map fun y=>C.d (.v y))→l=xs:=by
  intro l
  induction l with
  | nil=>intro xs h;cases xs with | nil=>rfl | cons _ _=>cases h
  | cons y l ih=>
   intro xs h
   cases xs with
   | nil=>cases h
   | cons z xs=>
    cases h with
    | cons h1 h2=>
     have:=h1.2
     have e:RepD w (Nn w F β look) y (.v z):=this
     cases e
     rw[ih xs h2]
 rw[← key _ _ h]
theorem wH1 {k:Nat}{n:Nat} (h:(k:Int)<n)(hn:n<2^62):wr ((k:Int)+1)=((k+1:Nat):Int):=by rw[hK0 (by omega) (by omega)];omega
theorem lt51 {i n:Nat}:decide ((i:Int)<(n:Int))=decide (i<n):=by simp
theorem pJ1 {w:World}{M:Nat→Prop} (hM:∀ b,M b→b<w.heap.size)(hL:¬ M dI0){c:Value} (hc:cellB c=true){ad:Option Addr}{n cap:Nat} (hn:n<2^50)(hv:Sl M w 2 isLV (.slice ad n cap)):∀ (m i:Nat)(a:Act)(w1:World)(β:Int→Nat),i+m=n →
  Sim w1 (fun b=>b<w.heap.size) β (lk (mC0 c (.slice ad n cap)))→EnvR w1 (fun b=>b<w.heap.size) β (lk (mC0 c (.slice ad n cap))) a.tmps [(1,.c (.ptr 0 0)),(2,iV i)]→a.tmps.size=15→a.defers=[]→Sp M w w1 →
  Reach prog [.code L51,.inLoop L51,.inBlock 0] a w1 (bK1 f51 M w)
 | m,i,a,w1,β,him,hS,hE,hsz,hd,hsp=>by
  rw[show(Item.code L51)=Item.code (sub B51 [1,1,0,0]) from rfl]
  simp only[B51,sub,f51,↓reduceIte,zG]
  refine aF0 (fun b cs=>step_seq) (aF0 (fun b cs=>step_seq) (cE0 (nt:=15) dU0 dQ0 eW0 (env':=[(1,.c (.ptr 0 0)),(2,iV i),(7,bV (decide (i<n)))]) (loc':=mC0 c (.slice ad n cap)) ?_ hsz hd hS hE ?_))
  ·simp only[dM0,goC,eJ0,mC0,iV,bV]
   simp only[zS,zD,aB0,aA0,zT36,zT34,aR0,zT3,lenA,lt51,simprocAttr]
   exact aD0 rfl (aD0 rfl (aD0 rfl (bR0 _)))
  intro a2 w2 β2 hb2
  obtain⟨hS2,hE2,st2,sz2,d2⟩:=hb2
  have hsp2:=hsp.st hM st2 (cG0 hS)
  by_cases h:i<n
  ·cases m with
   | zero=>omega
   | succ m=>
   have hsl:Sl M w1 2 isLV (.slice ad n cap):=Sl.mono hsp (fun _ _ _ a b=>isInt.like a b) hv
   obtain⟨b,o,vals,ty,rfl,hm,hb,hle,hel⟩:∃ b o vals ty,ad=some ⟨b,o,none⟩∧M b∧w1.heap[b]? = some (.cells vals ty (0,0))∧o+n*2≤vals.size∧∀ i j,i<n→j<2→∃ x,vals[o+i*2+j]? = some x∧isLV j x:=by
    rcases hsl with⟨a',c',e⟩ | ⟨b,o,n',cap',vals,ty,e,_,hm,hb,hle,hel⟩
    ·cases e;omega
    ·cases e;exact⟨b,o,vals,ty,rfl,hm,hb,hle,hel⟩
   have hbl:¬ Live β (lk (mC0 c (.slice (some ⟨b,o,none⟩) n cap))) b:=fun hl=>by have:=cG0 hS b hl;have:=hM b hm;omega
   have hb2:w2.heap[b]? = some (.cells vals ty (0,0)):=(st2.block b (Nat.lt_of_lt_of_le (hM b hm) hsp.size) hbl).trans hb
   have h0:(0:Int)≤i:=by omega
   have hi:(i:Int)<n:=by omega
   refine dS0 (t:=true) hE2 (by rw[decide_eq_true h]at *;rfl) ?_
   simp only[if_true]
   refine aF0 (fun b cs=>step_skip) (aF0 (fun b cs=>step_seq) (aF0 (fun b cs=>step_block) (oR0 dU0 dQ0 5 [5] rfl rfl (sz2.trans hsz) hS2 hE2 ?_)))
   simp only[lG0,mC0,iV,bV,List.take_succ_cons,List.take_zero,zS,zD,aB0,aA0,zT36,zT34,aR0,zT3,h0,hi,Int.toNat_natCast,simprocAttr]
   intro a3 w3 β3 hb3
   obtain⟨hS3,hE3,st3,sz3,d3⟩:=hb3
   have hsp3:=hsp2.st hM st3 (cG0 hS2)
   have hbl2:¬ Live β2 (lk (mC0 c (.slice (some ⟨b,o,none⟩) n cap))) b:=fun hl=>by have:=cG0 hS2 b hl;have:=hM b hm;omega
   have hb3:w3.heap[b]? = some (.cells vals ty (0,0)):=(st3.block b (Nat.lt_of_lt_of_le (hM b hm) hsp2.size) hbl2).trans hb2
   have hp3:a3.eval (.tmp 14) = .pointer (some ⟨b,o+i*2,none⟩):=(rv_v (iO0 hE3 (.tmp 14))).1
   have hx3:a3.eval (.tmp 13) = .agg #[.int .i64 (-7),.int .i64 (-7)]:=oT0 (xs:=[.int .i64 (-7),.int .i64 (-7)]) (iO0 hE3 (.tmp 13))
   have hle2:o+i*2+2≤vals.size:=by omega
   have hov:=vL0 (vals:=vals) (xs:=[.int .i64 (-7),.int .i64 (-7)]) (off:=o+i*2) hle2 (fun j x hj=>by
    have hj2:j<2:=cT0 hj
    obtain⟨y,h1,⟨q,rfl⟩⟩:=hel i j h hj2
    refine⟨_,h1,?_⟩
    have:x = .int .i64 (-7):=by
     match j,hj with
     | 0,hj=>cases hj;rfl
     | 1,hj=>cases hj;rfl
    subst this
    exact .inl ⟨_,_,_,rfl,rfl⟩)
   have hset:=Sp.set hm hb3 hov.1 hov.2
   rw[wpOps_cons]
   refine wB0 (n:=2) (vals:=vals) (ty:=ty) rfl rfl rfl rfl hp3 hx3 eB0 rfl hb3 hle2 (fun y hy=> ?_) ?_
   ·have hy2:y∈([.int .i64 (-7),.int .i64 (-7)]:List Value):=hy
    have:y = .int .i64 (-7):=by simpa using hy2
    subst this;rfl
   obtain⟨hS4,hR4⟩:=hS3.sp noG hset hM hL
   have hE4:EnvR _ (fun b=>b<w.heap.size) β3 _ a3.tmps _:=fun t=>hR4 _ _ (hE3 t)
   have hsp4:=hsp3.trans hset
   show Reach _ _ a3 _ _
   refine aF0 (fun b cs=>step_inBlock) (cE0 (nt:=15) dU0 dQ0 eW0 (env':=[(1,.c (.ptr 0 0)),(2,iV (wr ((i:Int)+1)))]) (loc':=mC0 c (.slice (some ⟨b,o,none⟩) n cap)) ?_ (sz3.trans (sz2.trans hsz)) (d3.trans (d2.trans hd)) hS4 hE4 ?_)
   ·simp only[dM0,goC,eJ0,mC0,iV,bV]
    simp only[zS,zD,aB0,aA0,zT36,zT34,aR0,zT3,simprocAttr]
    exact aD0 rfl (aD0 rfl (bR0 _))
   intro a5 w5 β5 hb5
   obtain⟨hS5,hE5,st5,sz5,d5⟩:=hb5
   rw[wH1 hi (by omega)]at hE5
   refine aF0 (fun b cs=>step_inLoop) ?_
   exact pJ1 hM hL hc hn hv m (i+1) a5 w5 β5 (by omega) hS5 hE5 (sz5.trans (sz3.trans (sz2.trans hsz))) (d5.trans (d3.trans (d2.trans hd))) (hsp4.st hM st5 (cG0 hS4))
  ·refine dS0 (t:=false) hE2 (by rw[decide_eq_false h]at *;rfl) ?_
   simp only[Bool.false_eq_true,if_false]
   refine aF0 (fun b cs=>step_exit (k':=[]) rfl) (lE0 (fun b cs=>step_end) ?_)
   have hfin:=oE0 (P:=prog) (cf:=⟨15,0,[],false⟩) (out:= .ret [] []) hS2 hE2 (fn:=f51) (by kernel_rfl) (by kernel_rfl)
   obtain⟨vs,os,v,β',h1,h2,h3,h4,h5⟩:=hfin
   exact⟨d2.trans hd,v,h2,⟨_,rfl⟩,hsp2⟩
theorem iS1 {w:World} (hl:w.cell? ⟨dI0,0,none⟩=some lZ0):Sim w (fun b=>b<w.heap.size) (fun _=>0) (lk []):=
 ⟨fun _ h=>h,fun id o h=>(by cases h),fun id id' o o' h=>(by cases h),⟨hl,by rintro⟨id,o,h1,_⟩;cases h1⟩,fun b hb=>absurd hb (noG b)⟩
theorem jA1 {w:World}{M:Nat→Prop} (hM:∀ b,M b→b<w.heap.size)(hL:¬ M dI0)(hl:w.cell? ⟨dI0,0,none⟩=some lZ0){c vs:Value} (hc:cellB c=true)(hv:Sl M w 2 isLV vs) :
  Calls prog 51 #[.agg #[c,vs]] w fun e w'=>(∃ u,e = .returned u)∧Sp M w w':=by
 obtain⟨ad,n,cap,rfl,hn⟩:∃ ad n cap,vs = .slice ad n cap∧n<2^50:=by
  rcases hv with⟨a,cp,rfl⟩ | ⟨b,o,n,cp,vals,ty,rfl,hn,_⟩
  ·exact⟨_,0,_,rfl,by omega⟩
  ·exact⟨_,_,_,rfl,hn⟩
 refine eH0 func51 rfl ?_
 have hS:=iS1 hl
 have hE:=qZ0 (n:=f51.ntmps) (w:=w) (F:=fun b=>b<w.heap.size) (β:=fun _=>0) (objs:=[]) (vals:=[.agg #[c,.slice ad n cap]]) (args:=[.agg [.d (.v c),.d (.v (.slice ad n cap))]]) (.cons ⟨_,rfl,.cons ⟨hc,RepD.v hc⟩ (.cons ⟨rfl,RepD.v rfl⟩ .nil)⟩ .nil)
 generalize ha:({ tmps:= #[.agg #[c,.slice ad n cap]]++Array.replicate (f51.ntmps - (#[.agg #[c,.slice ad n cap]]:Array Value).size) undef,defers:=[] }:Act)=a
 have ht:a.tmps = #[.agg #[c,.slice ad n cap]]++Array.replicate (f51.ntmps - (#[.agg #[c,.slice ad n cap]]:Array Value).size) undef:=by rw[← ha]
 have hd:a.defers=[]:=by rw[← ha]
 have hsz:a.tmps.size=15:=by rw[ht];simp[show f51.ntmps=15 by kernel_rfl]
 have hE':EnvR w (fun b=>b<w.heap.size) (fun _=>0) (lk []) a.tmps [(0,.agg [.d (.v c),.d (.v (.slice ad n cap))])]:=by rw[ht];exact hE
 show Reach prog [.code _] a w (bK1 f51 M w)
 refine aF0 (fun b cs=>step_seq) (cE0 (nt:=15) dU0 dQ0 eW0 (env':=[(1,.c (.ptr 0 0))]) (loc':=mC0 c (.slice ad n cap)) ?_ hsz hd hS hE' ?_)
 ·simp only[dM0,goC,eJ0,mC0,iV,bV]
  simp only[zS,zD,aB0,aA0,zT36,zT34,aR0,zT3,simprocAttr]
  exact aD0 rfl (bR0 _)
 intro a2 w2 β2 hb2
 obtain⟨hS2,hE2,st2,sz2,d2⟩:=hb2
 refine aF0 (fun b cs=>step_seq) (cE0 (nt:=15) dU0 dQ0 eW0 (env':=[(1,.c (.ptr 0 0)),(2,iV (0:Nat))]) (loc':=mC0 c (.slice ad n cap)) ?_ (sz2.trans hsz) (d2.trans hd) hS2 hE2 ?_)
 ·simp only[dM0,goC,eJ0,mC0,iV,bV]
  simp only[zS,zD,aB0,aA0,zT36,zT34,aR0,zT3,simprocAttr]
  exact aD0 rfl (aD0 rfl (bR0 _))
 intro a3 w3 β3 hb3
 obtain⟨hS3,hE3,st3,sz3,d3⟩:=hb3
 refine aF0 (fun b cs=>step_block) (aF0 (fun b cs=>step_loop) ?_)
 exact pJ1 hM hL hc hn hv n 0 a3 w3 β3 (by omega) hS3 hE3 (sz3.trans (sz2.trans hsz)) (d3.trans (d2.trans hd)) (((Sp.refl M w).st hM st2 (cG0 hS)).st hM st3 (cG0 hS2))
end
section
open Go
noncomputable def B50 : Code:=f50.body.getD .skip
noncomputable def L50a : Code:=sub B50 [1,0,1,0,0]
noncomputable def L50b : Code:=sub B50 [1,1,1,0,0]
noncomputable def K50 : Code:=sub B50 [1,1]
def cQ0 (a b s u l:Value):List O:=[.box [.d (.v a),.d (.v b),.d (.v s),.d (.v u),.d (.v l)]]
theorem zN0 : eC0 prog 51:=⟨f51,func51,by kernel_rfl⟩
theorem kQ0 : eC0 prog 50:=⟨f50,func50,by kernel_rfl⟩
theorem At.two {w:World}{b o:Nat}{vals:Array Value}{ty:TypeId}{x y:Value} (hb:w.heap[b]? = some (.cells vals ty (0,0)))(h0:vals[o]? = some x)(h1:vals[o+1]? = some y):At w b o [x,y]:=by
 intro j z hj
 have hj2:j<2:=cT0 hj
 simp only[World.cell?,hb]
 match j,hj with
 | 0,hj=>cases hj;simpa using h0
 | 1,hj=>cases hj;simpa using h1
theorem gV1 {w:World}{M:Nat→Prop} (hM:∀ b,M b→b<w.heap.size)(hL:¬ M dI0){a0 b0 s0 l0:Value}{ad:Option Addr}{n cap:Nat} (hn:n<2^50)(hv:Sl M w 2 (isLev M w) (.slice ad n cap))
  (hk:∀ (a:Act) (w1:World) (β:Int→Nat),Sim w1 (fun b=>b<w.heap.size) β (lk (cQ0 a0 b0 s0 (.slice ad n cap) l0))→EnvR w1 (fun b=>b<w.heap.size) β (lk (cQ0 a0 b0 s0 (.slice ad n cap) l0)) a.tmps [(1,.c (.ptr 0 0))]→a.tmps.size=45→a.defers=[]→Sp M w w1→Reach prog [.code K50] a w1 (bK1 f50 M w)) :
  ∀ (m i:Nat) (a:Act) (w1:World) (β:Int→Nat),i+m=n →
  Sim w1 (fun b=>b<w.heap.size) β (lk (cQ0 a0 b0 s0 (.slice ad n cap) l0))→EnvR w1 (fun b=>b<w.heap.size) β (lk (cQ0 a0 b0 s0 (.slice ad n cap) l0)) a.tmps [(1,.c (.ptr 0 0)),(2,iV i)]→a.tmps.size=45→a.defers=[]→Sp M w w1 →
  Reach prog [.code L50a,.inLoop L50a,.inBlock 0,.code K50] a w1 (bK1 f50 M w)
 | m,i,a,w1,β,him,hS,hE,hsz,hd,hsp=>by
  rw[show(Item.code L50a)=Item.code (sub B50 [1,0,1,0,0]) from rfl]
  simp only[B50,sub,f50,↓reduceIte,zG]
  refine aF0 (fun b cs=>step_seq) (aF0 (fun b cs=>step_seq) (cE0 (nt:=45) dU0 dQ0 eW0 (env':=[(1,.c (.ptr 0 0)),(2,iV i),(8,bV (decide (i<n)))]) (loc':=cQ0 a0 b0 s0 (.slice ad n cap) l0) ?_ hsz hd hS hE ?_))
  ·simp only[dM0,goC,eJ0,cQ0,iV,bV]
   simp only[zS,zD,aB0,aA0,zT33,zT30,zT36,zT3,lenA,lt51,simprocAttr]
   exact aD0 rfl (aD0 rfl (aD0 rfl (bR0 _)))
  intro a2 w2 β2 hb2
  obtain⟨hS2,hE2,st2,sz2,d2⟩:=hb2
  have hsp2:=hsp.st hM st2 (cG0 hS)
  by_cases h:i<n
  ·cases m with
   | zero=>omega
   | succ m=>
   have h0:(0:Int)≤i:=by omega
   have hi:(i:Int)<n:=by omega
   obtain⟨b,o,rfl⟩:∃ b o,ad=some ⟨b,o,none⟩:=by
    rcases hv with⟨a',c',e⟩ | ⟨b,o,n',cap',vals,ty,e,_⟩
    ·cases e;omega
    ·cases e;exact⟨_,_,rfl⟩
   refine dS0 (t:=true) hE2 (by rw[decide_eq_true h]at *;rfl) ?_
   simp only[if_true]
   refine aF0 (fun b cs=>step_skip) (aF0 (fun b cs=>step_seq) (aF0 (fun b cs=>step_block) (oR0 dU0 dQ0 4 [4,5] rfl rfl (sz2.trans hsz) hS2 hE2 ?_)))
   simp only[lG0,cQ0,iV,bV,List.take_succ_cons,List.take_zero,zS,zD,aB0,aA0,zT33,zT30,zT36,zT3,h0,hi,Int.toNat_natCast,simprocAttr]
   intro a3 w3 β3 hb3
   obtain⟨hS3,hE3,st3,sz3,d3⟩:=hb3
   have hsp3:=hsp2.st hM st3 (cG0 hS2)
   have hM3:∀ b,M b→b<w3.heap.size:=fun b hb=>Nat.lt_of_lt_of_le (hM b hb) hsp3.size
   have hsl:Sl M w3 2 (isLev M w3) (.slice (some ⟨b,o,none⟩) n cap):=Sl.mono (R:=isLev M w) (R':=isLev M w3) hsp3 (fun _ _ _ a b=>isLev.mono hsp3 a b) hv
   obtain⟨vals,ty,hm,hb3,hle,hel⟩:∃ vals ty,M b∧w3.heap[b]? = some (.cells vals ty (0,0))∧o+n*2≤vals.size∧∀ i j,i<n→j<2→∃ x,vals[o+i*2+j]? = some x∧isLev M w3 j x:=by
    rcases hsl with⟨a',c',e⟩ | ⟨b,o,n',cap',vals,ty,e,_,hm,hb,hle,hel⟩
    ·cases e;omega
    ·cases e;exact⟨vals,ty,hm,hb,hle,hel⟩
   obtain⟨x0,q0,r0⟩:=hel i 0 h (by omega)
   obtain⟨x1,q1,r1⟩:=hel i 1 h (by omega)
   have r0':isInt x0:=r0
   have r1':Sl M w3 2 isLV x1:=r1
   have c0:cellB x0=true:=by obtain⟨z,rfl⟩:=r0';rfl
   have c1:cellB x1=true:=by rcases r1' with⟨_,_,rfl⟩ | ⟨_,_,_,_,_,_,rfl,_⟩ <;> rfl
   have hp3:a3.eval (.tmp 14) = .pointer (some ⟨b,o+i*2,none⟩):=(rv_v (iO0 hE3 (.tmp 14))).1
   rw[wpOps_cons]
   refine sN0 (w:=w3) (F:=fun b=>b<w.heap.size) (β:=β3) (look:=lk (cQ0 a0 b0 s0 (.slice (some ⟨b,o,none⟩) n cap) l0)) (xs:=[x0,x1]) (v:= .agg [.d (.v x0),.d (.v x1)]) (d:=some 15) rfl rfl rfl rfl hp3 (At.two hb3 q0 q1) (fun y hy=> ?_) ?_ fun y hy=> ?_
   ·have:y=x0∨y=x1:=by simpa using hy
    rcases this with rfl | rfl
    ·exact c0
    ·exact c1
   ·simp only[List.map_cons,List.map_nil,cutC,zT36];rfl
   have hy':y = .agg #[x0,x1]:=oT0 (xs:=[x0,x1]) hy
   subst hy'
   have hE4:=hE3.put (dst:=some 15) (x:= .agg #[x0,x1]) (v:= .c .any) trivial (by rw[hC0,sz3,sz2,hsz];rfl)
   have hev:((a3.put (some 15) (.agg #[x0,x1])).eval (.tmp 15)) = .agg #[x0,x1]:=by
    show(a3.put (some 15) (.agg #[x0,x1])).tmps.getD 15 undef=_
    simp[Act.put,Array.getD_eq_getD_getElem?,sz3,sz2,hsz]
   rw[wpOps_cons]
   refine sM0 dU0 (f:=51) (args:= #[.tmp 15]) (vals:= #[.agg #[x0,x1]]) (d:=some 16) rfl rfl rfl rfl (by simp only[List.map_toArray,List.map_cons,List.map_nil,hev]) zN0 (jA1 hM3 hL hS3.laid.1 c0 r1') fun e w5 he=> ?_
   obtain⟨⟨u,rfl⟩,hs5⟩:=he
   refine⟨u,rfl,?_⟩
   obtain⟨hS5,hR5⟩:=hS3.sp noG hs5 hM hL
   have hE5:EnvR w5 (fun b=>b<w.heap.size) β3 _ (a3.put (some 15) (.agg #[x0,x1])).tmps _:=fun t=>hR5 _ _ (hE4 t)
   have hE6:=hE5.put (dst:=some 16) (x:=u) (v:= .c .any) trivial (by rw[hC0,bP0,sz3,sz2,hsz];rfl)
   have hsp5:=hsp3.trans hs5
   show Reach _ _ ((a3.put (some 15) (.agg #[x0,x1])).put (some 16) u) _ _
   refine aF0 (fun b cs=>step_inBlock) (cE0 (nt:=45) dU0 dQ0 eW0 (env':=[(1,.c (.ptr 0 0)),(2,iV (wr ((i:Int)+1)))]) (loc':=cQ0 a0 b0 s0 (.slice (some ⟨b,o,none⟩) n cap) l0) ?_ (by rw[bP0,bP0];exact sz3.trans (sz2.trans hsz)) (by rw[bG0,bG0];exact d3.trans (d2.trans hd)) hS5 hE6 ?_)
   ·simp only[dM0,goC,eJ0,cQ0,iV,bV,putO,pt]
    simp only[zS,zD,aB0,aA0,zT33,zT30,zT36,zT3,simprocAttr]
    exact aD0 rfl (aD0 rfl (bR0 _))
   intro a7 w7 β7 hb7
   obtain⟨hS7,hE7,st7,sz7,d7⟩:=hb7
   rw[wH1 hi (by omega)]at hE7
   refine aF0 (fun b cs=>step_inLoop) ?_
   exact gV1 hM hL hn hv hk m (i+1) a7 w7 β7 (by omega) hS7 hE7 (sz7.trans (by rw[bP0,bP0];exact sz3.trans (sz2.trans hsz))) (d7.trans (by rw[bG0,bG0];exact d3.trans (d2.trans hd))) (hsp5.st hM st7 (cG0 hS5))
  ·refine dS0 (t:=false) hE2 (by rw[decide_eq_false h]at *;rfl) ?_
   simp only[Bool.false_eq_true,if_false]
   refine aF0 (fun b cs=>step_exit (k':=[.code K50]) rfl) ?_
   exact hk a2 w2 β2 hS2 (hE2.sub (aD0 rfl (bR0 _))) (sz2.trans hsz) (d2.trans hd) hsp2
end
section
open Go
noncomputable def R50 : Code:=sub B50 [1,1,1,0,0,1,0,0,1]
noncomputable def O50 : Array Oper:=match R50 with | .region _ ops _=>ops | _=> #[]
def bB1 : ByteArray:=⟨#[115,112,111,105,108,116]⟩
def pV (b o:Nat):V:= .c (.d (.v (.pointer (some ⟨b,o,none⟩))))
def E9 (k:Nat)(lv:Value)(b o:Nat):Env:=[(1,.c (.ptr 0 0)),(3,iV k),(30,.c (.ptr 0 4)),(31,.c (.d (.v lv))),(32,iV k),(33,.c (.ptr 0 4)),(34,.c (.d (.v lv))),(35,iV k),(36,.c (.ptr 0 4)),(37,.c (.d (.v lv))),(38,iV k),(39,pV b (o+k*5)),(40,pV b (o+k*5+0)),(41,pV b (o+k*5)),(42,pV b (o+k*5+1)),(43,pV b (o+k*5)),(44,pV b (o+k*5+2))]
theorem ops50 (a0 b0 s0 u0 lv:Value){n cap b o k:Nat} (hlv:lv = .slice (some ⟨b,o,none⟩) n cap){vals:Array Value} (h0:(0:Int)≤k)(hi:(k:Int)<n)(hle:o+n*5≤vals.size)
  (q0:∃ y,vals[o+k*5+0+0]? = some y∧Like y (.int .i64 (-7))) (q1:∃ y,vals[o+k*5+1+0]? = some y∧Like y (.int .i64 (-7))) (q2:∃ y,vals[o+k*5+2+0]? = some y∧Like y (.string bB1)) (hle2:o+k*5+5≤vals.size):∀ (i:Nat) (o':Oper),O50[i]? = some o'→o'.guard=none∧(PureR prog rec0 (cQ0 a0 b0 s0 u0 lv) [1,3] (E9 k lv b o) 45 O50 o'∨oU1 prog [1,3] (E9 k lv b o) O50 b vals o')
 | 0,_,ho=>by
  obtain rfl:=Option.some.inj ho
  refine⟨rfl,.inl ⟨30,rfl,by decide,fun ρ hρ=>⟨[],?_⟩⟩⟩
  have e1:ρ (.tmp 1)=gt (E9 k lv b o) 1:=hρ 1 (by kernel_rfl)
  rw[show gt (E9 k lv b o) 1 = .c (.ptr 0 0) from rfl]at e1
  rw[show gt (E9 k lv b o) 30 = .c (.ptr 0 4) from rfl]
  change opA _ _ _ _ _ (Op.fieldAddr 33 (.tmp 1) 4)=_
  simp only[zS,zD,aB0,aA0,zT33,zT31,zT3,zT9,cQ0,pV,iV,hlv,h0,hi,Int.toNat_natCast,e1,simprocAttr]
  try rfl
 | 1,_,ho=>by
  obtain rfl:=Option.some.inj ho
  refine⟨rfl,.inl ⟨31,rfl,by decide,fun ρ hρ=>⟨[0],?_⟩⟩⟩
  have e30:ρ (.tmp 30)=gt (E9 k lv b o) 30:=hρ 30 (by kernel_rfl)
  rw[show gt (E9 k lv b o) 30 = .c (.ptr 0 4) from rfl]at e30
  rw[show gt (E9 k lv b o) 31 = .c (.d (.v lv)) from rfl]
  change opA _ _ _ _ _ (Op.load 31 (.tmp 30))=_
  simp only[zS,zD,aB0,aA0,zT33,zT31,zT3,zT9,cQ0,pV,iV,hlv,h0,hi,Int.toNat_natCast,e30,simprocAttr]
  try rfl
 | 2,_,ho=>by
  obtain rfl:=Option.some.inj ho
  refine⟨rfl,.inl ⟨32,rfl,by decide,fun ρ hρ=>⟨[],?_⟩⟩⟩
  have e3:ρ (.tmp 3)=gt (E9 k lv b o) 3:=hρ 3 (by kernel_rfl)
  rw[show gt (E9 k lv b o) 3=iV k from rfl]at e3
  rw[show gt (E9 k lv b o) 32=iV k from rfl]
  change opA _ _ _ _ _ (Op.move (.tmp 3))=_
  simp only[zS,zD,aB0,aA0,zT33,zT31,zT3,zT9,cQ0,pV,iV,hlv,h0,hi,Int.toNat_natCast,e3,simprocAttr]
  try rfl
 | 3,_,ho=>by
  obtain rfl:=Option.some.inj ho
  refine⟨rfl,.inl ⟨33,rfl,by decide,fun ρ hρ=>⟨[],?_⟩⟩⟩
  have e1:ρ (.tmp 1)=gt (E9 k lv b o) 1:=hρ 1 (by kernel_rfl)
  rw[show gt (E9 k lv b o) 1 = .c (.ptr 0 0) from rfl]at e1
  rw[show gt (E9 k lv b o) 33 = .c (.ptr 0 4) from rfl]
  change opA _ _ _ _ _ (Op.fieldAddr 33 (.tmp 1) 4)=_
  simp only[zS,zD,aB0,aA0,zT33,zT31,zT3,zT9,cQ0,pV,iV,hlv,h0,hi,Int.toNat_natCast,e1,simprocAttr]
  try rfl
 | 4,_,ho=>by
  obtain rfl:=Option.some.inj ho
  refine⟨rfl,.inl ⟨34,rfl,by decide,fun ρ hρ=>⟨[0],?_⟩⟩⟩
  have e33:ρ (.tmp 33)=gt (E9 k lv b o) 33:=hρ 33 (by kernel_rfl)
  rw[show gt (E9 k lv b o) 33 = .c (.ptr 0 4) from rfl]at e33
  rw[show gt (E9 k lv b o) 34 = .c (.d (.v lv)) from rfl]
  change opA _ _ _ _ _ (Op.load 31 (.tmp 33))=_
  simp only[zS,zD,aB0,aA0,zT33,zT31,zT3,zT9,cQ0,pV,iV,hlv,h0,hi,Int.toNat_natCast,e33,simprocAttr]
  try rfl
 | 5,_,ho=>by
  obtain rfl:=Option.some.inj ho
  refine⟨rfl,.inl ⟨35,rfl,by decide,fun ρ hρ=>⟨[],?_⟩⟩⟩
  have e3:ρ (.tmp 3)=gt (E9 k lv b o) 3:=hρ 3 (by kernel_rfl)
  rw[show gt (E9 k lv b o) 3=iV k from rfl]at e3
  rw[show gt (E9 k lv b o) 35=iV k from rfl]
  change opA _ _ _ _ _ (Op.move (.tmp 3))=_
  simp only[zS,zD,aB0,aA0,zT33,zT31,zT3,zT9,cQ0,pV,iV,hlv,h0,hi,Int.toNat_natCast,e3,simprocAttr]
  try rfl
 | 6,_,ho=>by
  obtain rfl:=Option.some.inj ho
  refine⟨rfl,.inl ⟨36,rfl,by decide,fun ρ hρ=>⟨[],?_⟩⟩⟩
  have e1:ρ (.tmp 1)=gt (E9 k lv b o) 1:=hρ 1 (by kernel_rfl)
  rw[show gt (E9 k lv b o) 1 = .c (.ptr 0 0) from rfl]at e1
  rw[show gt (E9 k lv b o) 36 = .c (.ptr 0 4) from rfl]
  change opA _ _ _ _ _ (Op.fieldAddr 33 (.tmp 1) 4)=_
  simp only[zS,zD,aB0,aA0,zT33,zT31,zT3,zT9,cQ0,pV,iV,hlv,h0,hi,Int.toNat_natCast,e1,simprocAttr]
  try rfl
 | 7,_,ho=>by
  obtain rfl:=Option.some.inj ho
  refine⟨rfl,.inl ⟨37,rfl,by decide,fun ρ hρ=>⟨[0],?_⟩⟩⟩
  have e36:ρ (.tmp 36)=gt (E9 k lv b o) 36:=hρ 36 (by kernel_rfl)
  rw[show gt (E9 k lv b o) 36 = .c (.ptr 0 4) from rfl]at e36
  rw[show gt (E9 k lv b o) 37 = .c (.d (.v lv)) from rfl]
  change opA _ _ _ _ _ (Op.load 31 (.tmp 36))=_
  simp only[zS,zD,aB0,aA0,zT33,zT31,zT3,zT9,cQ0,pV,iV,hlv,h0,hi,Int.toNat_natCast,e36,simprocAttr]
  try rfl
 | 8,_,ho=>by
  obtain rfl:=Option.some.inj ho
  refine⟨rfl,.inl ⟨38,rfl,by decide,fun ρ hρ=>⟨[],?_⟩⟩⟩
  have e3:ρ (.tmp 3)=gt (E9 k lv b o) 3:=hρ 3 (by kernel_rfl)
  rw[show gt (E9 k lv b o) 3=iV k from rfl]at e3
  rw[show gt (E9 k lv b o) 38=iV k from rfl]
  change opA _ _ _ _ _ (Op.move (.tmp 3))=_
  simp only[zS,zD,aB0,aA0,zT33,zT31,zT3,zT9,cQ0,pV,iV,hlv,h0,hi,Int.toNat_natCast,e3,simprocAttr]
  try rfl
 | 9,_,ho=>by
  obtain rfl:=Option.some.inj ho
  refine⟨rfl,.inl ⟨39,rfl,by decide,fun ρ hρ=>⟨[],?_⟩⟩⟩
  have e31:ρ (.tmp 31)=gt (E9 k lv b o) 31:=hρ 31 (by kernel_rfl)
  rw[show gt (E9 k lv b o) 31 = .c (.d (.v lv)) from rfl]at e31
  have e32:ρ (.tmp 32)=gt (E9 k lv b o) 32:=hρ 32 (by kernel_rfl)
  rw[show gt (E9 k lv b o) 32=iV k from rfl]at e32
  rw[show gt (E9 k lv b o) 39=pV b (o+k*5) from rfl]
  change opA _ _ _ _ _ (Op.indexAddr 31 (.tmp 31) (.tmp 32))=_
  simp only[zS,zD,aB0,aA0,zT33,zT31,zT3,zT9,cQ0,pV,iV,hlv,h0,hi,Int.toNat_natCast,e31,e32,simprocAttr]
  try rfl
 | 10,_,ho=>by
  obtain rfl:=Option.some.inj ho
  refine⟨rfl,.inl ⟨40,rfl,by decide,fun ρ hρ=>⟨[],?_⟩⟩⟩
  have e39:ρ (.tmp 39)=gt (E9 k lv b o) 39:=hρ 39 (by kernel_rfl)
  rw[show gt (E9 k lv b o) 39=pV b (o+k*5) from rfl]at e39
  rw[show gt (E9 k lv b o) 40=pV b (o+k*5+0) from rfl]
  change opA _ _ _ _ _ (Op.fieldAddr 33 (.tmp 39) 0)=_
  simp only[zS,zD,aB0,aA0,zT33,zT31,zT3,zT9,cQ0,pV,iV,hlv,h0,hi,Int.toNat_natCast,e39,simprocAttr]
  try rfl
 | 11,_,ho=>by
  obtain rfl:=Option.some.inj ho
  refine⟨rfl,.inr ⟨rfl,40,o+k*5+0,3,.int .i64 (-7),1,by kernel_rfl,rfl,rfl,yW0,rfl,by omega,fun y hy=> ?_,fun j x hj=> ?_⟩⟩
  ·have hy2:y∈([.int .i64 (-7)]:List Value):=hy
   have:y = .int .i64 (-7):=by simpa using hy2
   subst this;rfl
  ·have hj2:j<1:=cT0 hj
   have hj0:j=0:=by omega
   subst hj0
   cases hj
   exact q0
 | 12,_,ho=>by
  obtain rfl:=Option.some.inj ho
  refine⟨rfl,.inl ⟨41,rfl,by decide,fun ρ hρ=>⟨[],?_⟩⟩⟩
  have e34:ρ (.tmp 34)=gt (E9 k lv b o) 34:=hρ 34 (by kernel_rfl)
  rw[show gt (E9 k lv b o) 34 = .c (.d (.v lv)) from rfl]at e34
  have e35:ρ (.tmp 35)=gt (E9 k lv b o) 35:=hρ 35 (by kernel_rfl)
  rw[show gt (E9 k lv b o) 35=iV k from rfl]at e35
  rw[show gt (E9 k lv b o) 41=pV b (o+k*5) from rfl]
  change opA _ _ _ _ _ (Op.indexAddr 31 (.tmp 34) (.tmp 35))=_
  simp only[zS,zD,aB0,aA0,zT33,zT31,zT3,zT9,cQ0,pV,iV,hlv,h0,hi,Int.toNat_natCast,e34,e35,simprocAttr]
  try rfl
 | 13,_,ho=>by
  obtain rfl:=Option.some.inj ho
  refine⟨rfl,.inl ⟨42,rfl,by decide,fun ρ hρ=>⟨[],?_⟩⟩⟩
  have e41:ρ (.tmp 41)=gt (E9 k lv b o) 41:=hρ 41 (by kernel_rfl)
  rw[show gt (E9 k lv b o) 41=pV b (o+k*5) from rfl]at e41
  rw[show gt (E9 k lv b o) 42=pV b (o+k*5+1) from rfl]
  change opA _ _ _ _ _ (Op.fieldAddr 33 (.tmp 41) 1)=_
  simp only[zS,zD,aB0,aA0,zT33,zT31,zT3,zT9,cQ0,pV,iV,hlv,h0,hi,Int.toNat_natCast,e41,simprocAttr]
  try rfl
 | 14,_,ho=>by
  obtain rfl:=Option.some.inj ho
  refine⟨rfl,.inr ⟨rfl,42,o+k*5+1,3,.int .i64 (-7),1,by kernel_rfl,rfl,rfl,yW0,rfl,by omega,fun y hy=> ?_,fun j x hj=> ?_⟩⟩
  ·have hy2:y∈([.int .i64 (-7)]:List Value):=hy
   have:y = .int .i64 (-7):=by simpa using hy2
   subst this;rfl
  ·have hj2:j<1:=cT0 hj
   have hj0:j=0:=by omega
   subst hj0
   cases hj
   exact q1
 | 15,_,ho=>by
  obtain rfl:=Option.some.inj ho
  refine⟨rfl,.inl ⟨43,rfl,by decide,fun ρ hρ=>⟨[],?_⟩⟩⟩
  have e37:ρ (.tmp 37)=gt (E9 k lv b o) 37:=hρ 37 (by kernel_rfl)
  rw[show gt (E9 k lv b o) 37 = .c (.d (.v lv)) from rfl]at e37
  have e38:ρ (.tmp 38)=gt (E9 k lv b o) 38:=hρ 38 (by kernel_rfl)
  rw[show gt (E9 k lv b o) 38=iV k from rfl]at e38
  rw[show gt (E9 k lv b o) 43=pV b (o+k*5) from rfl]
  change opA _ _ _ _ _ (Op.indexAddr 31 (.tmp 37) (.tmp 38))=_
  simp only[zS,zD,aB0,aA0,zT33,zT31,zT3,zT9,cQ0,pV,iV,hlv,h0,hi,Int.toNat_natCast,e37,e38,simprocAttr]
  try rfl
 | 16,_,ho=>by
  obtain rfl:=Option.some.inj ho
  refine⟨rfl,.inl ⟨44,rfl,by decide,fun ρ hρ=>⟨[],?_⟩⟩⟩
  have e43:ρ (.tmp 43)=gt (E9 k lv b o) 43:=hρ 43 (by kernel_rfl)
  rw[show gt (E9 k lv b o) 43=pV b (o+k*5) from rfl]at e43
  rw[show gt (E9 k lv b o) 44=pV b (o+k*5+2) from rfl]
  change opA _ _ _ _ _ (Op.fieldAddr 33 (.tmp 43) 2)=_
  simp only[zS,zD,aB0,aA0,zT33,zT31,zT3,zT9,cQ0,pV,iV,hlv,h0,hi,Int.toNat_natCast,e43,simprocAttr]
  try rfl
 | 17,_,ho=>by
  obtain rfl:=Option.some.inj ho
  refine⟨rfl,.inr ⟨rfl,44,o+k*5+2,9,.string bB1,1,by kernel_rfl,rfl,rfl,iX1,rfl,by omega,fun y hy=> ?_,fun j x hj=> ?_⟩⟩
  ·have hy2:y∈([.string bB1]:List Value):=hy
   have:y = .string bB1:=by simpa using hy2
   subst this;rfl
  ·have hj2:j<1:=cT0 hj
   have hj0:j=0:=by omega
   subst hj0
   cases hj
   exact q2
 | n+18,_,ho=>by
  exfalso
  have:O50.size=18:=by kernel_rfl
  rw[Array.getElem?_eq_none (by omega)]at ho
  cases ho
end
section
open Go
theorem iG1 {P:Program} (hMix:P.follows .mixedOrders=true){n:Nat}{ops:Array Oper}{k:List Item}{a:Act}{w:World}{Post:FinK→Act→World→Prop}
  (h:wpAny P .any ops (Qr P k Post) ops.size (Array.replicate ops.size false) a { w with drawn:=w.drawn+1 }):Reach P (.code (.region n ops true)::k) a w Post:=by
 intro b cs
 have this:wpOps P ops (Qr P k Post) (Region.schedule (P.follows .mixedOrders) ops (w.tape w.drawn (.order b.fn n))) a { w with drawn:=w.drawn+1 }:=by
  simp only[Region.schedule,hMix,Bool.true_or,if_true]
  exact wpAny_sound ops.size _ _ a _ h
 obtain⟨fk,a',w',todo,p1,p2⟩:=gI0 this b cs
 exact⟨fk,a',w',todo,p1,.head step_region_draw p2⟩
theorem At.five {w:World}{b o:Nat}{vals:Array Value}{ty:TypeId}{x0 x1 x2 x3 x4:Value} (hb:w.heap[b]? = some (.cells vals ty (0,0)))(h0:vals[o]? = some x0)(h1:vals[o+1]? = some x1)(h2:vals[o+2]? = some x2)(h3:vals[o+3]? = some x3)(h4:vals[o+4]? = some x4):At w b o [x0,x1,x2,x3,x4]:=by
 intro j z hj
 have hj2:j<5:=cT0 hj
 simp only[World.cell?,hb]
 match j,hj with
 | 0,hj=>cases hj;simpa using h0
 | 1,hj=>cases hj;simpa using h1
 | 2,hj=>cases hj;simpa using h2
 | 3,hj=>cases hj;simpa using h3
 | 4,hj=>cases hj;simpa using h4
theorem sK1 {x y:Nat}{v u:V}{t:Nat}:gt [(x,v),(y,u)] t=if x=t then v else if y=t then u else .c .any:=rfl
def P50 (N:Nat):Prop:=∀ (w:World)(M:Nat→Prop),(∀ b,M b→b<w.heap.size)→¬ M dI0→w.cell? ⟨dI0,0,none⟩=some lZ0→∀ (a b s u l:Value),isInt a→isInt b→isStr s→Sl M w 2 (isLev M w) u→isTm M w N 4 l →
 Calls prog 50 #[.agg #[a,b,s,u,l]] w fun e w'=>(∃ v,e = .returned v)∧Sp M w w'
theorem Sl.cellB {M:Nat→Prop}{w:World}{k:Nat}{R:Nat→Value→Prop}{x:Value} (h:Sl M w k R x):cellB x=true:=by
 rcases h with⟨_,_,rfl⟩ | ⟨_,_,_,_,_,_,rfl,_⟩ <;> rfl
theorem isTm4 {M:Nat→Prop}{w:World}{N:Nat}{x:Value} (h:isTm M w N 4 x):∃ N',N=N'+1∧Sl M w 5 (isTm M w N') x:=by
 cases N with
 | zero=>exact h.elim
 | succ N=>exact⟨N,rfl,h⟩
theorem gW1 {w:World}{M:Nat→Prop} (hM:∀ b,M b→b<w.heap.size)(hL:¬ M dI0){N:Nat} (hIH:P50 N){a0 b0 s0 u0:Value}{ad:Option Addr}{n cap:Nat} (hn:n<2^50)(hv:Sl M w 5 (isTm M w N) (.slice ad n cap)) :
  ∀ (m i:Nat) (a:Act) (w1:World) (β:Int→Nat),i+m=n →
  Sim w1 (fun b=>b<w.heap.size) β (lk (cQ0 a0 b0 s0 u0 (.slice ad n cap)))→EnvR w1 (fun b=>b<w.heap.size) β (lk (cQ0 a0 b0 s0 u0 (.slice ad n cap))) a.tmps [(1,.c (.ptr 0 0)),(3,iV i)]→a.tmps.size=45→a.defers=[]→Sp M w w1 →
  Reach prog [.code L50b,.inLoop L50b,.inBlock 2] a w1 (bK1 f50 M w)
 | m,i,a,w1,β,him,hS,hE,hsz,hd,hsp=>by
  rw[show(Item.code L50b)=Item.code (sub B50 [1,1,1,0,0]) from rfl]
  simp only[B50,sub,f50,↓reduceIte,zG]
  refine aF0 (fun b cs=>step_seq) (aF0 (fun b cs=>step_seq) (cE0 (nt:=45) dU0 dQ0 eW0 (env':=[(1,.c (.ptr 0 0)),(3,iV i),(21,bV (decide (i<n)))]) (loc':=cQ0 a0 b0 s0 u0 (.slice ad n cap)) ?_ hsz hd hS hE ?_))
  ·simp only[dM0,goC,eJ0,cQ0,iV,bV]
   simp only[zS,zD,aB0,aA0,zT33,zT31,zT36,zT3,lenA,lt51,simprocAttr]
   exact aD0 rfl (aD0 rfl (aD0 rfl (bR0 _)))
  intro a2 w2 β2 hb2
  obtain⟨hS2,hE2,st2,sz2,d2⟩:=hb2
  have hsp2:=hsp.st hM st2 (cG0 hS)
  by_cases h:i<n
  ·cases m with
   | zero=>omega
   | succ m=>
   have h0:(0:Int)≤i:=by omega
   have hi:(i:Int)<n:=by omega
   obtain⟨b,o,vals0,ty0,rfl,hm,hb0,hle0,hel0⟩:∃ b o vals ty,ad=some ⟨b,o,none⟩∧M b∧w.heap[b]? = some (.cells vals ty (0,0))∧o+n*5≤vals.size∧∀ i j,i<n→j<5→∃ x,vals[o+i*5+j]? = some x∧isTm M w N j x:=by
    rcases hv with⟨a',c',e⟩ | ⟨b,o,n',cap',vals,ty,e,_,hm,hb,hle,hel⟩
    ·cases e;omega
    ·cases e;exact⟨b,o,vals,ty,rfl,hm,hb,hle,hel⟩
   refine dS0 (t:=true) hE2 (by rw[decide_eq_true h]at *;rfl) ?_
   simp only[if_true]
   refine aF0 (fun b cs=>step_skip) (aF0 (fun b cs=>step_seq) (aF0 (fun b cs=>step_block) (aF0 (fun b cs=>step_seq) (oR0 dU0 dQ0 4 [4,5] rfl rfl (sz2.trans hsz) hS2 hE2 ?_))))
   simp only[lG0,cQ0,iV,bV,List.take_succ_cons,List.take_zero,zS,zD,aB0,aA0,zT33,zT31,zT36,zT3,h0,hi,Int.toNat_natCast,simprocAttr]
   intro a3 w3 β3 hb3
   obtain⟨hS3,hE3,st3,sz3,d3⟩:=hb3
   have hsp3:=hsp2.st hM st3 (cG0 hS2)
   have hM3:∀ b,M b→b<w3.heap.size:=fun b hb=>Nat.lt_of_lt_of_le (hM b hb) hsp3.size
   have hsl:Sl M w3 5 (isTm M w3 N) (.slice (some ⟨b,o,none⟩) n cap):=Sl.mono (R:=isTm M w N) (R':=isTm M w3 N) hsp3 (fun j x x' p q=>isTm.mono hsp3 N j x x' p q) hv
   obtain⟨vals,ty,hb3,hle,hel⟩:∃ vals ty,w3.heap[b]? = some (.cells vals ty (0,0))∧o+n*5≤vals.size∧∀ i j,i<n→j<5→∃ x,vals[o+i*5+j]? = some x∧isTm M w3 N j x:=by
    rcases hsl with⟨a',c',e⟩ | ⟨b,o,n',cap',vals,ty,e,_,hm,hb,hle,hel⟩
    ·cases e;omega
    ·cases e;exact⟨vals,ty,hb,hle,hel⟩
   obtain⟨x0,q0,r0⟩:=hel i 0 h (by omega)
   obtain⟨x1,q1,r1⟩:=hel i 1 h (by omega)
   obtain⟨x2,q2,r2⟩:=hel i 2 h (by omega)
   obtain⟨x3,q3,r3⟩:=hel i 3 h (by omega)
   obtain⟨x4,q4,r4⟩:=hel i 4 h (by omega)
   have r0':isInt x0:=by unfold isTm at r0;exact r0
   have r1':isInt x1:=by unfold isTm at r1;exact r1
   have r2':isStr x2:=by unfold isTm at r2;exact r2
   have r3':Sl M w3 2 (isLev M w3) x3:=by unfold isTm at r3;exact r3
   obtain⟨N',_,r4'⟩:=isTm4 r4
   have c0:cellB x0=true:=by obtain⟨z,rfl⟩:=r0';rfl
   have c1:cellB x1=true:=by obtain⟨z,rfl⟩:=r1';rfl
   have c2:cellB x2=true:=by obtain⟨z,rfl⟩:=r2';rfl
   have c3:=r3'.cellB
   have c4:=r4'.cellB
   have hp3:a3.eval (.tmp 27) = .pointer (some ⟨b,o+i*5,none⟩):=(rv_v (iO0 hE3 (.tmp 27))).1
   rw[wpOps_cons]
   refine sN0 (w:=w3) (F:=fun b=>b<w.heap.size) (β:=β3) (look:=lk (cQ0 a0 b0 s0 u0 (.slice (some ⟨b,o,none⟩) n cap))) (xs:=[x0,x1,x2,x3,x4]) (v:= .agg [.d (.v x0),.d (.v x1),.d (.v x2),.d (.v x3),.d (.v x4)]) (d:=some 28) rfl rfl rfl rfl hp3 (At.five hb3 q0 q1 q2 q3 q4) (fun y hy=> ?_) ?_ fun y hy=> ?_
   ·have:y=x0∨y=x1∨y=x2∨y=x3∨y=x4:=by simpa using hy
    rcases this with rfl | rfl | rfl | rfl | rfl
    ·exact c0
    ·exact c1
    ·exact c2
    ·exact c3
    ·exact c4
   ·simp only[List.map_cons,List.map_nil,cutC,zT33];rfl
   have hy':y = .agg #[x0,x1,x2,x3,x4]:=oT0 (xs:=[x0,x1,x2,x3,x4]) hy
   subst hy'
   have hE4:=hE3.put (dst:=some 28) (x:= .agg #[x0,x1,x2,x3,x4]) (v:= .c .any) trivial (by rw[hC0,sz3,sz2,hsz];rfl)
   have hev:((a3.put (some 28) (.agg #[x0,x1,x2,x3,x4])).eval (.tmp 28)) = .agg #[x0,x1,x2,x3,x4]:=by
    show(a3.put (some 28) (.agg #[x0,x1,x2,x3,x4])).tmps.getD 28 undef=_
    simp[Act.put,Array.getD_eq_getD_getElem?,sz3,sz2,hsz]
   rw[wpOps_cons]
   refine sM0 dU0 (f:=50) (args:= #[.tmp 28]) (vals:= #[.agg #[x0,x1,x2,x3,x4]]) (d:=some 29) rfl rfl rfl rfl (by simp only[List.map_toArray,List.map_cons,List.map_nil,hev]) kQ0 (hIH w3 M hM3 hL hS3.laid.1 x0 x1 x2 x3 x4 r0' r1' r2' r3' r4) fun e w5 he=> ?_
   obtain⟨⟨u,rfl⟩,hs5⟩:=he
   refine⟨u,rfl,?_⟩
   obtain⟨hS5,hR5⟩:=hS3.sp noG hs5 hM hL
   have hE5:EnvR w5 (fun b=>b<w.heap.size) β3 _ (a3.put (some 28) (.agg #[x0,x1,x2,x3,x4])).tmps _:=fun t=>hR5 _ _ (hE4 t)
   have hE6:=hE5.put (dst:=some 29) (x:=u) (v:= .c .any) trivial (by rw[hC0,bP0,sz3,sz2,hsz];rfl)
   have hsp5:=hsp3.trans hs5
   have hsz6:((a3.put (some 28) (.agg #[x0,x1,x2,x3,x4])).put (some 29) u).tmps.size=45:=by rw[bP0,bP0];exact sz3.trans (sz2.trans hsz)
   have hd6:((a3.put (some 28) (.agg #[x0,x1,x2,x3,x4])).put (some 29) u).defers=[]:=by rw[bG0,bG0];exact d3.trans (d2.trans hd)
   show Reach _ _ ((a3.put (some 28) (.agg #[x0,x1,x2,x3,x4])).put (some 29) u) _ _
   generalize ((a3.put (some 28) (.agg #[x0,x1,x2,x3,x4])).put (some 29) u)=a6 at hE6 hsz6 hd6 ⊢
   refine iG1 eW0 ?_
   have hfr:=oV0 (w':={ w5 with drawn:=w5.drawn+1 }) hS5 rfl rfl rfl rfl
   obtain⟨hS6,st6⟩:=hfr
   have hE6':=EnvR.mono st6 hE6
   have hsp6:=hsp5.st hM st6 (cG0 hS5)
   obtain⟨y0,z0,t0⟩:=hel0 i 0 h (by omega)
   obtain⟨y1,z1,t1⟩:=hel0 i 1 h (by omega)
   obtain⟨y2,z2,t2⟩:=hel0 i 2 h (by omega)
   have t0':isInt y0:=by unfold isTm at t0;exact t0
   have t1':isInt y1:=by unfold isTm at t1;exact t1
   have t2':isStr y2:=by unfold isTm at t2;exact t2
   obtain⟨p0,rfl⟩:=t0'
   obtain⟨p1,rfl⟩:=t1'
   obtain⟨p2,rfl⟩:=t2'
   refine qX1 dU0 dQ0 noG hM hL hb0 hm (ops50 a0 b0 s0 u0 (.slice (some ⟨b,o,none⟩) n cap) rfl h0 hi hle0 ⟨_,z0,.inl ⟨_,_,_,rfl,rfl⟩⟩ ⟨_,z1,.inl ⟨_,_,_,rfl,rfl⟩⟩ ⟨_,z2,.inr (.inl ⟨_,_,rfl,rfl⟩)⟩ (by omega)) (fun a7 w7 h7=> ?_) _ _ a6 _ (by simp;rfl) (by
    have:∀ l:List Nat,(l.filter fun j=> !(Array.replicate O50.size false).getD j false).length≤l.length:=fun l=>List.length_filter_le _ _
    have h2:=this (List.range O50.size)
    rw[List.length_range]at h2
    exact h2) ⟨β3,hS6,fun s hs=> ?_,hsp6,hsz6,hd6⟩
   ·obtain⟨β7,hS7,hR7,hsp7,hsz7,hd7⟩:=h7
    have hE7:EnvR w7 (fun b=>b<w.heap.size) β7 (lk (cQ0 a0 b0 s0 u0 (.slice (some ⟨b,o,none⟩) n cap))) a7.tmps [(1,.c (.ptr 0 0)),(3,iV i)]:=by
     intro t
     rw[sK1]
     by_cases e1:1=t
     ·subst e1;exact hR7 1 (by simp)
     ·rw[if_neg e1]
      by_cases e3:3=t
      ·subst e3;exact hR7 3 (by simp)
      ·rw[if_neg e3];trivial
    show Reach _ _ a7 w7 _
    refine aF0 (fun b cs=>step_inBlock) (cE0 (nt:=45) dU0 dQ0 eW0 (env':=[(1,.c (.ptr 0 0)),(3,iV (wr ((i:Int)+1)))]) (loc':=cQ0 a0 b0 s0 u0 (.slice (some ⟨b,o,none⟩) n cap)) ?_ hsz7 hd7 hS7 hE7 ?_)
    ·simp only[dM0,goC,eJ0,cQ0,iV,bV]
     simp only[zS,zD,aB0,aA0,zT33,zT31,zT36,zT3,simprocAttr]
     exact aD0 rfl (aD0 rfl (bR0 _))
    intro a8 w8 β8 hb8
    obtain⟨hS8,hE8,st8,sz8,d8⟩:=hb8
    rw[wH1 hi (by omega)]at hE8
    refine aF0 (fun b cs=>step_inLoop) ?_
    exact gW1 hM hL hIH hn hv m (i+1) a8 w8 β8 (by omega) hS8 hE8 (sz8.trans hsz7) (d8.trans hd7) (hsp7.st hM st8 (cG0 hS7))
   ·rcases hs with hs | ⟨j,oj,_,_,hl⟩
    ·have:s=1∨s=3:=by simpa using hs
     rcases this with rfl | rfl
     ·exact hE6' 1
     ·exact hE6' 3
    ·exfalso
     simp only[Array.getD_eq_getD_getElem?,Array.getElem?_replicate]at hl
     split at hl <;> simp at hl
  ·refine dS0 (t:=false) hE2 (by rw[decide_eq_false h]at *;rfl) ?_
   simp only[Bool.false_eq_true,if_false]
   refine aF0 (fun b cs=>step_exit (k':=[]) rfl) (lE0 (fun b cs=>step_end) ?_)
   have hfin:=oE0 (P:=prog) (cf:=⟨45,0,[],false⟩) (out:= .ret [] []) hS2 hE2 (fn:=f50) (by kernel_rfl) (by kernel_rfl)
   obtain⟨vs,os,v,β',h1,h2,h3,h4,h5⟩:=hfin
   exact⟨d2.trans hd,v,h2,⟨_,rfl⟩,hsp2⟩
theorem iZ1 : ∀ N,P50 N
 | 0=>fun w M _ _ _ a b s u l _ _ _ _ h=>h.elim
 | N+1=>fun w M hM hL hl a0 b0 s0 u0 l0 ha hb hs hu hv=>by
  have hv:Sl M w 5 (isTm M w N) l0:=hv
  have ca:cellB a0=true:=by obtain⟨z,rfl⟩:=ha;rfl
  have cb:cellB b0=true:=by obtain⟨z,rfl⟩:=hb;rfl
  have cs:cellB s0=true:=by obtain⟨z,rfl⟩:=hs;rfl
  obtain⟨ad,n,cap,rfl,hn⟩:∃ ad n cap,l0 = .slice ad n cap∧n<2^50:=by
   rcases hv with⟨a,cp,rfl⟩ | ⟨b,o,n,cp,vals,ty,rfl,hn,_⟩
   ·exact⟨_,0,_,rfl,by omega⟩
   ·exact⟨_,_,_,rfl,hn⟩
  obtain⟨ad2,n2,cap2,rfl,hn2⟩:∃ ad n cap,u0 = .slice ad n cap∧n<2^50:=by
   rcases hu with⟨a,cp,rfl⟩ | ⟨b,o,n,cp,vals,ty,rfl,hn,_⟩
   ·exact⟨_,0,_,rfl,by omega⟩
   ·exact⟨_,_,_,rfl,hn⟩
  refine eH0 func50 rfl ?_
  have hS:=iS1 hl
  have hE:=qZ0 (n:=f50.ntmps) (w:=w) (F:=fun b=>b<w.heap.size) (β:=fun _=>0) (objs:=[]) (vals:=[.agg #[a0,b0,s0,.slice ad2 n2 cap2,.slice ad n cap]]) (args:=[.agg [.d (.v a0),.d (.v b0),.d (.v s0),.d (.v (.slice ad2 n2 cap2)),.d (.v (.slice ad n cap))]])
   (.cons ⟨_,rfl,.cons ⟨ca,RepD.v ca⟩ (.cons ⟨cb,RepD.v cb⟩ (.cons ⟨cs,RepD.v cs⟩ (.cons ⟨rfl,RepD.v rfl⟩ (.cons ⟨rfl,RepD.v rfl⟩ .nil))))⟩ .nil)
  generalize ha':({ tmps:= #[.agg #[a0,b0,s0,.slice ad2 n2 cap2,.slice ad n cap]]++Array.replicate (f50.ntmps - (#[.agg #[a0,b0,s0,.slice ad2 n2 cap2,.slice ad n cap]]:Array Value).size) undef,defers:=[] }:Act)=a
  have ht:a.tmps = #[.agg #[a0,b0,s0,.slice ad2 n2 cap2,.slice ad n cap]]++Array.replicate (f50.ntmps - (#[.agg #[a0,b0,s0,.slice ad2 n2 cap2,.slice ad n cap]]:Array Value).size) undef:=by rw[← ha']
  have hd:a.defers=[]:=by rw[← ha']
  have hsz:a.tmps.size=45:=by rw[ht];simp[show f50.ntmps=45 by kernel_rfl]
  have hE':EnvR w (fun b=>b<w.heap.size) (fun _=>0) (lk []) a.tmps [(0,.agg [.d (.v a0),.d (.v b0),.d (.v s0),.d (.v (.slice ad2 n2 cap2)),.d (.v (.slice ad n cap))])]:=by rw[ht];exact hE
  show Reach prog [.code _] a w (bK1 f50 M w)
  refine aF0 (fun b cs=>step_seq) (cE0 (nt:=45) dU0 dQ0 eW0 (env':=[(1,.c (.ptr 0 0))]) (loc':=cQ0 a0 b0 s0 (.slice ad2 n2 cap2) (.slice ad n cap)) ?_ hsz hd hS hE' ?_)
  ·simp only[dM0,goC,eJ0,cQ0,iV,bV]
   simp only[zS,zD,aB0,aA0,zT33,zT31,zT3,simprocAttr]
   exact aD0 rfl (bR0 _)
  intro a2 w2 β2 hb2
  obtain⟨hS2,hE2,st2,sz2,d2⟩:=hb2
  refine aF0 (fun b cs=>step_seq) (aF0 (fun b cs=>step_seq) (cE0 (nt:=45) dU0 dQ0 eW0 (env':=[(1,.c (.ptr 0 0)),(2,iV (0:Nat))]) (loc':=cQ0 a0 b0 s0 (.slice ad2 n2 cap2) (.slice ad n cap)) ?_ (sz2.trans hsz) (d2.trans hd) hS2 hE2 ?_))
  ·simp only[dM0,goC,eJ0,cQ0,iV,bV]
   simp only[zS,zD,aB0,aA0,zT33,zT31,zT3,simprocAttr]
   exact aD0 rfl (aD0 rfl (bR0 _))
  intro a3 w3 β3 hb3
  obtain⟨hS3,hE3,st3,sz3,d3⟩:=hb3
  refine aF0 (fun b cs=>step_block) (aF0 (fun b cs=>step_loop) ?_)
  refine gV1 hM hL hn2 hu (fun a4 w4 β4 hS4 hE4 hsz4 hd4 hsp4=> ?_) n2 0 a3 w3 β3 (by omega) hS3 hE3 (sz3.trans (sz2.trans hsz)) (d3.trans (d2.trans hd)) (((Sp.refl M w).st hM st2 (cG0 hS)).st hM st3 (cG0 hS2))
  rw[show(Item.code K50)=Item.code (sub B50 [1,1]) from rfl]
  simp only[B50,sub,f50,↓reduceIte,zG]
  refine aF0 (fun b cs=>step_seq) (cE0 (nt:=45) dU0 dQ0 eW0 (env':=[(1,.c (.ptr 0 0)),(3,iV (0:Nat))]) (loc':=cQ0 a0 b0 s0 (.slice ad2 n2 cap2) (.slice ad n cap)) ?_ hsz4 hd4 hS4 hE4 ?_)
  ·simp only[dM0,goC,eJ0,cQ0,iV,bV]
   simp only[zS,zD,aB0,aA0,zT33,zT31,zT3,simprocAttr]
   exact aD0 rfl (aD0 rfl (bR0 _))
  intro a5 w5 β5 hb5
  obtain⟨hS5,hE5,st5,sz5,d5⟩:=hb5
  refine aF0 (fun b cs=>step_block) (aF0 (fun b cs=>step_loop) ?_)
  exact gW1 hM hL (iZ1 N) hn hv n 0 a5 w5 β5 (by omega) hS5 hE5 (sz5.trans hsz4) (d5.trans hd4) (hsp4.st hM st5 (cG0 hS4))
end
end Go.Proofs.YteenjodhmppgjaaGreatDoor.Am
