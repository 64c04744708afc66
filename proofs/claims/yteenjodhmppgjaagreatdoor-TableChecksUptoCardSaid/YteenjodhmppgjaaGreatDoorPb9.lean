/- A part of the proof of a card. No conditions. -/
import Derived.Test.YteenjodhmppgjaaGreatDoorPb8
import Derived.Test.YteenjodhmppgjaaGreatDoorPb3
import Derived.Test.YteenjodhmppgjaaGreatDoorPb4
import Derived.Test.YteenjodhmppgjaaGreatDoorPb7
set_option linter.all false
set_option maxHeartbeats 16000000
set_option maxRecDepth 10000
namespace Go.Proofs.YteenjodhmppgjaaGreatDoor.Am
open Go.Proofs.Tryz
section
open Go Go.Sort
theorem zD1 {w:World}{b off q:Nat}{ys:List Int}{vals:Array Value}{ty:TypeId} (hb:w.heap[b]? = some (.cells vals ty (0,0))) :
  (putRow (Value.int .i64) (Sort.ahead w q) b off ys.toArray).heap[b]? = some (.cells (putCells (Value.int .i64) off ys.toArray vals) ty (0,0))∧(∀ i,i≠b→(putRow (Value.int .i64) (Sort.ahead w q) b off ys.toArray).heap[i]? = w.heap[i]?)∧(putRow (Value.int .i64) (Sort.ahead w q) b off ys.toArray).heap.size=w.heap.size:=by
 refine⟨?_,fun i hi=> ?_,by simp⟩
 ·unfold putRow mapBlock
  rw[heap_ahead,Array.getElem?_modify,if_pos rfl,hb]
  rfl
 ·unfold putRow mapBlock
  rw[heap_ahead,Array.getElem?_modify,if_neg (Ne.symm hi)]
theorem lF0 (off:Nat)(ys:List Int)(vals:Array Value):(putCells (Value.int .i64) off ys.toArray vals).size=vals.size:=by simp[putCells]
theorem uY2 {vals:Array Value}{off:Nat}{ys:List Int} (h:off+ys.length≤vals.size){i:Nat}{y:Int} (hy:ys[i]? = some y):(putCells (Value.int .i64) off ys.toArray vals)[off+i]? = some (.int .i64 y):=by
 obtain⟨hi,he⟩:=List.getElem?_eq_some_iff.1 hy
 unfold putCells
 rw[Array.getElem?_mapIdx,Array.getElem?_eq_getElem (by omega),Option.map_some,if_pos ⟨by omega,by simp only[List.size_toArray];omega⟩,show off+i - off=i by omega,getElem!_pos _ i (by simpa using hi)]
 simp[he]
theorem rQ1 {w:World}{N:Nat→Prop}{β:Int→Nat}{sh:Nat→Option Sh}{vals:Array Value}{z:Nat}{zs ys:List Int} (hl:zs.length≤ys.length)(hz:∀ (i:Nat)(y:Int),zs[i]? = some y→ys[i]? = some y)(hs:z+ys.length≤vals.size) :
  ROc w N β sh (putCells (Value.int .i64) z ys.toArray vals) z (.arr 1 (zs.map inD)):=by
 refine⟨by decide,fun l hm=> ?_,?_,fun i l j x hi hj=> ?_⟩
 ·obtain⟨y,_,rfl⟩:=List.mem_map.1 hm;rfl
 ·rw[lF0,List.length_map];omega
 ·rw[List.getElem?_map]at hi
  obtain⟨y,hy,rfl⟩:=Option.map_eq_some_iff.1 hi
  cases j with
  | zero=>
   have hx:some (D.v (.int .i64 y))=some x:=hj
   cases hx
   exact⟨_,by rw[Nat.mul_one,Nat.add_zero];exact uY2 hs (hz i y hy),.v rfl⟩
  | succ j=>
   have hx:(none:Option D)=some x:=hj
   cases hx
theorem yM1 {w:World}{F:Nat→Prop}{β:Int→Nat}{els:List (List D)}{v:Value} (h:RVs w F β (lk [.arr 1 els]) v (.c (.own 0))) :
  ∃ cap e sz,v = .slice (some ⟨β 0,bs β 0,none⟩) els.length cap∧els.length≤cap∧w.shape? (β 0)=some (e,sz)∧bs β 0+cap*1≤sz:=by
 have h':RC w (Nn w F β (lk [.arr 1 els])) β (shL (lk [.arr 1 els])) v (.own 0):=h
 rcases h' with⟨k,n,cap,h1,rfl,h2,e,sz,h3,h4⟩ | ⟨h1,_⟩ | ⟨k,n,cap,h1,_⟩
 ·have:some (Sh.arr 1 els.length)=some (.arr k n):=h1
  cases this
  exact⟨cap,e,sz,rfl,h2,h3,h4⟩
 ·have:some (Sh.arr 1 els.length)=some .gone:=h1
  cases this
 ·have:some (Sh.arr 1 els.length)=some (.stk k n):=h1
  cases this
theorem cR1 {w:World}{F:Nat→Prop}{β:Int→Nat}{zs:List Int} (hS:Sim w F β (lk [.arr 1 (zs.map inD)])) :
  ∃ vals ty,w.heap[β 0]? = some (.cells vals ty (0,0))∧bs β 0+zs.length≤vals.size∧β 0<w.heap.size∧Holds (Value.int .i64) w (β 0) (bs β 0) zs.toArray:=by
 obtain⟨hlt,_,vals,ty,hb,_,_,hz,hc⟩:=hS.live 0 (.arr 1 (zs.map inD)) rfl rfl
 rw[List.length_map,Nat.mul_one]at hz
 have hlt':β 0<w.heap.size:=hlt
 have hb':w.heap[β 0]? = some (.cells vals ty (0,0)):=hb
 refine⟨vals,ty,hb',hz,hlt',fun j hj=> ?_⟩
 have hj':j<zs.length:=by simpa using hj
 obtain⟨v,hv,hr⟩:=hc j (inD zs[j]) 0 (.v (.int .i64 zs[j])) (by simp[hj']) rfl
 have e:=lA2 hr
 subst e
 rw[Nat.mul_one,Nat.add_zero]at hv
 have hv':vals[bs β 0+j]? = some (.int .i64 zs[j]):=hv
 have hx:zs.toArray[j]! = zs[j]:=by rw[getElem!_pos _ j hj];simp
 constructor
 ·rw[hx];simp[World.cell?,hb',hv']
 ·simp[World.frozen?,hb']
def soL (l:List Int):List Int:=l.mergeSort fun x y=>decide (x≤y)
theorem kA1 (l:List Int):(soL l).length=l.length:=List.length_mergeSort l
theorem ok249 (zs:List Int)(hl:zs.length<2^30):dZ0 prog 249 [.c (.own 0)] [.arr 1 (zs.map inD)] (.ret [] [.arr 1 ((soL zs).map inD)]):=by
 intro w F β vals hS hall
 cases hall with
 | cons h t=>
  cases t
  obtain⟨cap,e,sz,rfl,hcap,_,_⟩:=yM1 h
  obtain⟨cells,ty,hb,hsz,hlt,hH⟩:=cR1 hS
  rw[List.length_map]at hcap ⊢
  refine(Any.slices_Sort_int L249 (β 0) (bs β 0) cap zs w hH hlt (by omega)).mono ?_
  rintro e w' ⟨rfl,n,os,rfl⟩
  obtain⟨f1,f2,f3⟩:=zD1 (q:=n) (off:=bs β 0) (ys:=soL zs) hb
  have hsl:(soL zs).length=zs.length:=kA1 zs
  have g:=jX1 hS (id:=0) (o:= .arr 1 (zs.map inD)) (o':= .arr 1 ((soL zs).map inD)) rfl rfl rfl (by simp[shO,hsl]) hb f1 (lF0 _ _ _) f3 f2 rfl rfl rfl
   (rQ1 (Nat.le_refl _) (fun _ _ h=>h) (by omega))
  have el:upd1 (lk [.arr 1 (zs.map inD)]) 0 (.arr 1 ((soL zs).map inD))=lk [.arr 1 ((soL zs).map inD)]:=by rw[← zZ0];rfl
  rw[el]at g
  obtain⟨g1,g2⟩:=g
  obtain⟨k1,k2⟩:=qX0 (w':=grow (putRow (Value.int .i64) (Sort.ahead w n) (β 0) (bs β 0) (soL zs).toArray) os) g1 rfl rfl rfl (by simp) (fun b hb=>by simp only[grow];rw[Array.getElem?_append,if_pos hb])
  exact⟨β,.tuple #[],rfl,.inr ⟨by decide,#[],rfl,.nil⟩,k1,(g2.trans k2).some⟩
theorem cX1 : hT0 prog 249:=⟨f249,func249,by kernel_rfl⟩
theorem nil249 : run prog E0 (.call 249 [dV nilD] [])=some (.ret [] []):=(cY0 _ _ _ _).2 ⟨400,by kernel_rfl⟩
def coL (l:List Int):List Int:=Lib.compact l
theorem sN1 (l:List Int):(coL l).length≤l.length:=by
 unfold coL Lib.compact Lib.compactUpTo
 rw[List.length_map]
 refine Nat.le_trans (List.length_filter_le _ _) ?_
 rw[List.length_range];exact Nat.le_refl _
theorem ok250 (zs:List Int)(hl:zs.length<2^30):dZ0 prog 250 [.c (.own 0)] [.arr 1 (zs.map inD)] (.ret [.c (.own 1)] [.gone,.arr 1 ((coL zs).map inD)]):=by
 intro w F β vals hS hall
 cases hall with
 | cons h t=>
  cases t
  obtain⟨cap,e,sz,rfl,hcap,hsh,hcs⟩:=yM1 h
  obtain⟨cells,ty,hb,hsz,hlt,hH⟩:=cR1 hS
  rw[List.length_map]at hcap ⊢
  refine(Any.slices_Compact_int L250 (β 0) (bs β 0) cap zs w hH (by omega) hcap).mono ?_
  rintro e w' ⟨rfl,q,rfl⟩
  have hcl:(Lib.compact zs).length≤zs.length:=sN1 zs
  have hyl:(Lib.compact zs++List.replicate (zs.length - (Lib.compact zs).length) 0).length=zs.length:=by rw[List.length_append,List.length_replicate];omega
  obtain⟨f1,f2,f3⟩:=zD1 (q:=q) (off:=bs β 0) (ys:=Lib.compact zs++List.replicate (zs.length - (Lib.compact zs).length) 0) hb
  have g:=aX1 hS (id:=0) (slot:=1) rfl rfl (o:= .arr 1 ((coL zs).map inD)) rfl f1 f3 f2 rfl rfl rfl (z:=bs β 0)
   (rQ1 (zs:=coL zs) (by rw[hyl];exact hcl) (fun i y h=>by
    have hi:=(List.getElem?_eq_some_iff.1 h).1
    have hi':i<(Lib.compact zs).length:=hi
    rw[List.getElem?_append_left hi'];exact h) (by omega))
  have el:upd1 (upd1 (lk [.arr 1 (zs.map inD)]) 0 .gone) 1 (.arr 1 ((coL zs).map inD))=lk [.gone,.arr 1 ((coL zs).map inD)]:=by rw[← zZ0,← zZ0];rfl
  dsimp only at g
  rw[el]at g
  obtain⟨g1,g2,_,g4,g5⟩:=g
  refine⟨_,_,rfl,.inl ⟨_,rfl,.inl ⟨1,(coL zs).length,cap,by simp[shL,lk,shO],?_,by unfold coL;omega,ty,cells.size,?_,?_⟩⟩,g1,g2.some⟩
  ·rw[show newβ β 1 (β ((0:Nat):Int)) (bs β 0) ((1:Nat):Int)=β 0 from g4,g5];rfl
  ·rw[show newβ β 1 (β ((0:Nat):Int)) (bs β 0) ((1:Nat):Int)=β 0 from g4,bV0 f1,lF0]
  ·rw[g5]
   rw[bV0 hb]at hsh
   cases hsh
   exact hcs
theorem cY1 : hT0 prog 250:=⟨f250,func250,by kernel_rfl⟩
theorem nil250 : run prog E0 (.call 250 [dV nilD] [])=some (.ret [dV nilD] []):=(cY0 _ _ _ _).2 ⟨100,by kernel_rfl⟩
theorem wN1 (zs:List Int):∀ j,j<zs.length→∃ i,i<zs.length∧Lib.keeps zs.toArray i=true∧zs.toArray[i]! = zs.toArray[j]!
 | 0,h=>⟨0,h,by simp[Lib.keeps],rfl⟩
 | j+1,h=>by
  by_cases c:Lib.keeps zs.toArray (j+1)=true
  ·exact⟨j+1,h,c,rfl⟩
  ·obtain⟨i,h1,h2,h3⟩:=wN1 zs j (by omega)
   refine⟨i,h1,h2,h3.trans ?_⟩
   have hk:¬ (j+1=0∨zs.toArray[j+1]! ≠ zs.toArray[j+1 - 1]!):=fun hc=>c (decide_eq_true hc)
   rw[not_or]at hk
   have:=Decidable.not_not.1 hk.2
   rw[this];rfl
theorem pB2 (zs:List Int)(v:Int):v∈coL zs↔v∈zs:=by
 have hget:∀ i,i<zs.length→zs.toArray[i]! ∈ zs:=fun i hi=>by
  rw[getElem!_pos _ i (by simpa using hi)];simp
 unfold coL Lib.compact Lib.compactUpTo
 rw[List.mem_map]
 constructor
 ·rintro⟨i,hi,rfl⟩
  exact hget i (List.mem_range.1 (List.mem_filter.1 hi).1)
 ·intro h
  obtain⟨j,hj,rfl⟩:=List.getElem_of_mem h
  obtain⟨i,h1,h2,h3⟩:=wN1 zs j hj
  refine⟨i,List.mem_filter.2 ⟨List.mem_range.2 h1,h2⟩,h3.trans ?_⟩
  rw[getElem!_pos _ j (by simpa using hj)];simp
open Classical in
noncomputable def gOf (R:List V→List O→Out→Prop)(args:List V)(objs:List O):Option Out:=if h:∃ out,R args objs out then some h.choose else none
theorem lY1 {R:List V→List O→Out→Prop} (det:∀ args objs o1 o2,R args objs o1→R args objs o2→o1=o2){args:List V}{objs:List O}{out:Out} (h:R args objs out):gOf R args objs=some out:=by
 unfold gOf
 rw[dif_pos ⟨out,h⟩]
 exact congrArg some (det _ _ _ _ (Exists.choose_spec (⟨out,h⟩:∃ out,R args objs out)) h)
theorem kP2 {R:List V→List O→Out→Prop}{args:List V}{objs:List O}{out:Out} (h:gOf R args objs=some out):R args objs out:=by
 unfold gOf at h
 split at h
 ·rename_i h';cases h;exact h'.choose_spec
 ·cases h
theorem oO0 : ∀ {l m:List Int},l.map inD=m.map inD→l=m
 | [],[],_=>rfl
 | [],_::_,h=>by cases h
 | _::_,[],h=>by cases h
 | x::l,y::m,h=>by
  simp only[List.map_cons,List.cons.injEq,inD,D.v.injEq,Value.int.injEq,true_and,and_true]at h
  rw[h.1,oO0 h.2]
def R249 (args:List V)(objs:List O)(out:Out):Prop:=(args=[dV nilD]∧objs=[]∧out = .ret [] [])∨∃ zs:List Int,zs.length<2^30∧args=[.c (.own 0)]∧objs=[.arr 1 (zs.map inD)]∧out = .ret [] [.arr 1 ((soL zs).map inD)]
def R250 (args:List V)(objs:List O)(out:Out):Prop:=(args=[dV nilD]∧objs=[]∧out = .ret [dV nilD] [])∨∃ zs:List Int,zs.length<2^30∧args=[.c (.own 0)]∧objs=[.arr 1 (zs.map inD)]∧out = .ret [.c (.own 1)] [.gone,.arr 1 ((coL zs).map inD)]
theorem jO2 : ∀ args objs o1 o2,R249 args objs o1→R249 args objs o2→o1=o2:=by
 rintro args objs o1 o2 (⟨rfl,rfl,rfl⟩ | ⟨zs,_,rfl,rfl,rfl⟩) (⟨a,b,rfl⟩ | ⟨zs',_,a,b,rfl⟩)
 ·rfl
 ·cases b
 ·cases b
 ·have:zs.map inD=zs'.map inD:=by injection b with b;injection b
  rw[oO0 this]
theorem jP2 : ∀ args objs o1 o2,R250 args objs o1→R250 args objs o2→o1=o2:=by
 rintro args objs o1 o2 (⟨rfl,rfl,rfl⟩ | ⟨zs,_,rfl,rfl,rfl⟩) (⟨a,b,rfl⟩ | ⟨zs',_,a,b,rfl⟩)
 ·rfl
 ·cases b
 ·cases b
 ·have:zs.map inD=zs'.map inD:=by injection b with b;injection b
  rw[oO0 this]
theorem nN2 {args:List V}{objs:List O}{out:Out} (h:R249 args objs out):dZ0 prog 249 args objs out:=by
 rcases h with⟨rfl,rfl,rfl⟩ | ⟨zs,hl,rfl,rfl,rfl⟩
 ·exact oF0 nil249 cX1
 ·exact ok249 zs hl
theorem nO2 {args:List V}{objs:List O}{out:Out} (h:R250 args objs out):dZ0 prog 250 args objs out:=by
 rcases h with⟨rfl,rfl,rfl⟩ | ⟨zs,hl,rfl,rfl,rfl⟩
 ·exact oF0 nil250 cY1
 ·exact ok250 zs hl
end
end Go.Proofs.YteenjodhmppgjaaGreatDoor.Am
