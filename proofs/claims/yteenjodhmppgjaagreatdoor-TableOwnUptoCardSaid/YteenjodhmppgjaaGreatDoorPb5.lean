/- A part of the proof of a card. No conditions. -/
import Derived.Test.YteenjodhmppgjaaGreatDoorPb4
import Derived.Test.YteenjodhmppgjaaGreatDoorPb3
set_option linter.all false
set_option maxHeartbeats 16000000
set_option maxRecDepth 10000
namespace Go.Proofs.YteenjodhmppgjaaGreatDoor.Am
open Go.Proofs.Tryz
section
open Go
variable (ext:Ext)
end
section
open Go
end
section
open Go
end
section
open Go
variable (ext:Ext)
theorem rN0 {α β:Type} (f:α→β × Int)(g:α→Nat)(g':β→Nat):∀ (l:List α)(r:List β),mapE f l = .inl r→(∀ x∈l,g' (f x).1≤9*g x)→(r.map g').sum≤9*(l.map g).sum
 | [],r,h,_=>by cases h;simp
 | x::l,r,h,hx=>by
  simp only[mapE]at h
  split at h
  ·split at h
   ·rename_i r' e
    cases h
    have:=rN0 f g g' l r' e fun y hy=>hx y (List.mem_cons_of_mem _ hy)
    have:=hx x List.mem_cons_self
    simp only[List.map_cons,List.sum_cons];omega
   ·cases h
  ·cases h
theorem pC0 : zTm.sz=1:=by rw[Tm.sz_eq];rfl
theorem iQ1 {f:Lev→Lev × Int} (h:∀ u,(f u).1.sz≤9):∀ (N:Nat)(x:Tm),x.sz≤N→(setL f x).1.sz≤9*x.sz
 | 0,x,hN=>by have:=x.sz_pos;omega
 | N+1,x,hN=>by
  have hp:=x.sz_pos
  rw[yU0 f]
  split
  ·rw[pC0];omega
  ·rename_i u' e
   split
   ·rw[pC0];omega
   ·rename_i l' e'
    have h1:=rN0 f Lev.sz Lev.sz x.u u' e fun y _=>by have:=h y;have:=Lev.sz_pos y;omega
    have h2:=rN0 (setL f) Tm.sz Tm.sz x.l l' e' fun y hy=>iQ1 h N y (by have:=Tm.sz_lt hy;omega)
    have hs:=Tm.sz_eq (.mk x.op x.n x.s u' true l' true)
    have hs':(Tm.mk x.op x.n x.s u' true l' true).sz=1+(u'.map Lev.sz).sum+(l'.map Tm.sz).sum:=hs
    have hx:=x.sz_eq
    dsimp only
    omega
theorem bX1 (c:Int)(l:List LV)(z:Bool):(dN0 c l z).1.vs.length≤8:=by
 unfold dN0
 by_cases h:(if c≤rP0 l then 0 else c)>1000∨rP0 l>1000∨(l.length:Int)>8
 ·rw[if_pos h];simp[zLev]
 ·rw[if_neg h];show l.length≤8;omega
theorem vY0 (bys:List Lev)(u:Lev):(bW0 u bys).1.sz≤9:=by
 unfold bW0 Lev.sz
 split
 ·split
  ·simp[zLev]
  ·have:=bX1 ((cZ0 u.vs).foldl (hX0 bys) (u.c,[])).1 ((cZ0 u.vs).foldl (hX0 bys) (u.c,[])).2 u.vs.isEmpty
   omega
 ·simp[zLev]
end
section
open Go
variable [Guest]
theorem uI1 {x y:LV} (h:lvD x=lvD y):x=y:=by
 cases x;cases y
 simp only[lvD,List.cons.injEq,D.v.injEq,Value.int.injEq,true_and,and_true]at h
 simp[h.1,h.2]
theorem kD0 : ∀ {l m:List LV},l.map lvD=m.map lvD→l=m
 | [],[],_=>rfl
 | [],_::_,h=>by cases h
 | _::_,[],h=>by cases h
 | x::l,y::m,h=>by
  simp only[List.map_cons,List.cons.injEq]at h
  rw[uI1 h.1,kD0 h.2]
theorem vF0 {z z':Fl}{l m:List LV} (h:listD z 2 (l.map lvD)=listD z' 2 (m.map lvD)):l=m:=by
 unfold listD at h
 by_cases h1:z.z=true∧l.map lvD=[]
 ·by_cases h2:z'.z=true∧m.map lvD=[]
  ·exact kD0 (h1.2.trans h2.2.symm)
  ·rw[if_pos h1,if_neg h2]at h;cases h
 ·by_cases h2:z'.z=true∧m.map lvD=[]
  ·rw[if_neg h1,if_pos h2]at h;cases h
  ·rw[if_neg h1,if_neg h2]at h
   injection h with _ h
   exact kD0 h
def R121 (args:List V)(objs:List O)(out:Out):Prop:=∃ (z:Fl)(l:List LV),l.length≤8∧args=[dV (listD z 2 (l.map lvD))]∧objs=[]∧out=kK0 l
theorem jW1 {args:List V}{objs:List O}{o1 o2:Out} (h1:R121 args objs o1)(h2:R121 args objs o2):o1=o2:=by
 obtain⟨z,l,_,a,_,rfl⟩:=h1
 obtain⟨z',l',_,b,_,rfl⟩:=h2
 have:dV (listD z 2 (l.map lvD))=dV (listD z' 2 (l'.map lvD)):=by
  have:=a.symm.trans b
  injection this
 unfold dV at this
 injection this with this
 injection this with this
 rw[vF0 this]
open Classical in
noncomputable def g121 (args:List V)(objs:List O):Option Out:=if h:∃ out,R121 args objs out then some h.choose else none
theorem sI1 {args:List V}{objs:List O}{out:Out} (h:R121 args objs out):g121 args objs=some out:=by
 unfold g121
 rw[dif_pos ⟨out,h⟩]
 exact congrArg some (jW1 (Exists.choose_spec (⟨out,h⟩:∃ out,R121 args objs out)) h)
theorem dQ1 {args:List V}{objs:List O}{out:Out} (h:g121 args objs=some out):R121 args objs out:=by
 unfold g121 at h
 split at h
 ·rename_i h';cases h;exact h'.choose_spec
 ·cases h
theorem nil121 : eI0 prog 121 [dV (.v (.slice none 0 0))] [] (.ret [dV (.s 2 [])] []):=by
 intro w F β vals hsim hall
 cases hall with
 | cons h t=>
  cases t
  have h':RepD w (Nn w F β (lk [])) _ (.v (.slice none 0 0)):=h
  cases h'
  exact pP1 false w F β _ hsim (.cons (.e none 0 2 _) .nil)
theorem dR1 {args:List V}{objs:List O}{out:Out} (h:R121 args objs out):eI0 prog 121 args objs out:=by
 obtain⟨z,l,hl,rfl,rfl,rfl⟩:=h
 cases l with
 | nil=>
  obtain⟨z,g⟩:=z
  cases z with
  | true=>exact nil121
  | false=>exact pP1 g
 | cons x l=>
  have e:listD z 2 ((x::l).map lvD) = .s 2 ((x::l).map lvD) z.g:=dY0 (by simp)
  rw[e]
  exact lJ0 (sortN z.g x l (by simp at hl;omega)) iL0
def g14 (args:List V)(objs:List O):Option Out:=match args,objs with
 | [],[]=>some (.ret [bV true] [])
 | _,_=>none
noncomputable def E1 : Ext:=fun f=>if f=121 then some g121 else if f=14 then some g14 else none
theorem ex1 (n:FuncId)(h1:n≠14)(h2:n≠121):E1 n=none:=by unfold E1;rw[if_neg h2,if_neg h1]
end
end Go.Proofs.YteenjodhmppgjaaGreatDoor.Am
