/- A part of the proof of a card. No conditions. -/
import Derived.Test.YteenjodhmppgjaaGreatDoorPb1
import Derived.Test.YteenjodhmppgjaaGreatDoorRows
import Derived.ChangeShapes
import Derived.RowKit3
import Derived.RowKit
import Derived.ChangeSame
set_option linter.all false
set_option maxHeartbeats 16000000
set_option maxRecDepth 10000
namespace Go.Proofs.YteenjodhmppgjaaGreatDoor.Am
open Go.Proofs.Tryz
section
open Go Go.ChangeShapes Go.WideShapes
theorem hF1 {α:Type}{p:Nat→α→Prop}:∀ {n:Nat},(∀ i,i<n→∃ a,p i a)→∃ l:List α,l.length=n∧∀ i a,l[i]? = some a→p i a
 | 0,_=>⟨[],rfl,fun i a h=>by simp at h⟩
 | n+1,h=>by
  obtain⟨l,h1,h2⟩:=hF1 (n:=n) (fun i hi=>h i (by omega))
  obtain⟨a,ha⟩:=h n (by omega)
  refine⟨l++[a],by simp[h1],fun i b hb=> ?_⟩
  by_cases hi:i<l.length
  ·rw[List.getElem?_append_left hi]at hb
   exact h2 i b hb
  ·rw[List.getElem?_append_right (by omega)]at hb
   have:i=n:=by
    rcases Nat.lt_or_ge (i - l.length) 1 with h | h
    ·omega
    ·rw[List.getElem?_eq_none (by simpa using h)]at hb;cases hb
   subst this
   rw[h1]at hb
   simp at hb
   subst hb
   exact ha
theorem cell?_lt {W:World}{b o:Nat}{v:Value} (h:W.cell? ⟨b,o,none⟩=some v):b<W.heap.size:=by
 unfold World.cell? at h
 rcases Nat.lt_or_ge b W.heap.size with h' | h'
 ·exact h'
 ·simp[h']at h
section
variable {H:Type}{en:TypeId × Value→H}{P:Program}{W:World}{N:Nat→Prop} (hN:∀ b,b<W.heap.size→N b)
include hN
theorem hH0 {t e:TypeId}{k fuel:Nat}{cs:List Value}{x:DataW H × List MemPlace} (ht:P.underlying t=some (.slice e))(hc:P.cellsOf e=k)(hk:0<k){α:Type} (encA:α→List D)(henc:∀ a,(encA a).length=k)(Q:α→DataW H→Prop)
  (h:DataW.trod en P W 0 (fun _=>true) true fuel t cs=some x)
  (hel:∀ (n:Nat) (cs':List Value) (y:DataW H × List MemPlace),fuel=n+1→DataW.trod en P W 0 (fun _=>true) true n e cs'=some y→∃ a:α,All2 (RepD W N) cs' (encA a)∧Q a y.1) :
  ∃ (z:Bool) (l:List α) (v:Value),cs=[v]∧RepD W N v (if z=true∧l.map encA=[] then .v (.slice none 0 0) else .s k (l.map encA)) ∧
   ∃ ds:List (DataW H),l.length=ds.length∧(∀ (i:Nat) (a:α) (d:DataW H),l[i]? = some a→ds[i]? = some d→Q a d)∧Rows.uptoBulkAll ds+1≤Rows.uptoBulk x.1:=by
 rcases DataW.trod_slice ht h with⟨rfl,rfl⟩ | ⟨a0,len,cap,elems,rest,n,hfu,rfl,rfl,_,hlc,_,hlen,hel1,_,_⟩
 ·refine⟨true,[],_,rfl,?_,[],rfl,fun i a d h=>by simp at h,by simp[Rows.uptoBulkAll,Rows.uptoBulk]⟩
  rw[if_pos ⟨rfl,rfl⟩]
  exact .v rfl
 ·rw[hc]at hel1
  have hp:∀ i,i<len→∃ a:α,∃ csi,W.cells? 0 (a0.add (i*k)) k=some csi∧All2 (RepD W N) csi (encA a)∧∃ d,elems[i]? = some d∧Q a d.1:=by
   intro i hi
   have h1:=hel1 i hi
   have h2:elems[i]? = some elems[i]:=by simp[hlen,hi]
   rw[h2]at h1
   obtain⟨csi,h3,h4⟩:=Option.bind_eq_some_iff.1 h1
   obtain⟨a,h5,h6⟩:=hel n csi _ hfu h4
   exact⟨a,csi,h3,h5,_,h2,h6⟩
  obtain⟨l,hl,hp'⟩:=hF1 hp
  refine⟨false,l,_,rfl,?_,elems.map (·.1),by simp[hl,hlen],fun i a d h1 h2=> ?_,?_⟩
  ·rw[if_neg (by simp)]
   cases hl0:l with
   | nil=>
    rw[hl0]at hl
    have:len=0:=by simpa using hl.symm
    subst this
    exact .e _ _ _ _
   | cons a1 l1=>
    rw[← hl0]
    have hpos:0<len:=by rw[← hl,hl0];simp
    have ha1:l[0]? = some a1:=by rw[hl0];rfl
    obtain⟨cs0,g1,g2,_⟩:=hp' 0 a1 ha1
    obtain⟨_,g3,g4⟩:=World.cells?_some g1
    have g5:=g4 0 hk
    obtain⟨v0,hv0⟩:∃ v0,cs0[0]? = some v0:=⟨cs0[0],by simp[g3,hk]⟩
    rw[hv0]at g5
    obtain⟨b,o,spot⟩:=a0
    have hs:spot=none:=by
     have:=World.cell?_spot g5
     simpa [Addr.add] using this
    subst hs
    have hcell:∀ (i:Nat) (a:α),l[i]? = some a→∀ (j:Nat) (x:D),(encA a)[j]? = some x→∃ v,W.cell? ⟨b,o+i*k+j,none⟩=some v∧RepD W N v x:=by
     intro i a ha j x hx
     obtain⟨csi,q1,q2,_⟩:=hp' i a ha
     obtain⟨_,q3,q4⟩:=World.cells?_some q1
     have hj:j<k:=by
      rcases Nat.lt_or_ge j k with h | h
      ·exact h
      ·rw[List.getElem?_eq_none (by rw[henc];exact h)]at hx;cases hx
     have q5:=q4 j hj
     rw[add_plain,add_plain]at q5
     obtain⟨v,hv⟩:∃ v,csi[j]? = some v:=⟨csi[j],by simp[q3,hj]⟩
     rw[hv]at q5
     exact⟨v,q5,q2.get hv hx⟩
    have hb:b<W.heap.size:=by
     rw[add_plain,add_plain]at g5
     exact cell?_lt g5
    have hlen':len=(l.map encA).length:=by simp[hl]
    rw[hlen']
    refine .s (fun i j=>(W.cell? ⟨b,o+i*k+j,none⟩).getD (.int .i64 0)) (hN b hb) (by simpa [hl] using hlc) (fun r hr=> ?_) (fun i r j x h1 h2=> ?_) (fun i r j x h1 h2=> ?_)
    ·obtain⟨a,_,rfl⟩:=List.mem_map.1 hr;exact henc a
    ·rw[List.getElem?_map]at h1
     obtain⟨a,h3,rfl⟩:=Option.map_eq_some_iff.1 h1
     obtain⟨v,q1,q2⟩:=hcell i a h3 j x h2
     rw[q1];rfl
    ·rw[List.getElem?_map]at h1
     obtain⟨a,h3,rfl⟩:=Option.map_eq_some_iff.1 h1
     obtain⟨v,q1,q2⟩:=hcell i a h3 j x h2
     rw[q1];exact q2
  ·obtain⟨_,_,_,d',h3,h4⟩:=hp' i a h1
   rw[List.getElem?_map,h3]at h2
   simp at h2
   subst h2
   exact h4
  ·simp only[Rows.uptoBulk];omega
end
end
section
open Go Go.ChangeShapes Go.WideShapes
theorem nT0 {H:Type}:∀ {ds:List (DataW H)}{i:Nat}{d:DataW H},ds[i]? = some d→Rows.uptoBulk d≤Rows.uptoBulkAll ds
 | [],i,d,h=>by simp at h
 | x::ds,0,d,h=>by simp at h;subst h;simp only[Rows.uptoBulkAll];omega
 | x::ds,i+1,d,h=>by have:=nT0 (ds:=ds) (i:=i) (d:=d) (by simpa using h);simp only[Rows.uptoBulkAll];omega
theorem kR1 {H:Type} (d:DataW H):1≤Rows.uptoBulk d:=by
 cases d with
 | lit l=>cases l <;> simp[Rows.uptoBulk]
 | nil=>simp[Rows.uptoBulk]
 | ptr d=>simp[Rows.uptoBulk]
 | slice elems spare=>simp[Rows.uptoBulk]
 | agg parts=>simp[Rows.uptoBulk]
 | iface t d=>simp[Rows.uptoBulk]
 | map entries=>simp[Rows.uptoBulk]
 | held h=>simp[Rows.uptoBulk]
theorem kS0 {H:Type}:∀ (ds:List (DataW H)),ds.length≤Rows.uptoBulkAll ds
 | []=>by simp[Rows.uptoBulkAll]
 | d::ds=>by have:=kS0 ds;have:=kR1 d;simp only[Rows.uptoBulkAll,List.length_cons];omega
theorem jE1 {α H:Type} (f:α→Nat):∀ (l:List α)(ds:List (DataW H)),l.length=ds.length→(∀ (i:Nat) a d,l[i]? = some a→ds[i]? = some d→f a≤Rows.uptoBulk d)→(l.map f).sum≤Rows.uptoBulkAll ds
 | [],[],_,_=>by simp[Rows.uptoBulkAll]
 | [],_::_,h,_=>by cases h
 | _::_,[],h,_=>by cases h
 | a::l,d::ds,h,hq=>by
  have h1:=hq 0 a d rfl rfl
  have h2:=jE1 f l ds (by simpa using h) (fun i x y hx hy=>hq (i+1) x y hx hy)
  simp only[List.map_cons,List.sum_cons,Rows.uptoBulkAll]
  omega
theorem len1 {α:Type}:∀ {l:List α},l.length=1→∃ a,l=[a]
 | [a],_=>⟨a,rfl⟩
theorem len2 {α:Type}:∀ {l:List α},l.length=2→∃ a b,l=[a,b]
 | [a,b],_=>⟨a,b,rfl⟩
theorem len5 {α:Type}:∀ {l:List α},l.length=5→∃ a b c d e,l=[a,b,c,d,e]
 | [a,b,c,d,e],_=>⟨a,b,c,d,e,rfl⟩
theorem len6 {α:Type}:∀ {l:List α},l.length=6→∃ a b c d e f,l=[a,b,c,d,e,f]
 | [a,b,c,d,e,f],_=>⟨a,b,c,d,e,f,rfl⟩
theorem len9 {α:Type}:∀ {l:List α},l.length=9→∃ a b c d e f g h i,l=[a,b,c,d,e,f,g,h,i]
 | [a,b,c,d,e,f,g,h,i],_=>⟨a,b,c,d,e,f,g,h,i,rfl⟩
theorem len23 {α:Type}:∀ {l:List α},l.length=23→∃ a0 a1 a2 a3 a4 a5 a6 a7 a8 a9 a10 a11 a12 a13 a14 a15 a16 a17 a18 a19 a20 a21 a22,l=[a0,a1,a2,a3,a4,a5,a6,a7,a8,a9,a10,a11,a12,a13,a14,a15,a16,a17,a18,a19,a20,a21,a22]
 | [a0,a1,a2,a3,a4,a5,a6,a7,a8,a9,a10,a11,a12,a13,a14,a15,a16,a17,a18,a19,a20,a21,a22],_=>⟨_,_,_,_,_,_,_,_,_,_,_,_,_,_,_,_,_,_,_,_,_,_,_,rfl⟩
theorem uH0 : prog.cellsOf 3=1:=by kernel_rfl
theorem zR0 : prog.cellsOf 9=1:=by kernel_rfl
theorem rF1 : prog.cellsOf 22=1:=by kernel_rfl
theorem rG1 : prog.cellsOf 24=1:=by kernel_rfl
theorem eZ1 : prog.cellsOf 30=1:=by kernel_rfl
theorem rH1 : prog.cellsOf 31=1:=by kernel_rfl
theorem lQ0 : prog.cellsOf 33=5:=by kernel_rfl
theorem rI1 : prog.cellsOf 34=1:=by kernel_rfl
theorem nX0 : prog.cellsOf 36=2:=by kernel_rfl
theorem rJ1 : prog.cellsOf 37=1:=by kernel_rfl
theorem wS0 : prog.cellsOf 39=23:=by kernel_rfl
theorem wT0 : prog.cellsOf 98=6:=by kernel_rfl
theorem qV0 : prog.cellsOf 110=2:=by kernel_rfl
section
variable {H:Type}{en:TypeId × Value→H}{W:World}{N:Nat→Prop} (hN:∀ b,b<W.heap.size→N b)
include hN
theorem readLV {fuel:Nat}{cs:List Value}{x:DataW H × List MemPlace} (h:DataW.trod en prog W 0 (fun _=>true) true fuel 110 cs=some x):∃ y:LV,All2 (RepD W N) cs (lvD y):=by
 obtain⟨xs,n,hfu,rfl,hcl,hxl,hf⟩:=DataW.trod_struct Tryz.underlying110 h
 rw[qV0]at hcl
 obtain⟨v0,v1,rfl⟩:=len2 hcl
 obtain⟨x0,x1,rfl⟩:∃ x0 x1,xs=[x0,x1]:=len2 hxl
 have f0:=hf 0 _ rfl
 have f1:=hf 1 _ rfl
 simp only[uH0,List.drop_zero,List.drop_succ_cons,List.take_succ_cons,List.take_zero,List.getElem_toArray,List.getElem_cons_zero,List.getElem_cons_succ,List.getElem?_cons_zero,List.getElem?_cons_succ]at f0 f1
 obtain⟨n0,e0,rfl,_⟩:=DataW.trod_int Tryz.underlying3 f0
 obtain⟨n1,e1,rfl,_⟩:=DataW.trod_int Tryz.underlying3 f1
 replace e0:=List.head_eq_of_cons_eq e0;subst e0;replace e1:=List.head_eq_of_cons_eq e1;subst e1
 exact⟨⟨n0,n1⟩,.cons (.v rfl) (.cons (.v rfl) .nil)⟩
theorem rW0 {fuel:Nat}{cs:List Value}{x:DataW H × List MemPlace} (h:DataW.trod en prog W 0 (fun _=>true) true fuel 36 cs=some x):∃ u:Lev,All2 (RepD W N) cs (levD u)∧u.sz≤Rows.uptoBulk x.1:=by
 obtain⟨xs,n,hfu,rfl,hcl,hxl,hf⟩:=DataW.trod_struct Tryz.underlying36 h
 rw[nX0]at hcl
 obtain⟨v0,v1,rfl⟩:=len2 hcl
 obtain⟨x0,x1,rfl⟩:∃ x0 x1,xs=[x0,x1]:=len2 hxl
 have f0:=hf 0 _ rfl
 have f1:=hf 1 _ rfl
 simp only[uH0,rI1,List.drop_zero,List.drop_succ_cons,List.take_succ_cons,List.take_zero,List.getElem_toArray,List.getElem_cons_zero,List.getElem_cons_succ,List.getElem?_cons_zero,List.getElem?_cons_succ]at f0 f1
 obtain⟨n0,e0,rfl,_⟩:=DataW.trod_int Tryz.underlying3 f0
 replace e0:=List.head_eq_of_cons_eq e0;subst e0
 obtain⟨z,l,v,e1,hrep,ds,hl,_,hb⟩:=hH0 hN Tryz.underlying34 qV0 (by decide) lvD (fun _=>rfl) (fun _ _=>True) f1
  (fun n' cs' y _ hy=>by obtain⟨c,k1⟩:=readLV hN hy;exact⟨c,k1,trivial⟩)
 replace e1:=List.head_eq_of_cons_eq e1;subst e1
 have:=kS0 ds
 refine⟨⟨n0,l,z⟩,.cons (.v rfl) (.cons hrep .nil),?_⟩
 simp only[Lev.sz,List.map_cons,List.map_nil,Rows.uptoBulk,Rows.uptoBulkAll];omega
theorem qJ0 : ∀ (fuel:Nat)(cs:List Value)(x:DataW H × List MemPlace),DataW.trod en prog W 0 (fun _=>true) true fuel 33 cs=some x→∃ t:Tm,All2 (RepD W N) cs (tmD t)∧t.sz≤Rows.uptoBulk x.1:=by
 intro fuel
 induction fuel using Nat.strongRecOn with
 | _ fuel ih=>
  intro cs x h
  obtain⟨xs,n,hfu,rfl,hcl,hxl,hf⟩:=DataW.trod_struct Tryz.underlying33 h
  rw[lQ0]at hcl
  obtain⟨v0,v1,v2,v3,v4,rfl⟩:=len5 hcl
  obtain⟨x0,x1,x2,x3,x4,rfl⟩:∃ x0 x1 x2 x3 x4,xs=[x0,x1,x2,x3,x4]:=len5 hxl
  have f0:=hf 0 _ rfl
  have f1:=hf 1 _ rfl
  have f2:=hf 2 _ rfl
  have f3:=hf 3 _ rfl
  have f4:=hf 4 _ rfl
  simp only[uH0,zR0,eZ1,rH1,List.drop_zero,List.drop_succ_cons,List.take_succ_cons,List.take_zero,List.getElem_toArray,List.getElem_cons_zero,List.getElem_cons_succ,List.getElem?_cons_zero,List.getElem?_cons_succ]at f0 f1 f2 f3 f4
  obtain⟨n0,e0,rfl,_⟩:=DataW.trod_int Tryz.underlying3 f0
  obtain⟨n1,e1,rfl,_⟩:=DataW.trod_int Tryz.underlying3 f1
  obtain⟨s,e2,rfl,_⟩:=DataW.trod_string Tryz.underlying9 f2
  replace e0:=List.head_eq_of_cons_eq e0;subst e0;replace e1:=List.head_eq_of_cons_eq e1;subst e1;replace e2:=List.head_eq_of_cons_eq e2;subst e2
  obtain⟨zu,u,vu,e3,hu,du,hlu,hqu,hbu⟩:=hH0 hN Tryz.underlying30 nX0 (by decide) levD (fun _=>rfl) (fun c d=>c.sz≤Rows.uptoBulk d) f3 (fun n' cs' y _ hy=>rW0 hN hy)
  obtain⟨zl,l,vl,e4,hl,dl,hll,hql,hbl⟩:=hH0 hN Tryz.underlying31 lQ0 (by decide) tmD (fun c=>by rw[aX0];rfl) (fun c d=>c.sz≤Rows.uptoBulk d) f4 (fun n' cs' y hn hy=>ih n' (by omega) cs' y hy)
  replace e3:=List.head_eq_of_cons_eq e3;subst e3;replace e4:=List.head_eq_of_cons_eq e4;subst e4
  have s1:=jE1 Lev.sz u du hlu hqu
  have s2:=jE1 Tm.sz l dl hll hql
  refine⟨.mk n0 n1 s u zu l zl,?_,?_⟩
  ·rw[aX0]
   exact .cons (.v rfl) (.cons (.v rfl) (.cons (.v rfl) (.cons hu (.cons hl .nil))))
  ·rw[Tm.sz_eq]
   simp only[Tm.u,Tm.l,List.map_cons,List.map_nil,Rows.uptoBulk,Rows.uptoBulkAll];omega
theorem uV1 {fuel:Nat}{cs:List Value}{x:DataW H × List MemPlace} (h:DataW.trod en prog W 0 (fun _=>true) true fuel 98 cs=some x):∃ c:Con,All2 (RepD W N) cs (conD c)∧c.arg.sz≤Rows.uptoBulk x.1:=by
 obtain⟨xs,n,hfu,rfl,hcl,hxl,hf⟩:=DataW.trod_struct Tryz.underlying98 h
 rw[wT0]at hcl
 obtain⟨v0,v1,v2,v3,v4,v5,rfl⟩:=len6 hcl
 obtain⟨x0,x1,rfl⟩:∃ x0 x1,xs=[x0,x1]:=len2 hxl
 have f0:=hf 0 _ rfl
 have f1:=hf 1 _ rfl
 simp only[zR0,lQ0,List.drop_zero,List.drop_succ_cons,List.take_succ_cons,List.take_zero,List.getElem_toArray,List.getElem_cons_zero,List.getElem_cons_succ,List.getElem?_cons_zero,List.getElem?_cons_succ]at f0 f1
 obtain⟨s,e0,rfl,_⟩:=DataW.trod_string Tryz.underlying9 f0
 replace e0:=List.head_eq_of_cons_eq e0;subst e0
 obtain⟨t,ht,hs⟩:=qJ0 hN _ _ _ f1
 refine⟨⟨s,t⟩,.cons (.v rfl) ht,?_⟩
 simp only[List.map_cons,List.map_nil,Rows.uptoBulk,Rows.uptoBulkAll];omega
def Dc.le (d:Dc)(m:Nat):Prop:=d.type.sz≤m∧d.body.sz≤m∧d.param.sz≤m∧d.cons.length≤m∧∀ c∈d.cons,c.arg.sz≤m
omit hN in
theorem Dc.le_mono {d:Dc}{m n:Nat} (h:d.le m)(hmn:m≤n):d.le n:=⟨by have:=h.1;omega,by have:=h.2.1;omega,by have:=h.2.2.1;omega,by have:=h.2.2.2.1;omega,fun c hc=>by have:=h.2.2.2.2 c hc;omega⟩
theorem readDc {fuel:Nat}{cs:List Value}{x:DataW H × List MemPlace} (h:DataW.trod en prog W 0 (fun _=>true) true fuel 39 cs=some x):∃ d:Dc,All2 (RepD W N) cs (dcD d)∧d.le (Rows.uptoBulk x.1):=by
 obtain⟨xs,n,hfu,rfl,hcl,hxl,hf⟩:=DataW.trod_struct Tryz.underlying39 h
 rw[wS0]at hcl
 obtain⟨v0,v1,v2,v3,v4,v5,v6,v7,v8,v9,v10,v11,v12,v13,v14,v15,v16,v17,v18,v19,v20,v21,v22,rfl⟩:=len23 hcl
 obtain⟨x0,x1,x2,x3,x4,x5,x6,x7,x8,rfl⟩:∃ x0 x1 x2 x3 x4 x5 x6 x7 x8,xs=[x0,x1,x2,x3,x4,x5,x6,x7,x8]:=len9 hxl
 have f0:=hf 0 _ rfl
 have f1:=hf 1 _ rfl
 have f2:=hf 2 _ rfl
 have f3:=hf 3 _ rfl
 have f4:=hf 4 _ rfl
 have f5:=hf 5 _ rfl
 have f6:=hf 6 _ rfl
 have f7:=hf 7 _ rfl
 have f8:=hf 8 _ rfl
 simp only[uH0,zR0,lQ0,nX0,rJ1,List.drop_zero,List.drop_succ_cons,List.take_succ_cons,List.take_zero,List.getElem_toArray,List.getElem_cons_zero,List.getElem_cons_succ,List.getElem?_cons_zero,List.getElem?_cons_succ]at f0 f1 f2 f3 f4 f5 f6 f7 f8
 obtain⟨s,e0,rfl,_⟩:=DataW.trod_string Tryz.underlying9 f0
 obtain⟨n1,e1,rfl,_⟩:=DataW.trod_int Tryz.underlying3 f1
 obtain⟨n2,e2,rfl,_⟩:=DataW.trod_int Tryz.underlying3 f2
 obtain⟨t3,h3,s3⟩:=qJ0 hN _ _ _ f3
 obtain⟨t4,h4,s4⟩:=qJ0 hN _ _ _ f4
 obtain⟨t5,h5,s5⟩:=qJ0 hN _ _ _ f5
 obtain⟨u6,h6,_⟩:=rW0 hN f6
 obtain⟨u7,h7,_⟩:=rW0 hN f7
 obtain⟨z,l,v,e8,hrep,ds,hl,hq,hb⟩:=hH0 hN Tryz.underlying37 wT0 (by decide) conD (fun c=>by rw[lT0];rfl) (fun c d=>c.arg.sz≤Rows.uptoBulk d) f8 (fun n' cs' y _ hy=>uV1 hN hy)
 replace e0:=List.head_eq_of_cons_eq e0;subst e0;replace e1:=List.head_eq_of_cons_eq e1;subst e1;replace e2:=List.head_eq_of_cons_eq e2;subst e2;replace e8:=List.head_eq_of_cons_eq e8;subst e8
 have hle:=kS0 ds
 have hbk:Rows.uptoBulk (DataW.agg ([((DataW.lit (.string s.data.toList):DataW H),([]:List MemPlace)),(.lit (.int .i64 n1),[]),(.lit (.int .i64 n2),[]),x3,x4,x5,x6,x7,x8].map (·.1)))≥Rows.uptoBulk x3.1+Rows.uptoBulk x4.1+Rows.uptoBulk x5.1+Rows.uptoBulk x8.1:=by
  simp only[List.map_cons,List.map_nil,Rows.uptoBulk,Rows.uptoBulkAll];omega
 refine⟨⟨s,n1,n2,t3,t4,t5,u6,u7,l,z⟩,?_,by dsimp only;omega,by dsimp only;omega,by dsimp only;omega,by dsimp only;omega,fun c hc=> ?_⟩
 ·unfold dcD
  simp only[List.append_assoc]
  exact .cons (.v rfl) (.cons (.v rfl) (.cons (.v rfl) (All2.append h3 (All2.append h4 (All2.append h5 (All2.append h6 (All2.append h7 (.cons hrep .nil))))))))
 ·obtain⟨i,hi,rfl⟩:=List.getElem_of_mem hc
  have hi':i<l.length:=hi
  have h2:ds[i]? = some ds[i]:=by simp[← hl,hi']
  have h3:=nT0 h2
  have:=hq i l[i] _ (by simp[hi']) h2
  dsimp only
  omega
theorem readTb {fuel:Nat}{cs:List Value}{x:DataW H × List MemPlace} (h:DataW.trod en prog W 0 (fun _=>true) true fuel 24 cs=some x):∃ t:Tb,All2 (RepD W N) cs [t.d]∧t.ds.length≤Rows.uptoBulk x.1∧∀ d∈t.ds,d.le (Rows.uptoBulk x.1):=by
 obtain⟨xs,n,hfu,rfl,hcl,hxl,hf⟩:=DataW.trod_struct Tryz.underlying24 h
 rw[rG1]at hcl
 obtain⟨v0,rfl⟩:=len1 hcl
 obtain⟨x0,rfl⟩:∃ x0,xs=[x0]:=len1 hxl
 have f0:=hf 0 _ rfl
 simp only[rF1,List.drop_zero,List.take_succ_cons,List.take_zero,List.getElem_toArray,List.getElem_cons_zero,List.getElem?_cons_zero]at f0
 obtain⟨z,l,v,e0,hrep,ds,hl,hq,hb⟩:=hH0 hN Tryz.underlying22 wS0 (by decide) dcD (fun c=>by rw[iN0];rfl) (fun c d=>c.le (Rows.uptoBulk d)) f0 (fun n' cs' y _ hy=>readDc hN hy)
 replace e0:=List.head_eq_of_cons_eq e0;subst e0
 have hle:=kS0 ds
 have hbk:Rows.uptoBulk (DataW.agg ([x0].map (·.1)))=Rows.uptoBulk x0.1+1:=by
  simp only[List.map_cons,List.map_nil,Rows.uptoBulk,Rows.uptoBulkAll,Nat.add_zero]
 refine⟨⟨l,z⟩,.cons hrep .nil,by dsimp only;omega,fun d hd=> ?_⟩
 obtain⟨i,hi,rfl⟩:=List.getElem_of_mem hd
 have hi':i<l.length:=hi
 have h2:ds[i]? = some ds[i]:=by simp[← hl,hi']
 have h3:=nT0 h2
 exact Dc.le_mono (hq i l[i] _ (by simp[hi']) h2) (by dsimp only;omega)
theorem mZ1 {fuel:Nat}{cs:List Value}{x:DataW H × List MemPlace} (h:DataW.trod en prog W 0 (fun _=>true) true fuel 30 cs=some x):∃ (z:Bool)(l:List Lev)(v:Value),cs=[v]∧RepD W N v (listD z 2 (l.map levD))∧l.length≤Rows.uptoBulk x.1:=by
 obtain⟨z,l,v,e0,hrep,ds,hl,_,hb⟩:=hH0 hN Tryz.underlying30 nX0 (by decide) levD (fun _=>rfl) (fun _ _=>True) h
  (fun n' cs' y _ hy=>by obtain⟨c,k1,_⟩:=rW0 hN hy;exact⟨c,k1,trivial⟩)
 have:=kS0 ds
 exact⟨z,l,v,e0,hrep,by omega⟩
end
end
section
open Go Go.ChangeShapes Go.WideShapes Go.RowKit
theorem oM0 {β:Type}{f:Nat→Option β}:∀ (r:List β)(k:Nat),(∀ i,i<r.length→f (k+i)=r[i]?)→(List.range' k r.length).mapM f=some r
 | [],k,_=>by simp
 | b::r,k,h=>by
  simp only[List.length_cons,List.range'_succ,List.mapM_cons]
  have h0:=h 0 (by simp)
  simp only[Nat.add_zero,List.getElem?_cons_zero]at h0
  have:=oM0 r (k+1) (fun i hi=>by
   have:=h (i+1) (by simp;omega)
   simpa [Nat.add_assoc,Nat.add_comm 1 i] using this)
  simp[h0,this]
theorem hU0 {β:Type}{f:Nat→Option β}{r:List β}{n:Nat} (hn:r.length=n)(h:∀ i,i<n→f i=r[i]?):(List.range n).mapM f=some r:=by
 subst hn
 rw[List.range_eq_range']
 exact oM0 r 0 (fun i hi=>by rw[Nat.zero_add];exact h i hi)
section
variable {H:Type}{en:TypeId × Value→H}{W W':World} (hw:∀ b,b<W.heap.size→W'.heap[b]? = W.heap[b]?)
include hw
theorem cell?_keep {a:Addr}{v:Value} (h:W.cell? a=some v):W'.cell? a=some v:=by
 obtain⟨b,o,spot⟩:=a
 have hs:spot=none:=World.cell?_spot h
 subst hs
 rw[World.cell?_of_block (w:=W) (hw b (cell?_lt h))]
 exact h
theorem cells?_keep {base n:Nat}{a:Addr}{cs:List Value} (h:W.cells? base a n=some cs):W'.cells? base a n=some cs:=by
 obtain⟨h1,h2,h3⟩:=World.cells?_some h
 unfold World.cells?
 rw[if_pos h1]
 refine hU0 h2 fun i hi=> ?_
 have h4:=h3 i hi
 have h5:cs[i]? = some cs[i]:=by simp[h2,hi]
 rw[h5]at h4 ⊢
 exact cell?_keep hw h4
variable {sp:Nat→Bool}
theorem dK1 {P:Program}{t e:TypeId}{n:Nat}{cs:List Value}{x:DataW H × List MemPlace} (ht:P.underlying t=some (.slice e))(hk:0<P.cellsOf e)
  (hel:∀ (cs':List Value) (y:DataW H × List MemPlace),DataW.trod en P W 0 (fun _=>true) true n e cs'=some y→(∀ p∈y.2,sp p.block=true)→DataW.trod en P W' 0 sp true n e cs'=some y)
  (h:DataW.trod en P W 0 (fun _=>true) true (n+1) t cs=some x) (hsp:∀ p∈x.2,sp p.block=true):DataW.trod en P W' 0 sp true (n+1) t cs=some x:=by
 rcases DataW.trod_slice ht h with⟨rfl,rfl⟩ | ⟨a,len,cap,elems,rest,n',hfu,rfl,rfl,hb,hlc,hcm,hlen,h1,h2,_⟩
 ·simp[DataW.trod,ht]
 ·cases hfu
  obtain⟨h3,h4⟩:=h2 rfl
  have part:∀ (i:Nat) (y:DataW H × List MemPlace),y∈elems++rest→(W.cells? 0 (a.add (i*P.cellsOf e)) (P.cellsOf e)).bind (DataW.trod en P W 0 (fun _=>true) true n e)=some y →
    (W'.cells? 0 (a.add (i*P.cellsOf e)) (P.cellsOf e)).bind (DataW.trod en P W' 0 sp true n e)=some y:=by
   intro i y hy hq
   obtain⟨cs',q1,q2⟩:=Option.bind_eq_some_iff.1 hq
   rw[cells?_keep hw q1]
   refine hel cs' y q2 fun p hp=>hsp p ?_
   simp only[List.mem_append,List.mem_flatMap]
   exact .inr ⟨y,by simpa using hy,hp⟩
  have e1:(List.range len).mapM (fun i=>(W'.cells? 0 (a.add (i*P.cellsOf e)) (P.cellsOf e)).bind (DataW.trod en P W' 0 sp true n e))=some elems:=by
   refine hU0 hlen fun i hi=> ?_
   have g1:=h1 i hi
   have g2:elems[i]? = some elems[i]:=by simp[hlen,hi]
   rw[g2]at g1 ⊢
   exact part i _ (List.mem_append_left _ (List.getElem_mem _)) g1
  have e2:(if sp a.block=true then(List.range (cap - len)).mapM fun j=>(W'.cells? 0 (a.add ((len+j)*P.cellsOf e)) (P.cellsOf e)).bind (DataW.trod en P W' 0 sp true n e) else some [])=some rest:=by
   by_cases hc:cap=0
   ·have:rest=[]:=List.length_eq_zero_iff.1 (by omega)
    subst this
    have:cap - len=0:=by omega
    rw[this]
    simp
   ·have hsa:sp a.block=true:=by
     refine hsp (.cell a.block (a.off+0)) ?_
     simp only[List.mem_append]
     refine .inl ?_
     unfold MemPlace.row
     refine List.mem_map.2 ⟨0,List.mem_range.2 (Nat.mul_pos (by omega) hk),rfl⟩
    rw[if_pos hsa]
    refine hU0 h3 fun j hj=> ?_
    have g1:=h4 j hj
    have g2:rest[j]? = some rest[j]:=by simp[h3,hj]
    rw[g2]at g1 ⊢
    exact part (len+j) _ (List.mem_append_right _ (List.getElem_mem _)) g1
  simp only[DataW.trod,ht]
  rw[if_pos ⟨hb,hlc,hcm⟩,e1,Option.bind_some,e2]
  rfl
end
section
variable {H:Type}{en:TypeId × Value→H}{W W':World} (hw:∀ b,b<W.heap.size→W'.heap[b]? = W.heap[b]?){sp:Nat→Bool}
include hw
theorem gR0 {t:TypeId}{k:IntKind} (ht:prog.underlying t=some (.int k)){n:Nat}{cs:List Value}{x:DataW H × List MemPlace} (h:DataW.trod en prog W 0 (fun _=>true) true n t cs=some x):DataW.trod en prog W' 0 sp true n t cs=some x:=by
 obtain⟨m,rfl,rfl,hwf⟩:=DataW.trod_int ht h
 cases n with
 | zero=>simp[DataW.trod]at h
 | succ n=>simp[DataW.trod,ht,hwf]
theorem hY0 {n:Nat}{cs:List Value}{x:DataW H × List MemPlace} (h:DataW.trod en prog W 0 (fun _=>true) true n 9 cs=some x):DataW.trod en prog W' 0 sp true n 9 cs=some x:=by
 obtain⟨s,rfl,rfl,hm⟩:=DataW.trod_string Tryz.underlying9 h
 cases n with
 | zero=>simp[DataW.trod]at h
 | succ n=>simp[DataW.trod,Tryz.underlying9,hm]
theorem gN0 {t e:TypeId}{n:Nat}{cs:List Value}{x:DataW H × List MemPlace} (ht:prog.underlying t=some (.slice e))(hk:0<prog.cellsOf e)
  (hel:∀ (n':Nat) (cs':List Value) (y:DataW H × List MemPlace),n'<n→DataW.trod en prog W 0 (fun _=>true) true n' e cs'=some y→(∀ p∈y.2,sp p.block=true)→DataW.trod en prog W' 0 sp true n' e cs'=some y)
  (h:DataW.trod en prog W 0 (fun _=>true) true n t cs=some x) (hsp:∀ p∈x.2,sp p.block=true):DataW.trod en prog W' 0 sp true n t cs=some x:=by
 cases n with
 | zero=>simp[DataW.trod]at h
 | succ n=>exact dK1 hw ht hk (fun cs' y=>hel n cs' y (by omega)) h hsp
theorem uJ1 {n:Nat}{cs:List Value}{x:DataW H × List MemPlace} (h:DataW.trod en prog W 0 (fun _=>true) true n 110 cs=some x):DataW.trod en prog W' 0 sp true n 110 cs=some x:=by
 obtain⟨xs,m,rfl,rfl,hcl,hxl,hf⟩:=DataW.trod_struct Tryz.underlying110 h
 obtain⟨x0,x1,rfl⟩:∃ x0 x1,xs=[x0,x1]:=len2 hxl
 have f0:DataW.trod en prog W 0 (fun _=>true) true m 3 ((cs.drop 0).take (prog.cellsOf 3))=some x0:=hf 0 _ rfl
 have f1:DataW.trod en prog W 0 (fun _=>true) true m 3 ((cs.drop 1).take (prog.cellsOf 3))=some x1:=hf 1 _ rfl
 have g0:=gR0 hw (sp:=sp) Tryz.underlying3 f0
 have g1:=gR0 hw (sp:=sp) Tryz.underlying3 f1
 exact trod_struct_mk Tryz.underlying110 hcl (by show(List.mapM (fun f:Field=>_) [_,_])=_;simp only[List.mapM_cons,List.mapM_nil,g0,g1];rfl)
theorem rF0 {n:Nat}{cs:List Value}{x:DataW H × List MemPlace} (h:DataW.trod en prog W 0 (fun _=>true) true n 36 cs=some x)(hsp:∀ p∈x.2,sp p.block=true):DataW.trod en prog W' 0 sp true n 36 cs=some x:=by
 obtain⟨xs,m,rfl,rfl,hcl,hxl,hf⟩:=DataW.trod_struct Tryz.underlying36 h
 obtain⟨x0,x1,rfl⟩:∃ x0 x1,xs=[x0,x1]:=len2 hxl
 have f0:DataW.trod en prog W 0 (fun _=>true) true m 3 ((cs.drop 0).take (prog.cellsOf 3))=some x0:=hf 0 _ rfl
 have f1:DataW.trod en prog W 0 (fun _=>true) true m 34 ((cs.drop 1).take (prog.cellsOf 34))=some x1:=hf 1 _ rfl
 have g0:=gR0 hw (sp:=sp) Tryz.underlying3 f0
 have g1:=gN0 hw Tryz.underlying34 (by rw[qV0];decide) (fun n' cs' y _ h _=>uJ1 hw (sp:=sp) h) f1 (fun p hp=>hsp p (by simp[hp]))
 exact trod_struct_mk Tryz.underlying36 hcl (by show(List.mapM (fun f:Field=>_) [_,_])=_;simp only[List.mapM_cons,List.mapM_nil,g0,g1];rfl)
theorem vE0 {n:Nat}{cs:List Value}{x:DataW H × List MemPlace} (h:DataW.trod en prog W 0 (fun _=>true) true n 30 cs=some x)(hsp:∀ p∈x.2,sp p.block=true):DataW.trod en prog W' 0 sp true n 30 cs=some x:=
 gN0 hw Tryz.underlying30 (by rw[nX0];decide) (fun n' cs' y _=>rF0 hw) h hsp
theorem mG0 : ∀ (n:Nat)(cs:List Value)(x:DataW H × List MemPlace),DataW.trod en prog W 0 (fun _=>true) true n 33 cs=some x→(∀ p∈x.2,sp p.block=true)→DataW.trod en prog W' 0 sp true n 33 cs=some x:=by
 intro n
 induction n using Nat.strongRecOn with
 | _ n ih=>
  intro cs x h hsp
  obtain⟨xs,m,rfl,rfl,hcl,hxl,hf⟩:=DataW.trod_struct Tryz.underlying33 h
  obtain⟨x0,x1,x2,x3,x4,rfl⟩:∃ x0 x1 x2 x3 x4,xs=[x0,x1,x2,x3,x4]:=len5 hxl
  have f0:DataW.trod en prog W 0 (fun _=>true) true m 3 ((cs.drop 0).take (prog.cellsOf 3))=some x0:=hf 0 _ rfl
  have f1:DataW.trod en prog W 0 (fun _=>true) true m 3 ((cs.drop 1).take (prog.cellsOf 3))=some x1:=hf 1 _ rfl
  have f2:DataW.trod en prog W 0 (fun _=>true) true m 9 ((cs.drop 2).take (prog.cellsOf 9))=some x2:=hf 2 _ rfl
  have f3:DataW.trod en prog W 0 (fun _=>true) true m 30 ((cs.drop 3).take (prog.cellsOf 30))=some x3:=hf 3 _ rfl
  have f4:DataW.trod en prog W 0 (fun _=>true) true m 31 ((cs.drop 4).take (prog.cellsOf 31))=some x4:=hf 4 _ rfl
  have g0:=gR0 hw (sp:=sp) Tryz.underlying3 f0
  have g1:=gR0 hw (sp:=sp) Tryz.underlying3 f1
  have g2:=hY0 hw (sp:=sp) f2
  have g3:=vE0 hw f3 (fun p hp=>hsp p (by simp[hp]))
  have g4:=gN0 hw Tryz.underlying31 (by rw[lQ0];decide) (fun n' cs' y hn=>ih n' (by omega) cs' y) f4 (fun p hp=>hsp p (by simp[hp]))
  exact trod_struct_mk Tryz.underlying33 hcl (by show(List.mapM (fun f:Field=>_) [_,_,_,_,_])=_;simp only[List.mapM_cons,List.mapM_nil,g0,g1,g2,g3,g4];rfl)
theorem lO1 {n:Nat}{cs:List Value}{x:DataW H × List MemPlace} (h:DataW.trod en prog W 0 (fun _=>true) true n 98 cs=some x)(hsp:∀ p∈x.2,sp p.block=true):DataW.trod en prog W' 0 sp true n 98 cs=some x:=by
 obtain⟨xs,m,rfl,rfl,hcl,hxl,hf⟩:=DataW.trod_struct Tryz.underlying98 h
 obtain⟨x0,x1,rfl⟩:∃ x0 x1,xs=[x0,x1]:=len2 hxl
 have f0:DataW.trod en prog W 0 (fun _=>true) true m 9 ((cs.drop 0).take (prog.cellsOf 9))=some x0:=hf 0 _ rfl
 have f1:DataW.trod en prog W 0 (fun _=>true) true m 33 ((cs.drop 1).take (prog.cellsOf 33))=some x1:=hf 1 _ rfl
 have g0:=hY0 hw (sp:=sp) f0
 have g1:=mG0 hw m _ _ f1 (fun p hp=>hsp p (by simp[hp]))
 exact trod_struct_mk Tryz.underlying98 hcl (by show(List.mapM (fun f:Field=>_) [_,_])=_;simp only[List.mapM_cons,List.mapM_nil,g0,g1];rfl)
theorem rQ1 {n:Nat}{cs:List Value}{x:DataW H × List MemPlace} (h:DataW.trod en prog W 0 (fun _=>true) true n 39 cs=some x)(hsp:∀ p∈x.2,sp p.block=true):DataW.trod en prog W' 0 sp true n 39 cs=some x:=by
 obtain⟨xs,m,rfl,rfl,hcl,hxl,hf⟩:=DataW.trod_struct Tryz.underlying39 h
 obtain⟨x0,x1,x2,x3,x4,x5,x6,x7,x8,rfl⟩:∃ x0 x1 x2 x3 x4 x5 x6 x7 x8,xs=[x0,x1,x2,x3,x4,x5,x6,x7,x8]:=len9 hxl
 have f0:DataW.trod en prog W 0 (fun _=>true) true m 9 ((cs.drop 0).take (prog.cellsOf 9))=some x0:=hf 0 _ rfl
 have f1:DataW.trod en prog W 0 (fun _=>true) true m 3 ((cs.drop 1).take (prog.cellsOf 3))=some x1:=hf 1 _ rfl
 have f2:DataW.trod en prog W 0 (fun _=>true) true m 3 ((cs.drop 2).take (prog.cellsOf 3))=some x2:=hf 2 _ rfl
 have f3:DataW.trod en prog W 0 (fun _=>true) true m 33 ((cs.drop 3).take (prog.cellsOf 33))=some x3:=hf 3 _ rfl
 have f4:DataW.trod en prog W 0 (fun _=>true) true m 33 ((cs.drop 8).take (prog.cellsOf 33))=some x4:=hf 4 _ rfl
 have f5:DataW.trod en prog W 0 (fun _=>true) true m 33 ((cs.drop 13).take (prog.cellsOf 33))=some x5:=hf 5 _ rfl
 have f6:DataW.trod en prog W 0 (fun _=>true) true m 36 ((cs.drop 18).take (prog.cellsOf 36))=some x6:=hf 6 _ rfl
 have f7:DataW.trod en prog W 0 (fun _=>true) true m 36 ((cs.drop 20).take (prog.cellsOf 36))=some x7:=hf 7 _ rfl
 have f8:DataW.trod en prog W 0 (fun _=>true) true m 37 ((cs.drop 22).take (prog.cellsOf 37))=some x8:=hf 8 _ rfl
 have g0:=hY0 hw (sp:=sp) f0
 have g1:=gR0 hw (sp:=sp) Tryz.underlying3 f1
 have g2:=gR0 hw (sp:=sp) Tryz.underlying3 f2
 have g3:=mG0 hw m _ _ f3 (fun p hp=>hsp p (by simp[hp]))
 have g4:=mG0 hw m _ _ f4 (fun p hp=>hsp p (by simp[hp]))
 have g5:=mG0 hw m _ _ f5 (fun p hp=>hsp p (by simp[hp]))
 have g6:=rF0 hw f6 (fun p hp=>hsp p (by simp[hp]))
 have g7:=rF0 hw f7 (fun p hp=>hsp p (by simp[hp]))
 have g8:=gN0 hw Tryz.underlying37 (by rw[wT0];decide) (fun n' cs' y _=>lO1 hw) f8 (fun p hp=>hsp p (by simp[hp]))
 exact trod_struct_mk Tryz.underlying39 hcl (by show(List.mapM (fun f:Field=>_) [_,_,_,_,_,_,_,_,_])=_;simp only[List.mapM_cons,List.mapM_nil,g0,g1,g2,g3,g4,g5,g6,g7,g8];rfl)
theorem vY1 {n:Nat}{cs:List Value}{x:DataW H × List MemPlace} (h:DataW.trod en prog W 0 (fun _=>true) true n 24 cs=some x)(hsp:∀ p∈x.2,sp p.block=true):DataW.trod en prog W' 0 sp true n 24 cs=some x:=by
 obtain⟨xs,m,rfl,rfl,hcl,hxl,hf⟩:=DataW.trod_struct Tryz.underlying24 h
 obtain⟨x0,rfl⟩:∃ x0,xs=[x0]:=len1 hxl
 have f0:DataW.trod en prog W 0 (fun _=>true) true m 22 ((cs.drop 0).take (prog.cellsOf 22))=some x0:=hf 0 _ rfl
 have g0:=gN0 hw Tryz.underlying22 (by rw[wS0];decide) (fun n' cs' y _=>rQ1 hw) f0 (fun p hp=>hsp p (by simp[hp]))
 exact trod_struct_mk Tryz.underlying24 hcl (by show(List.mapM (fun f:Field=>_) [_])=_;simp only[List.mapM_cons,List.mapM_nil,g0];rfl)
end
end
end Go.Proofs.YteenjodhmppgjaaGreatDoor.Am
