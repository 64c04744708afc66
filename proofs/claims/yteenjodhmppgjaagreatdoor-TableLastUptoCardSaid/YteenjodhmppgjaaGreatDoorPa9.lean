/- A part of the proof of a card. No conditions. -/
import Derived.Test.YteenjodhmppgjaaGreatDoorPa8
import Derived.Test.YteenjodhmppgjaaGreatDoorPa7
set_option linter.all false
set_option maxHeartbeats 16000000
set_option maxRecDepth 10000
namespace Go.Proofs.YteenjodhmppgjaaGreatDoor.Am
open Go.Proofs.Tryz
section
open Go
variable (ext:Ext)
def zTm : Tm:= .mk 0 0 ⟨#[]⟩ [] true [] true
theorem xG0 : tmC zTm=[.d (.v (.int .i64 0)),.d (.v (.int .i64 0)),.d (.v (.string ⟨#[]⟩)),.d (.v (.slice none 0 0)),.d (.v (.slice none 0 0))]:=rfl
theorem iR0 (x:Lev):levD x=[.v (.int .i64 x.c),x.d]:=rfl
theorem bsTm {look:Look}{slot:Nat}{a b:Int}{s:ByteArray}{x y:D}:aV0 prog look slot 31 1 [(0,.agg [.d (.v (.int .i64 a)),.d (.v (.int .i64 b)),.d (.v (.string s)),.d x,.d y])]=some ⟨.val (.c (.own slot)),[(slot,.arr 5 [[.v (.int .i64 a),.v (.int .i64 b),.v (.string s),x,y]])],[]⟩:=
 cZ1 (cs:=[.d (.v (.int .i64 a)),.d (.v (.int .i64 b)),.d (.v (.string s)),.d x,.d y]) nG0 hG0 i31 rfl rfl rfl (by decide) (by decide)
def mapE {α β:Type} (f:α→β × Int):List α→List β ⊕ Int
 | []=> .inl []
 | x::l=>if(f x).2=0 then match mapE f l with | .inl r=> .inl ((f x).1::r) | .inr e=> .inr e else .inr (f x).2
def setL (f:Lev→Lev × Int):Tm→Tm × Int
 | .mk op n s u _ l _=>match mapE f u with
  | .inr e=>(zTm,e)
  | .inl u'=>match setLs f l with
   | .inr e=>(zTm,e)
   | .inl l'=>(.mk op n s u' true l' true,0)
where setLs (f:Lev→Lev × Int):List Tm→List Tm ⊕ Int
 | []=> .inl []
 | x::l=>if(setL f x).2=0 then match setLs f l with | .inl r=> .inl ((setL f x).1::r) | .inr e=> .inr e else .inr (setL f x).2
end
section
open Go
variable (ext:Ext)
def mkC (i:Nat):List (List D)→C
 | []=> .d (.v (.slice none 0 0))
 | _::_=> .own i
theorem mJ0 (a b:Int)(s:ByteArray)(u:List Lev)(zu:Bool)(l:List Tm)(zl:Bool):tmC (.mk a b s u zu l zl)=[.d (.v (.int .i64 a)),.d (.v (.int .i64 b)),.d (.v (.string s)),.d (aJ0 zu 2 (u.map levD)),.d (aJ0 zl 5 (l.map tmD))]:=rfl
end
section
open Go
variable (ext:Ext)
end
section
open Go
variable (ext:Ext)
def zL0 : Lev:=⟨0,[],true⟩
def zDc : Dc:=⟨⟨#[]⟩,0,0,zTm,zTm,zTm,zL0,zL0,[],true⟩
theorem aF0 (slot:Nat)(cs:List C)(x:Value)(h:cs.all hH0=true):aY0 [] [] slot (some (.ret [.agg cs,.c (.d (.v x))] []))=some ⟨.val (.tup [(true,cs),(false,[.d (.v x)])]),[],[]⟩:=by
 obtain⟨_,_,h3⟩:=eO0 (look:=fun _=>none) h
 simp only[aY0,bW0,mapO,renV,h3,renC,aZ0,comp,List.length_nil,Nat.lt_irrefl,if_false]
 split <;> rfl
def nT0 (x:Tb)(s:ByteArray):Dc × Bool:=match x.ds.find? (isNm s) with
 | none=>(zDc,false)
 | some d=>if d.kind=1∨d.kind=2∨d.kind=3 then(d,true) else(zDc,false)
theorem pK0 {x:Tb}{s:ByteArray} (h:x.ds.find? (isNm s)=none):find x s = -1:=by
 unfold find idxI
 have:x.ds.findIdx? (isNm s)=none:=by
  rw[List.findIdx?_eq_none_iff];rw[List.find?_eq_none]at h;intro y hy;simpa using h y hy
 rw[this]
theorem kC0 {x:Tb}{s:ByteArray}{d:Dc} (h:x.ds.find? (isNm s)=some d):∃ k:Nat,find x s=k∧x.ds[k]? = some d∧(k:Int)<x.ds.length:=by
 unfold find idxI
 cases hk:x.ds.findIdx? (isNm s) with
 | none=>
  rw[List.findIdx?_eq_none_iff]at hk
  have:=List.find?_some h
  rw[hk d (List.mem_of_find?_eq_some h)]at this;cases this
 | some k=>
  refine⟨k,rfl,?_,?_⟩
  ·have:=List.findIdx?_eq_some_iff_getElem.1 hk
   obtain⟨h1,h2,h3⟩:=this
   rw[List.find?_eq_some_iff_getElem]at h
   obtain⟨h4,i,h5,h6,h7⟩:=h
   have:i=k:=by
    rcases Nat.lt_trichotomy i k with hlt | heq | hgt
    ·have:=h3 i hlt;rw[h6]at this;exact absurd h4 this
    ·exact heq
    ·have:=h7 k hgt;simp[h2]at this
   subst this
   simp[h5,h6]
  ·have:=(List.findIdx?_eq_some_iff_getElem.1 hk).1;omega
theorem xO0 (hx:ext 78=none)(h22:ext 22=none)(h69:ext 69=none)(h70:ext 70=none)(x:Tb)(s:ByteArray)(hs:x.ds.length<2^50):run prog ext (.call 78 [tbV x,sV s] [])=some (.ret [dcV (nT0 x s).1,bV (nT0 x s).2] []):=by
 have hr:=dZ1 ext h22 h69 h70 x s hs
 unfold nT0
 cases hf:x.ds.find? (isNm s) with
 | none=>
  rw[pK0 hf]at hr
  (rw[enT hx func78 rfl];simp only[f78,zR,simprocAttr,zE])
  simp only[dcV,tbV,tbC,sV,iV,bV]at hr ⊢
  simp only[zS,zD,zT24,zT39,hr,simprocAttr]
  (refine .trans ?_ rfl;kernel_rfl)
 | some d=>
  obtain⟨k,e1,hk,hl⟩:=kC0 hf
  have h0:(0:Int)≤k:=by omega
  have h0':¬ ((k:Int)<0):=by omega
  rw[e1]at hr
  dsimp only
  by_cases c1:d.kind=1
  ·rw[if_pos (.inl c1)]
   (rw[enT hx func78 rfl];simp only[f78,zR,simprocAttr,zE])
   simp only[dcV,dcC,tbV,tbC,sV,iV,bV,dW0 h0 hl]at hr ⊢
   simp only[zS,zD,zT24,zT39,zT22,zT3,hr,h0,h0',hl,Int.toNat_natCast,hk,dF0 d,c1,simprocAttr]
   (refine .trans ?_ rfl;kernel_rfl)
  by_cases c2:d.kind=2
  ·rw[if_pos (.inr (.inl c2))]
   (rw[enT hx func78 rfl];simp only[f78,zR,simprocAttr,zE])
   simp only[dcV,dcC,tbV,tbC,sV,iV,bV,dW0 h0 hl]at hr ⊢
   simp only[zS,zD,zT24,zT39,zT22,zT3,hr,h0,h0',hl,Int.toNat_natCast,hk,dF0 d,c2,simprocAttr]
   (refine .trans ?_ rfl;kernel_rfl)
  by_cases c3:d.kind=3
  ·rw[if_pos (.inr (.inr c3))]
   (rw[enT hx func78 rfl];simp only[f78,zR,simprocAttr,zE])
   simp only[dcV,dcC,tbV,tbC,sV,iV,bV,dW0 h0 hl]at hr ⊢
   simp only[zS,zD,zT24,zT39,zT22,zT3,hr,h0,h0',hl,Int.toNat_natCast,hk,dF0 d,c3,simprocAttr]
   (refine .trans ?_ rfl;kernel_rfl)
  rw[if_neg (by rintro(h | h | h) <;> contradiction)]
  (rw[enT hx func78 rfl];simp only[f78,zR,simprocAttr,zE])
  simp only[dcV,tbV,tbC,sV,iV,bV,dW0 h0 hl]at hr ⊢
  simp only[zS,zD,zT24,zT39,zT22,zT3,hr,h0,h0',hl,Int.toNat_natCast,hk,dF0 d,c1,c2,c3,simprocAttr]
  (refine .trans ?_ rfl;kernel_rfl)
theorem wQ2 (hx:ext 80=none)(h37:ext 37=none)(x:Tb)(s:ByteArray)(hs:x.ds.length<2^50):run prog ext (.call 80 [tbV x,sV s] [])=some (.ret [dcV (nT0 x s).1,bV (nT0 x s).2] []):=by
 have hr:=uQ1 ext h37 x s hs
 unfold nT0
 cases hf:x.ds.find? (isNm s) with
 | none=>
  rw[pK0 hf]at hr
  (rw[enT hx func80 rfl];simp only[f80,zR,simprocAttr,zE])
  simp only[dcV,tbV,tbC,sV,iV,bV]at hr ⊢
  simp only[zS,zD,zT24,zT39,hr,simprocAttr]
  (refine .trans ?_ rfl;kernel_rfl)
 | some d=>
  obtain⟨k,e1,hk,hl⟩:=kC0 hf
  have h0:(0:Int)≤k:=by omega
  have h0':¬ ((k:Int)<0):=by omega
  rw[e1]at hr
  dsimp only
  by_cases c1:d.kind=1
  ·rw[if_pos (.inl c1)]
   (rw[enT hx func80 rfl];simp only[f80,zR,simprocAttr,zE])
   simp only[dcV,dcC,tbV,tbC,sV,iV,bV,dW0 h0 hl]at hr ⊢
   simp only[zS,zD,zT24,zT39,zT22,zT3,hr,h0,h0',hl,Int.toNat_natCast,hk,dF0 d,c1,simprocAttr]
   (refine .trans ?_ rfl;kernel_rfl)
  by_cases c2:d.kind=2
  ·rw[if_pos (.inr (.inl c2))]
   (rw[enT hx func80 rfl];simp only[f80,zR,simprocAttr,zE])
   simp only[dcV,dcC,tbV,tbC,sV,iV,bV,dW0 h0 hl]at hr ⊢
   simp only[zS,zD,zT24,zT39,zT22,zT3,hr,h0,h0',hl,Int.toNat_natCast,hk,dF0 d,c2,simprocAttr]
   (refine .trans ?_ rfl;kernel_rfl)
  by_cases c3:d.kind=3
  ·rw[if_pos (.inr (.inr c3))]
   (rw[enT hx func80 rfl];simp only[f80,zR,simprocAttr,zE])
   simp only[dcV,dcC,tbV,tbC,sV,iV,bV,dW0 h0 hl]at hr ⊢
   simp only[zS,zD,zT24,zT39,zT22,zT3,hr,h0,h0',hl,Int.toNat_natCast,hk,dF0 d,c3,simprocAttr]
   (refine .trans ?_ rfl;kernel_rfl)
  rw[if_neg (by rintro(h | h | h) <;> contradiction)]
  (rw[enT hx func80 rfl];simp only[f80,zR,simprocAttr,zE])
  simp only[dcV,tbV,tbC,sV,iV,bV,dW0 h0 hl]at hr ⊢
  simp only[zS,zD,zT24,zT39,zT22,zT3,hr,h0,h0',hl,Int.toNat_natCast,hk,dF0 d,c1,c2,c3,simprocAttr]
  (refine .trans ?_ rfl;kernel_rfl)
end
section
open Go
variable (ext:Ext)
def typeOf (f:Lev→Lev × Int)(x:Tb)(s:ByteArray)(n:Nat):Tm × Int:=
 if(nT0 x s).2=true then if(n:Int)=(nT0 x s).1.levels then setL f (nT0 x s).1.type else(zTm,42) else(zTm,3)
end
section
open Go
variable (ext:Ext)
def dC (P:Program)(rec:Rec)(nt:Nat)(all:Array Oper)(base:Nat)(l:List Oper)(i:Nat)(env:Env)(loc:List O)(acc:List (List Nat × List Nat))(k:Env→List O→List (List Nat × List Nat)→Option Out):Option Out:=
 match aK0 P rec nt all base l i env loc with
 | some r=>k r.1 r.2.1 (acc.reverseAux r.2.2)
 | none=>none
def dcV1 (P:Program)(rec:Rec)(nt:Nat)(all:Array Oper)(base:Nat)(o:Oper)(l:List Oper)(i:Nat)(env:Env)(loc:List O)(acc:List (List Nat × List Nat))(k:Env→List O→List (List Nat × List Nat)→Option Out)(e:Option Eff):Option Out:=
 match e with
 | some { res:= .val v,upd,rd }=>if upd.all (fun p=>decide (p.1≤base+i))=true then dC P rec nt all base l (i+1) (putO env o.dst v) (updO loc upd) ((rd,(base+i)::upd.map (·.1))::acc) k else none
 | _=>none
def dcW (P:Program)(rec:Rec)(nt:Nat)(all:Array Oper)(base:Nat)(o:Oper)(l:List Oper)(i:Nat)(env:Env)(loc:List O)(acc:List (List Nat × List Nat))(k:Env→List O→List (List Nat × List Nat)→Option Out)(w:Option Bool):Option Out:=
 match w with
 | some true=>dcV1 P rec nt all base o l i env loc acc k (opA P rec (lk loc) (base+i) (ev env) o.op)
 | some false=>dC P rec nt all base l (i+1) (putO env o.dst (.tup [])) loc (([],[base+i])::acc) k
 | none=>none
theorem bN0 (P:Program)(rec:Rec)(nt:Nat)(all:Array Oper)(base i:Nat)(env:Env)(loc:List O)(acc:List (List Nat × List Nat))(k:Env→List O→List (List Nat × List Nat)→Option Out):dC P rec nt all base [] i env loc acc k=k env loc (acc.reverseAux []):=rfl
theorem bA0 (P:Program)(rec:Rec)(nt:Nat)(all:Array Oper)(base:Nat)(o:Oper)(l:List Oper)(i:Nat)(env:Env)(loc:List O)(acc:List (List Nat × List Nat))(k:Env→List O→List (List Nat × List Nat)→Option Out) :
  dC P rec nt all base (o::l) i env loc acc k=if rD0 nt o.dst=true then dcW P rec nt all base o l i env loc acc k (wantedA all env o.guard) else none:=by
 unfold dC
 rw[aK0]
 by_cases hd:rD0 nt o.dst=true
 ·rw[if_pos hd,if_pos hd]
  cases hw:wantedA all env o.guard with
  | none=>rfl
  | some b=>
   cases b with
   | false=>
    simp only[dcW,dC]
    cases aK0 P rec nt all base l (i+1) (putO env o.dst (.tup [])) loc with
    | none=>rfl
    | some r=>rfl
   | true=>
    simp only[dcW]
    cases opA P rec (lk loc) (base+i) (ev env) o.op with
    | none=>rfl
    | some e=>
     obtain⟨r,upd,rd⟩:=e
     cases r with
     | val v=>
      simp only[dcV1,dC]
      by_cases hu:upd.all (fun p=>decide (p.1≤base+i))=true
      ·rw[if_pos hu,if_pos hu]
       cases aK0 P rec nt all base l (i+1) (putO env o.dst v) (updO loc upd) with
       | none=>rfl
       | some r=>rfl
      ·rw[if_neg hu,if_neg hu]
     | _=>rfl
 ·rw[if_neg hd,if_neg hd]
theorem aQ0 (P:Program)(rec:Rec)(nt:Nat)(all:Array Oper)(base:Nat)(o:Oper)(l:List Oper)(i:Nat)(env:Env)(loc:List O)(acc:List (List Nat × List Nat))(k:Env→List O→List (List Nat × List Nat)→Option Out) :
  dcW P rec nt all base o l i env loc acc k (some true)=dcV1 P rec nt all base o l i env loc acc k (opA P rec (lk loc) (base+i) (ev env) o.op):=rfl
theorem aO0 (P:Program)(rec:Rec)(nt:Nat)(all:Array Oper)(base:Nat)(o:Oper)(l:List Oper)(i:Nat)(env:Env)(loc:List O)(acc:List (List Nat × List Nat))(k:Env→List O→List (List Nat × List Nat)→Option Out) :
  dcW P rec nt all base o l i env loc acc k (some false)=dC P rec nt all base l (i+1) (putO env o.dst (.tup [])) loc (([],[base+i])::acc) k:=rfl
theorem aP0 (P:Program)(rec:Rec)(nt:Nat)(all:Array Oper)(base:Nat)(o:Oper)(l:List Oper)(i:Nat)(env:Env)(loc:List O)(acc:List (List Nat × List Nat))(k:Env→List O→List (List Nat × List Nat)→Option Out)(v:V)(upd:List (Nat × O))(rd:List Nat) :
  dcV1 P rec nt all base o l i env loc acc k (some ⟨.val v,upd,rd⟩)=if upd.all (fun p=>decide (p.1≤base+i))=true then dC P rec nt all base l (i+1) (putO env o.dst v) (updO loc upd) ((rd,(base+i)::upd.map (·.1))::acc) k else none:=rfl
theorem bB0 {P:Program}{rec:Rec}{cf:Cf}{ops:Array Oper}{K:List It}{env env':Env}{loc loc':List O}{nt:Nat}{base:Nat}{l:List Oper}{i:Nat}{o:Out}
  (h:dC P rec nt ops base l i env' loc' [] (fun e lo fps=>eD0 rec cf ops K (some (e,lo,fps)))=some o):qB2 P rec cf ops K env loc (aK0 P rec nt ops base l i env' loc')=some o:=by
 unfold dC at h
 cases hd:aK0 P rec nt ops base l i env' loc' with
 | none=>rw[hd]at h;cases h
 | some r=>rw[hd]at h;exact h
end
section
open Go
theorem xI1 (a b:Int):mx a b=max a b:=by unfold mx;split <;> omega
def lkp (v:Int):List LV→Int
 | []=> -1
 | y::l=>if y.v=v then max y.p (lkp v l) else lkp v l
def Srt (l:List LV):Prop:=l.Pairwise (fun a b=>a.v<b.v)
def NN (l:List LV):Prop:=∀ y∈l,0≤y.p
theorem rW0 (v:Int):∀ l,-1≤lkp v l
 | []=>by simp[lkp]
 | y::l=>by have:=rW0 v l;unfold lkp;split <;> omega
theorem mK1 (v n:Int):∀ l,lkp v l≤n ↔ -1≤n∧∀ y∈l,y.v=v→y.p≤n
 | []=>by simp[lkp]
 | y::l=>by
  have ih:=mK1 v n l
  unfold lkp
  simp only[List.mem_cons,forall_eq_or_imp]
  split
  ·rename_i h
   rw[Int.max_le,ih]
   constructor
   ·rintro⟨a,b,c⟩;exact⟨b,fun _=>a,c⟩
   ·rintro⟨a,b,c⟩;exact⟨b h,a,c⟩
  ·rename_i h
   rw[ih]
   constructor
   ·rintro⟨b,c⟩;exact⟨b,fun e=>absurd e h,c⟩
   ·rintro⟨a,b,c⟩;exact⟨a,c⟩
theorem wQ1 {v:Int}{l:List LV}{y:LV} (h:y∈l)(hv:y.v=v):y.p≤lkp v l:=((mK1 v (lkp v l) l).1 (Int.le_refl _)).2 y h hv
theorem wZ1 {v:Int}{l m:List LV} (h:∀ y∈l,y∈m):lkp v l≤lkp v m:=(mK1 v _ l).2 ⟨rW0 v m,fun y hy hv=>wQ1 (h y hy) hv⟩
theorem wY1 {v:Int}{l m:List LV} (h:∀ y,y∈l↔y∈m):lkp v l=lkp v m:=Int.le_antisymm (wZ1 fun y hy=>(h y).1 hy) (wZ1 fun y hy=>(h y).2 hy)
theorem sX0 {v:Int}{l:List LV} (h:∀ y∈l,y.v≠v):lkp v l = -1:=
 Int.le_antisymm ((mK1 v _ l).2 ⟨by omega,fun y hy hv=>absurd hv (h y hy)⟩) (rW0 v l)
theorem uniq : ∀ {l m:List LV},Srt l→Srt m→NN l→NN m→(∀ v,lkp v l=lkp v m)→l=m
 | [],[],_,_,_,_,_=>rfl
 | [],y::m,_,_,_,n2,h=>by
  have:=wQ1 (v:=y.v) (List.mem_cons_self:y∈y::m) rfl
  rw[← h,lkp]at this
  have:=n2 y List.mem_cons_self;omega
 | x::l,[],_,_,n1,_,h=>by
  have:=wQ1 (v:=x.v) (List.mem_cons_self:x∈x::l) rfl
  rw[h,lkp]at this
  have:=n1 x List.mem_cons_self;omega
 | x::l,y::m,s1,s2,n1,n2,h=>by
  obtain⟨a1,b1⟩:=List.pairwise_cons.1 s1
  obtain⟨a2,b2⟩:=List.pairwise_cons.1 s2
  have hx:=n1 x List.mem_cons_self
  have hy:=n2 y List.mem_cons_self
  have lx:lkp x.v l = -1:=sX0 fun e he=>by have:=a1 e he;omega
  have ly:lkp y.v m = -1:=sX0 fun e he=>by have:=a2 e he;omega
  have hvv:x.v=y.v:=by
   rcases Int.lt_trichotomy x.v y.v with hlt | heq | hgt
   ·have h1:=h x.v
    rw[sX0 (l:=y::m) (v:=x.v) (by
     intro e he
     rcases List.mem_cons.1 he with rfl | he
     ·omega
     ·have:=a2 e he;omega)]at h1
    simp only[lkp,if_true]at h1
    omega
   ·exact heq
   ·have h1:=h y.v
    rw[sX0 (l:=x::l) (v:=y.v) (by
     intro e he
     rcases List.mem_cons.1 he with rfl | he
     ·omega
     ·have:=a1 e he;omega)]at h1
    simp only[lkp,if_true]at h1
    omega
  have h1:=h x.v
  rw[← hvv]at ly
  simp only[lkp,hvv,if_true]at h1
  rw[hvv]at lx ly
  have hp:x.p=y.p:=by omega
  have e:x=y:=by cases x;cases y;simp_all
  subst e
  rw[uniq b1 b2 (fun z hz=>n1 z (List.mem_cons_of_mem _ hz)) (fun z hz=>n2 z (List.mem_cons_of_mem _ hz)) (fun v=>by
   have:=h v
   simp only[lkp]at this
   by_cases hv:x.v=v
   ·subst hv;rw[lx,ly]
   ·simpa [hv] using this)]
def ins (x:LV):List LV→List LV
 | []=>[x]
 | y::l=>if x.v<y.v then x::y::l else if x.v=y.v then⟨y.v,mx x.p y.p⟩::l else y::ins x l
theorem aM1 (x:LV):∀ (l a:List LV),(∀ y∈l,x.v≠y.v)→l.foldl (bY0 x) (a,true)=(a++l,true)
 | [],a,_=>by simp
 | y::l,a,h=>by
  have h1:=h y List.mem_cons_self
  rw[List.foldl_cons]
  have e:bY0 x (a,true) y=(a++[y],true):=by simp[bY0,h1]
  rw[e,aM1 x l _ fun z hz=>h z (List.mem_cons_of_mem _ hz)]
  simp
theorem mZ1 (x:LV):∀ (l a:List LV),Srt l→(let s:=l.foldl (bY0 x) (a,false);if s.2 then s.1 else s.1++[x])=a++ins x l
 | [],a,_=>by simp[ins]
 | y::l,a,h=>by
  obtain⟨h1,h2⟩:=List.pairwise_cons.1 h
  rw[List.foldl_cons]
  unfold ins
  by_cases c:x.v<y.v
  ·have e:bY0 x (a,false) y=(a++[x]++[y],true):=by
    have:¬ x.v=y.v:=by omega
    simp[bY0,c,this]
   rw[e,aM1 x l _ fun z hz=>by have:=h1 z hz;omega]
   simp[c]
  ·by_cases d:x.v=y.v
   ·have e:bY0 x (a,false) y=(a++[⟨y.v,mx x.p y.p⟩],true):=by
     simp[bY0,d]
    rw[e,aM1 x l _ fun z hz=>by have:=h1 z hz;omega]
    simp[d]
   ·have e:bY0 x (a,false) y=(a++[y],false):=by
     simp[bY0,c,d]
    rw[e]
    have:=mZ1 x l (a++[y]) h2
    rw[this]
    simp[c,d]
theorem hB2 {l:List LV} (x:LV)(h:Srt l):putL l x=ins x l:=by simpa [putL] using mZ1 x l [] h
theorem wI1 {x y:LV}:∀ {l:List LV},y∈ins x l→y.v=x.v∨y∈l
 | [],h=>by simp[ins]at h;exact .inl (by rw[h])
 | z::l,h=>by
  unfold ins at h
  split at h
  ·rcases List.mem_cons.1 h with rfl | h
   ·exact .inl rfl
   ·exact .inr h
  ·split at h
   ·rename_i e
    rcases List.mem_cons.1 h with rfl | h
    ·exact .inl e.symm
    ·exact .inr (List.mem_cons_of_mem _ h)
   ·rcases List.mem_cons.1 h with rfl | h
    ·exact .inr List.mem_cons_self
    ·rcases wI1 h with h | h
     ·exact .inl h
     ·exact .inr (List.mem_cons_of_mem _ h)
theorem wJ1 (x:LV):∀ {l:List LV},Srt l→Srt (ins x l)
 | [],_=>by simp[ins,Srt]
 | y::l,h=>by
  obtain⟨h1,h2⟩:=List.pairwise_cons.1 h
  unfold ins
  split
  ·rename_i c
   refine List.pairwise_cons.2 ⟨fun z hz=> ?_,h⟩
   rcases List.mem_cons.1 hz with rfl | hz
   ·exact c
   ·have:=h1 z hz;omega
  ·split
   ·exact List.pairwise_cons.2 ⟨fun z hz=>h1 z hz,h2⟩
   ·refine List.pairwise_cons.2 ⟨fun z hz=> ?_,wJ1 x h2⟩
    rcases wI1 hz with hz | hz
    ·omega
    ·exact h1 z hz
theorem kH2 {x:LV} (hx:0≤x.p):∀ {l:List LV},NN l→NN (ins x l)
 | [],_=>by intro y hy;simp[ins]at hy;rw[hy];exact hx
 | z::l,h=>by
  have hz:=h z List.mem_cons_self
  have ih:=kH2 hx (l:=l) fun e he=>h e (List.mem_cons_of_mem _ he)
  unfold ins
  intro y hy
  split at hy
  ·rcases List.mem_cons.1 hy with rfl | hy
   ·exact hx
   ·exact h y hy
  ·split at hy
   ·rcases List.mem_cons.1 hy with rfl | hy
    ·show 0≤mx x.p z.p
     rw[xI1];omega
    ·exact h y (List.mem_cons_of_mem _ hy)
   ·rcases List.mem_cons.1 hy with rfl | hy
    ·exact hz
    ·exact ih y hy
theorem wH1 (x:LV)(v:Int):∀ (l:List LV),lkp v (ins x l)=max (if x.v=v then x.p else -1) (lkp v l)
 | []=>by
  simp only[ins,lkp]
  split <;> omega
 | y::l=>by
  have ih:=wH1 x v l
  have g:=rW0 v l
  unfold ins
  split
  ·simp only[lkp]
   split <;> split <;> omega
  ·split
   ·rename_i e
    simp only[lkp,xI1,e]
    split <;> omega
   ·simp only[lkp,ih]
    split <;> split <;> omega
theorem yU1 : ∀ (l acc:List LV),Srt acc→NN acc→NN l→Srt (l.foldl putL acc)∧NN (l.foldl putL acc)∧∀ v,lkp v (l.foldl putL acc)=max (lkp v acc) (lkp v l)
 | [],acc,h1,h2,_=>⟨h1,h2,fun v=>by have:=rW0 v acc;simp only[List.foldl_nil,lkp];omega⟩
 | x::l,acc,h1,h2,h3=>by
  have hx:=h3 x List.mem_cons_self
  rw[List.foldl_cons,hB2 x h1]
  obtain⟨a,b,c⟩:=yU1 l (ins x acc) (wJ1 x h1) (kH2 hx h2) fun e he=>h3 e (List.mem_cons_of_mem _ he)
  refine⟨a,b,fun v=> ?_⟩
  have:=rW0 v acc
  have:=rW0 v l
  rw[c,wH1]
  simp only[lkp]
  split <;> omega
theorem mF1 (x:LV):∀ (r s:List LV),Srt (r.reverse++s)→(∀ y∈s,x.v<y.v)→(∀ y∈r,y.v≠x.v)→Srt (insR x r s)
 | [],s,h,h1,_=>by
  rw[insR]
  exact List.pairwise_cons.2 ⟨h1,by simpa [Srt] using h⟩
 | y::r,s,h,h1,h2=>by
  have hy:=h2 y List.mem_cons_self
  rw[List.reverse_cons,List.append_assoc,List.singleton_append]at h
  unfold insR
  split
  ·rename_i c
   refine mF1 x r (y::s) h ?_ fun z hz=>h2 z (List.mem_cons_of_mem _ hz)
   intro z hz
   rcases List.mem_cons.1 hz with rfl | hz
   ·exact c
   ·exact h1 z hz
  ·rename_i c
   rw[List.reverse_cons,List.append_assoc,List.singleton_append]
   unfold Srt at h ⊢
   rw[List.pairwise_append]at h ⊢
   obtain⟨p1,p2,p3⟩:=h
   obtain⟨q1,q2⟩:=List.pairwise_cons.1 p2
   refine⟨p1,List.pairwise_cons.2 ⟨?_,List.pairwise_cons.2 ⟨h1,q2⟩⟩,?_⟩
   ·intro z hz
    rcases List.mem_cons.1 hz with rfl | hz
    ·omega
    ·exact q1 z hz
   ·intro w hw z hz
    have hwy:=p3 w hw y List.mem_cons_self
    rcases List.mem_cons.1 hz with rfl | hz
    ·exact hwy
    ·rcases List.mem_cons.1 hz with rfl | hz
     ·omega
     ·have:=q1 z hz;omega
theorem eN1 : ∀ (r acc:List LV),Srt acc→(acc++r).Pairwise (fun a b=>a.v≠b.v)→Srt (pO0 acc r)
 | [],acc,h,_=>by rw[pO0];exact h
 | x::r,acc,h,h1=>by
  rw[pO0]
  have hx:∀ y∈acc,y.v≠x.v:=fun y hy=>(List.pairwise_append.1 h1).2.2 y hy x List.mem_cons_self
  have hs:Srt (insR x acc.reverse []):=mF1 x acc.reverse [] (by simpa using h) (by simp) fun y hy=>hx y (by simpa using hy)
  refine eN1 r _ hs ?_
  have hp:∀ {a b:LV},a.v≠b.v→b.v≠a.v:=fun h e=>h e.symm
  have hs':(insR x acc.reverse []).Pairwise (fun a b=>a.v≠b.v):=hs.imp fun {a b} h=>by omega
  obtain⟨p1,p2,p3⟩:=List.pairwise_append.1 h1
  obtain⟨q1,q2⟩:=List.pairwise_cons.1 p2
  refine List.pairwise_append.2 ⟨hs',q2,fun a ha b hb=> ?_⟩
  rcases(zW0 x acc.reverse [] a).1 ha with rfl | ha | ha
  ·exact q1 b hb
  ·exact p3 a (by simpa using ha) b (List.mem_cons_of_mem _ hb)
  ·cases ha
theorem zL1 {l:List LV} (h:l.Pairwise (fun a b=>a.v≠b.v)):Srt (gU0 l):=by
 cases l with
 | nil=>exact List.Pairwise.nil
 | cons a r=>unfold gU0;exact eN1 r [a] (by simp[Srt]) (by simpa using h)
end
section
open Go
theorem iT2 {x:Lev} (h:x.valid=true):∀ y∈x.vs,0≤y.v∧0≤y.p∧y.p≤1000:=by
 intro y hy
 obtain⟨k,hk⟩:=List.getElem?_of_mem hy
 have:=aK1 h hk
 simp[okLV]at this;omega
theorem wX2 {x:Lev} (h:x.valid=true):0≤x.c∧x.c≤1000:=by
 unfold Lev.valid at h
 simp only[Bool.and_eq_true,decide_eq_true_eq]at h
 exact⟨h.1.1.1,h.1.1.2⟩
theorem iS2 {x:Lev} (h:x.valid=true):x.vs.Pairwise (fun a b=>a.v≠b.v):=by
 unfold Lev.valid at h
 simp only[Bool.and_eq_true,Option.isNone_iff_eq_none]at h
 have hn:=uA0.1 h.2
 rw[List.pairwise_iff_getElem]
 intro i j hi hj hij e
 have:=hn j x.vs[j] (by simp[hj])
 simp only[Nat.zero_add,jY0,Bool.or_eq_false_iff,List.any_eq_false]at this
 have h2:=this.2 x.vs[i] (by
  rw[List.mem_take_iff_getElem]
  exact⟨i,by omega,rfl⟩)
 simp[e]at h2
theorem wR1 (c:Int):∀ (l:List LV)(m:Int),c≤l.foldl (fun m x=>mx m x.p) m↔c≤m∨∃ y∈l,c≤y.p
 | [],m=>by simp
 | x::l,m=>by
  rw[List.foldl_cons,wR1 c l,xI1]
  simp only[List.mem_cons,exists_eq_or_imp]
  rw[← or_assoc]
  have:c≤max m x.p↔c≤m∨c≤x.p:=by omega
  rw[this]
theorem sU0 (c:Int)(l:List LV):c≤sJ0 l↔c ≤ -1∨∃ y∈l,c≤y.p:=wR1 c l (-1)
theorem iE1 : ∀ (l:List LV)(c:Int),NN l→0≤c→l.foldl oZ1 c=if c≤sJ0 l then 0 else c
 | [],c,_,h=>by
  have e:=sU0 c []
  rw[List.foldl_nil,if_neg (by
   rw[e]
   rintro(h | ⟨_,h,_⟩)
   ·omega
   ·cases h)]
 | x::l,c,h,hc=>by
  have hx:=h x List.mem_cons_self
  have hl:NN l:=fun y hy=>h y (List.mem_cons_of_mem _ hy)
  have e:=sU0 c (x::l)
  have e':=sU0 c l
  simp only[List.mem_cons,exists_eq_or_imp]at e
  rw[List.foldl_cons]
  have eu:oZ1 c x=if x.p≥c then 0 else c:=rfl
  rw[eu]
  by_cases h1:x.p≥c
  ·rw[if_pos h1,iE1 l 0 hl (by omega),if_pos (e.2 (.inr (.inl h1)))]
   split <;> rfl
  ·rw[if_neg h1,iE1 l c hl hc]
   by_cases h2:c≤sJ0 l
   ·rw[if_pos h2,if_pos]
    rw[e]
    rcases e'.1 h2 with h | h
    ·exact .inl h
    ·exact .inr (.inr h)
   ·rw[if_neg h2,if_neg]
    rw[e]
    rintro(h | h | h)
    ·omega
    ·omega
    ·exact h2 (e'.2 (.inr h))
end
section
open Go
variable (ext:Ext)
end
section
open Go
theorem sC2 {x y:LV} (h:lvD x=lvD y):x=y:=by
 cases x;cases y
 simp only[lvD,List.cons.injEq,D.v.injEq,Value.int.injEq,true_and,and_true]at h
 simp[h.1,h.2]
theorem oP0 : ∀ {l m:List LV},l.map lvD=m.map lvD→l=m
 | [],[],_=>rfl
 | [],_::_,h=>by cases h
 | _::_,[],h=>by cases h
 | x::l,y::m,h=>by
  simp only[List.map_cons,List.cons.injEq]at h
  rw[sC2 h.1,oP0 h.2]
theorem wW1 {z z':Bool}{l m:List LV} (h:aJ0 z 2 (l.map lvD)=aJ0 z' 2 (m.map lvD)):l=m:=by
 unfold aJ0 at h
 by_cases h1:z=true∧l.map lvD=[]
 ·by_cases h2:z'=true∧m.map lvD=[]
  ·exact oP0 (h1.2.trans h2.2.symm)
  ·rw[if_pos h1,if_neg h2]at h;cases h
 ·by_cases h2:z'=true∧m.map lvD=[]
  ·rw[if_neg h1,if_pos h2]at h;cases h
  ·rw[if_neg h1,if_neg h2]at h
   injection h with _ h
   exact oP0 h
def R121 (args:List V)(objs:List O)(out:Out):Prop:=∃ (z:Bool)(l:List LV),l.length≤8∧args=[dV (aJ0 z 2 (l.map lvD))]∧objs=[]∧out=bC1 l
theorem bK2 {args:List V}{objs:List O}{o1 o2:Out} (h1:R121 args objs o1)(h2:R121 args objs o2):o1=o2:=by
 obtain⟨z,l,_,a,_,rfl⟩:=h1
 obtain⟨z',l',_,b,_,rfl⟩:=h2
 have:dV (aJ0 z 2 (l.map lvD))=dV (aJ0 z' 2 (l'.map lvD)):=by
  have:=a.symm.trans b
  injection this
 unfold dV at this
 injection this with this
 injection this with this
 rw[wW1 this]
open Classical in
noncomputable def g121 (args:List V)(objs:List O):Option Out:=if h:∃ out,R121 args objs out then some h.choose else none
theorem qO2 {args:List V}{objs:List O}{out:Out} (h:R121 args objs out):g121 args objs=some out:=by
 unfold g121
 rw[dif_pos ⟨out,h⟩]
 exact congrArg some (bK2 (Exists.choose_spec (⟨out,h⟩:∃ out,R121 args objs out)) h)
theorem nJ2 {args:List V}{objs:List O}{out:Out} (h:g121 args objs=some out):R121 args objs out:=by
 unfold g121 at h
 split at h
 ·rename_i h';cases h;exact h'.choose_spec
 ·cases h
theorem nil121 : dZ0 prog 121 [dV (.v (.slice none 0 0))] [] (.ret [dV (.s 2 [])] []):=by
 intro w F β vals hsim hall
 cases hall with
 | cons h t=>
  cases t
  have h':RepD w (Nn w F β (lk [])) _ (.v (.slice none 0 0)):=h
  cases h'
  exact kQ2 w F β _ hsim (.cons (.e none 0 2) .nil)
theorem nK2 {args:List V}{objs:List O}{out:Out} (h:R121 args objs out):dZ0 prog 121 args objs out:=by
 obtain⟨z,l,hl,rfl,rfl,rfl⟩:=h
 cases l with
 | nil=>
  cases z with
  | true=>exact nil121
  | false=>exact kQ2
 | cons x l=>
  have e:aJ0 z 2 ((x::l).map lvD) = .s 2 ((x::l).map lvD):=dV0 (by simp)
  rw[e]
  exact oF0 (sortN x l (by simp at hl;omega)) pE0
def g14 (args:List V)(objs:List O):Option Out:=match args,objs with
 | [],[]=>some (.ret [bV true] [])
 | _,_=>none
noncomputable def E1 : Ext:=fun f=>if f=121 then some g121 else if f=14 then some g14 else none
theorem ex1 (n:FuncId)(h1:n≠14)(h2:n≠121):E1 n=none:=by unfold E1;rw[if_neg h2,if_neg h1]
end
end Go.Proofs.YteenjodhmppgjaaGreatDoor.Am
