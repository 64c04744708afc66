/- A part of the proof of a card. No conditions. -/
import Derived.Test.YteenjodhmppgjaaGreatDoorPe7
set_option linter.all false
set_option maxHeartbeats 16000000
set_option maxRecDepth 10000
namespace Go.Proofs.YteenjodhmppgjaaGreatDoor.Am
open Go.Proofs.Tryz
section
open Go
variable (ext:Ext)
noncomputable def B4 : Code:=(f4.body.getD .skip)
noncomputable def L4a : Code:=sub B4 [1,1,1,0,1,0,0]
theorem hL4a : It.code L4a=It.code (sub B4 [1,1,1,0,1,0,0]):=rfl
noncomputable def K4a : List It:=[.inBlock 0,.code (sub B4 [1,1,1,1])]
noncomputable def H4a (ext:Ext)(m:Nat)(env:Env)(loc:List O):Option Out:=run prog ext (.k ⟨79,m,[.tmp 4],false⟩ (.code L4a :: .inLoop L4a::K4a) env loc)
section
variable {look:Look}{slot:Nat}
theorem z22 : (dT0 prog 39).map List.length=some 23:=by rw[bM1];rfl
theorem i22 : (dT0 prog 39).isSome=true:=by rw[bM1];rfl
theorem oo22 {id j:Nat}:bI0 prog look slot [22,22] [.c (.own id),.c (.own j)]=apG 23 360 slot id j (look id) (look j) (apD prog look slot 22 (.c (.own id)) (.c (.own j))):=cN1 sS0 iF0 uW0 z22 (by decide) id j
theorem no22 {j:Nat}:bI0 prog look slot [22,22] [.c (.d (.v (.slice none 0 0))),.c (.own j)]=apH 23 360 slot j (look j) (apD prog look slot 22 (.c (.d (.v (.slice none 0 0)))) (.c (.own j))):=cM1 sS0 iF0 uW0 z22 (by decide) j
theorem bs22 {d:Dc}:aV0 prog look slot 22 1 [(0,.agg (dcC d))]=some ⟨.val (.c (.own slot)),[(slot,.arr 23 [dcD d])],[]⟩:=
 cZ1 (cs:=dcC d) (ds:=dcD d) (own:=[]) sS0 iF0 i22 rfl (by simp only[dcC,dF0];rfl) (by rw[dF0];rfl) (by decide) (by decide)
end
def bxT (ls:List Dc):C:=match ls with | []=> .d (.v (.slice none 0 0)) | _::_=> .own 2
def E4 (n k:Int):Env:=[(1,iV n),(2,.c (.ptr 0 0)),(5,.c (.ptr 1 0)),(6,iV k)]
def O4 (x:Tb)(ls:List Dc):List O:= .box [.d x.d] :: .box [bxT ls]::mkO 23 (ls.map dcD)
theorem kL1 (x:Tb):O4 x []=[.box [.d x.d],.box [.d (.v (.slice none 0 0))]]:=rfl
theorem yO0 (x:Tb)(a:Dc)(r:List Dc):O4 x (a::r)=[.box [.d x.d],.box [.own 2],.arr 23 (dcD a::r.map dcD)]:=rfl
theorem heavy4 (hx:ext 4=none)(x:Tb)(n:Int)(b1:Bool)(r13:run prog ext (.call 13 [tbV x] [])=some (.ret [bV b1] []))(r14:run prog ext (.call 14 [] [])=some (.ret [bV true] []))(h:b1=true∨(x.ds.length:Int)=0∨n<0∨n>500) :
  run prog ext (.call 4 [tbV x,iV n] [])=some (.ret [bV true] []):=by
 cases b1 with
 | true=>
  (rw[enT hx func4 rfl];simp only[f4,zR,simprocAttr,zE])
  simp only[tbV,tbC,bV,iV]at r13 r14 ⊢
  simp only[zS,zD,zT24,r13,r14,simprocAttr]
  (refine .trans ?_ rfl;kernel_rfl)
 | false=>
 by_cases h1:(x.ds.length:Int)=0
 ·have h1':((x.ds.length:Int)==0)=true:=beq_iff_eq.2 h1
  (rw[enT hx func4 rfl];simp only[f4,zR,simprocAttr,zE])
  simp only[tbV,tbC,bV,iV]at r13 r14 ⊢
  simp only[zS,zD,zT24,zT22,r13,r14,gE0,h1',simprocAttr]
  (refine .trans ?_ rfl;kernel_rfl)
 have h1':((x.ds.length:Int)==0)=false:=beq_eq_false_iff_ne.2 h1
 by_cases h2:n<0
 ·(rw[enT hx func4 rfl];simp only[f4,zR,simprocAttr,zE])
  simp only[tbV,tbC,bV,iV]at r13 r14 ⊢
  simp only[zS,zD,zT24,zT22,r13,r14,gE0,h1',h2,simprocAttr]
  (refine .trans ?_ rfl;kernel_rfl)
 have h3:n>500:=by
  rcases h with h | h | h | h
  ·cases h
  ·exact absurd h h1
  ·exact absurd h h2
  ·exact h
 (rw[enT hx func4 rfl];simp only[f4,zR,simprocAttr,zE])
 simp only[tbV,tbC,bV,iV]at r13 r14 ⊢
 simp only[zS,zD,zT24,zT22,r13,r14,gE0,h1',h2,h3,simprocAttr]
 (refine .trans ?_ rfl;kernel_rfl)
theorem en4 (hx:ext 4=none)(x:Tb)(n:Int)(r13:run prog ext (.call 13 [tbV x] [])=some (.ret [bV false] []))(h1:((x.ds.length:Int)==0)=false)(h2:¬ n<0)(h3:¬ n>500)(out:Option Out)(h:H4a ext 0 (E4 n 0) (O4 x [])=out) :
  run prog ext (.call 4 [tbV x,iV n] [])=out:=by
 unfold H4a at h
 (rw[enT hx func4 rfl];simp only[f4,zR,simprocAttr,zE])
 simp only[tbV,tbC,bV,iV,E4,kL1]at r13 h ⊢
 simp only[zS,zD,zT24,zT22,r13,gE0,h1,h2,h3,simprocAttr]
 (refine(aA0 ?_).trans h;kernel_rfl)
theorem st4 (x:Tb)(n:Int)(ls:List Dc)(d:Dc)(k:Nat)(hb:ls.length<2^29)(hk:x.ds[k % x.ds.length]? = some d)(hz:¬ (x.ds.length:Int)=0)(hl:(k:Int)<n)(out:Option Out)(h:H4a ext 0 (E4 n (wr ((k:Int)+1))) (O4 x (ls++[d]))=out) :
  H4a ext 0 (E4 n k) (O4 x ls)=out:=by
 have ht:Int.tmod (k:Int) (x.ds.length:Int)=((k % x.ds.length:Nat):Int):=rfl
 have hm:k % x.ds.length<x.ds.length:=Nat.mod_lt _ (by omega)
 generalize k % x.ds.length=j at ht hm hk
 have h0:(0:Int)≤j:=by omega
 have hl':(j:Int)<x.ds.length:=by omega
 have hD:=dW0 h0 hl'
 have hd:= @bs22 (d:=d)
 unfold H4a at h ⊢
 cases ls with
 | nil=>
  simp only[dcC,iV,E4,kL1,yO0,hD,List.nil_append,List.map_nil,dF0 d]at hd h ⊢
  (rw[hL4a];simp only[B4,K4a,sub,f4,↓reduceIte,zG])
  simp only[zS,zD,bO0,zT22,zT39,aK0,aC0,aD0,Array.size,List.length,h0,hl,hl',hz,ht,Int.toNat_natCast,hk,dF0 d,hd,no22,dL0,Nat.zero_le,simprocAttr]
  rw[aB0 _ _ _ _ (by kernel_rfl)]
  simp only[zS,zD,simprocAttr]
  (refine(aA0 ?_).trans h;kernel_rfl)
 | cons a r=>
  have hb':r.length+1≤1000000000:=by simp only[List.length_cons]at hb;omega
  simp only[dcC,iV,E4,yO0,hD,List.cons_append,List.map_append,List.map_cons,List.map_nil,dF0 d]at hd h ⊢
  (rw[hL4a];simp only[B4,K4a,sub,f4,↓reduceIte,zG])
  simp only[zS,zD,bO0,zT22,zT39,aK0,aC0,aD0,Array.size,List.length,h0,hl,hl',hz,ht,Int.toNat_natCast,hk,dF0 d,hd,oo22,dP0,hb',simprocAttr]
  rw[aB0 _ _ _ _ (by kernel_rfl)]
  simp only[zS,zD,simprocAttr]
  (refine(aA0 ?_).trans h;kernel_rfl)
def mkT4 (ls:List Dc):V:= .agg [match ls with | []=> .d (.v (.slice none 0 0)) | _::_=> .d (.s 23 (ls.map dcD))]
theorem dn4a (x:Tb)(n:Int)(ls:List Dc)(h3:n>120)(r15:run prog ext (.call 15 [mkT4 ls] [])=some (.ret [iV 0,iV 2] []))(r14:run prog ext (.call 14 [] [])=some (.ret [bV true] [])):H4a ext 0 (E4 n n) (O4 x ls)=some (.ret [bV true] []):=by
 unfold H4a
 cases ls with
 | nil=>
  simp only[mkT4,bV,iV,E4,kL1]at r15 r14 ⊢
  (rw[hL4a];simp only[B4,K4a,sub,f4,↓reduceIte,zG])
  simp only[zS,zD,zT24,Int.lt_irrefl,h3,r15,r14,dI0,simprocAttr]
  (refine .trans ?_ rfl;kernel_rfl)
 | cons a r=>
  have hC:=fun o0 slot=>aL0 (rec:=run prog ext) (look:=lk [o0,.box [.own 2],.arr 23 (dcD a::r.map dcD)]) (slot:=slot) (f:=15) (args:=[.agg [.own 2]]) (ids:=[]) (bor:=[2]) (e:=⟨.val (.tup [(false,[.d (.v (.int .i64 0))]),(false,[.d (.v (.int .i64 2))])]),[],[2]⟩) (by kernel_rfl) r15 (by kernel_rfl)
  simp only[bV,iV,E4,yO0]at hC r14 ⊢
  (rw[hL4a];simp only[B4,K4a,sub,f4,↓reduceIte,zG])
  simp only[zS,zD,zT24,Int.lt_irrefl,h3,hC,r14,simprocAttr]
  (refine .trans ?_ rfl;kernel_rfl)
theorem dn4b (x:Tb)(n a b:Int)(ls:List Dc)(h3:¬ n>120)(r15:run prog ext (.call 15 [mkT4 ls] [])=some (.ret [iV a,iV b] []))(r16:run prog ext (.call 16 [mkT4 ls] [])=some (.ret [iV a,iV b] []))(r14:run prog ext (.call 14 [] [])=some (.ret [bV true] [])):H4a ext 0 (E4 n n) (O4 x ls)=some (.ret [bV true] []):=by
 unfold H4a
 cases ls with
 | nil=>
  simp only[mkT4,bV,iV,E4,kL1]at r15 r16 r14 ⊢
  (rw[hL4a];simp only[B4,K4a,sub,f4,↓reduceIte,zG])
  simp only[zS,zD,zT24,Int.lt_irrefl,h3,r15,r16,r14,dI0,simprocAttr]
  (refine .trans ?_ rfl;kernel_rfl)
 | cons u r=>
  have hC:=fun o0 slot=>aL0 (rec:=run prog ext) (look:=lk [o0,.box [.own 2],.arr 23 (dcD u::r.map dcD)]) (slot:=slot) (f:=15) (args:=[.agg [.own 2]]) (ids:=[]) (bor:=[2]) (e:=⟨.val (.tup [(false,[.d (.v (.int .i64 a))]),(false,[.d (.v (.int .i64 b))])]),[],[2]⟩) (by kernel_rfl) r15 (by kernel_rfl)
  have hC':=fun o0 slot=>aL0 (rec:=run prog ext) (look:=lk [o0,.box [.own 2],.arr 23 (dcD u::r.map dcD)]) (slot:=slot) (f:=16) (args:=[.agg [.own 2]]) (ids:=[]) (bor:=[2]) (e:=⟨.val (.tup [(false,[.d (.v (.int .i64 a))]),(false,[.d (.v (.int .i64 b))])]),[],[2]⟩) (by kernel_rfl) r16 (by kernel_rfl)
  simp only[bV,iV,E4,yO0]at hC hC' r14 ⊢
  (rw[hL4a];simp only[B4,K4a,sub,f4,↓reduceIte,zG])
  simp only[zS,zD,zT24,Int.lt_irrefl,h3,hC,hC',r14,simprocAttr]
  (refine .trans ?_ rfl;kernel_rfl)
end
section
open Go
variable (ext:Ext){so co:List Int→List Int}
def repL (l:List Dc)(n:Nat):List Dc:=(List.range n).map fun i=>(l[i % l.length]?).getD zDc
theorem nE1 (l:List Dc)(n:Nat):(repL l n).length=n:=by unfold repL;rw[List.length_map,List.length_range]
theorem nD1 {l:List Dc} (h:l≠[])(i:Nat):∃ d,l[i % l.length]? = some d∧d∈l:=by
 have hp:0<l.length:=List.length_pos_iff.2 h
 have hi:=Nat.mod_lt i hp
 exact⟨l[i % l.length],List.getElem?_eq_getElem hi,List.getElem_mem hi⟩
theorem zB1 {l:List Dc}{n:Nat}{d:Dc} (h:l[n % l.length]? = some d):repL l (n+1)=repL l n++[d]:=by
 unfold repL
 rw[List.range_succ,List.map_append,List.map_cons,List.map_nil,h]
 rfl
theorem hG2 {l:List Dc} (h:l≠[]){n:Nat}{d:Dc} (hd:d∈repL l n):d∈l:=by
 unfold repL at hd
 obtain⟨i,_,rfl⟩:=List.mem_map.1 hd
 obtain⟨e,h1,h2⟩:=nD1 h i
 rw[h1];exact h2
theorem yF0 : ∀ (l:List Nat)(b:Nat),(∀ a∈l,a≤b)→l.sum≤l.length*b
 | [],_,_=>Nat.zero_le _
 | a::r,b,h=>by
  have h1:=h a List.mem_cons_self
  have h2:=yF0 r b fun c hc=>h c (List.mem_cons_of_mem _ hc)
  rw[List.sum_cons,List.length_cons,Nat.add_mul,Nat.one_mul];omega
theorem xH1 (ls:List Dc):mkT4 ls=tbV ⟨ls,true⟩:=by
 cases ls with
 | nil=>rfl
 | cons a r=>
  unfold mkT4 tbV tbC Tb.d
  rw[dV0 (by simp)]
theorem law4 (H:eV0 ext)(hs:lR0 ext)(hc:iI0 ext)(S:SoCo ext so co)(r14:run prog ext (.call 14 [] [])=some (.ret [bV true] []))
  (r59:∀ r:Option (Int × List Int),run prog ext (.call 59 [resV [] r] [])=some (.ret [resF [] r] [])) (x:Tb) (n:Int) (hx:x.wt<2^23):run prog ext (.call 4 [tbV x,iV n] [])=some (.ret [bV true] []):=by
 have hok:x.ok:=Tb.ok_wt (by omega)
 have hD:∀ d∈x.ds,d.wt<2^23:=fun d hd=>by have:=Tb.dc_le hd;omega
 obtain⟨b1,r13⟩:=iU1 ext (H _ (by decide)) (H _ (by decide)) (H _ (by decide)) (H _ (by decide)) (H _ (by decide)) (H _ (by decide)) x hok
 by_cases hh:b1=true∨(x.ds.length:Int)=0∨n<0∨n>500
 ·exact heavy4 ext (H _ (by decide)) x n b1 r13 r14 hh
 have hb1:b1=false:=by cases b1;rfl;exact absurd (.inl rfl) hh
 subst hb1
 have hz:¬ (x.ds.length:Int)=0:=fun h=>hh (.inr (.inl h))
 have hn0:¬ n<0:=fun h=>hh (.inr (.inr (.inl h)))
 have hn5:¬ n>500:=fun h=>hh (.inr (.inr (.inr h)))
 have hne:x.ds≠[]:=fun h=>hz (by rw[h];rfl)
 obtain⟨N,rfl⟩:∃ N:Nat,n=N:=⟨n.toNat,by omega⟩
 refine en4 ext (H _ (by decide)) x N r13 (beq_eq_false_iff_ne.2 hz) hn0 hn5 _ ?_
 refine sY0 N (fun k ls=>H4a ext 0 (E4 N k) (O4 x ls)) (repL x.ds) _ (by omega) (fun k hk out ho=> ?_) ?_
 ·obtain⟨d,h1,_⟩:=nD1 hne k
  rw[zB1 h1]at ho
  exact st4 ext x N _ d k (by rw[nE1];omega) h1 hz hk out ho
 ·have hlen:=nE1 x.ds N
  have hDr:∀ d∈(⟨repL x.ds N,true⟩:Tb).ds,d.wt<2^23:=fun d hd=>hD d (hG2 hne hd)
  have hw:(⟨repL x.ds N,true⟩:Tb).wt<2^40:=by
   have:=yF0 ((repL x.ds N).map Dc.wt) (2^23) fun a ha=>by
    obtain⟨d,hd,rfl⟩:=List.mem_map.1 ha
    exact Nat.le_of_lt (hDr d hd)
   rw[List.length_map,hlen]at this
   unfold Tb.wt
   dsimp only
   omega
  have r15:=zM0 ext H hs hc S r59 ⟨repL x.ds N,true⟩ hw hDr
  rw[← xH1]at r15
  by_cases h1:(N:Int)>120
  ·unfold ckR at r15
   rw[if_pos (decide_eq_true (by show((repL x.ds N).length:Int)>120;rw[hlen];exact h1))]at r15
   exact dn4a ext x N _ h1 r15 r14
  ·obtain⟨a,b,e⟩:=sM1 (cdF ⟨repL x.ds N,true⟩) ⟨repL x.ds N,true⟩
   have r16:=sL1 ext H ⟨repL x.ds N,true⟩ hw hDr
   rw[← xH1]at r16
   rw[e]at r15 r16
   exact dn4b ext x N a b _ h1 r15 r16 r14
end
end Go.Proofs.YteenjodhmppgjaaGreatDoor.Am
