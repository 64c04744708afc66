/- A part of the proof of a card. No conditions. -/
import Derived.Test.YteenjodhmppgjaaGreatDoorPe7
set_option linter.all false
set_option maxHeartbeats 16000000
set_option maxRecDepth 10000
namespace Go.Proofs.YteenjodhmppgjaaGreatDoor.Am
open Go.Proofs.Tryz
section
open Go
variable (ext:Ext)
noncomputable def B6 : Code:=(f6.body.getD .skip)
noncomputable def L6a : Code:=sub B6 [1,1,1,0,1,0,0]
theorem hL6a : It.code L6a=It.code (sub B6 [1,1,1,0,1,0,0]):=rfl
noncomputable def K6a : List It:=[.inBlock 0,.code (sub B6 [1,1,1,1])]
noncomputable def H6a (ext:Ext)(m:Nat)(env:Env)(loc:List O):Option Out:=run prog ext (.k ⟨105,m,[.tmp 2],false⟩ (.code L6a :: .inLoop L6a::K6a) env loc)
def preV (x:Tb)(k:Nat):V:= .agg [.d (.s 23 ((x.ds.map dcD).take k))]
def E6 (k:Int):Env:=[(1,.c (.ptr 0 0)),(5,iV k)]
def O6 (x:Tb):List O:=[.box [.d x.d]]
theorem pos21 (hx:ext 21=none)(x:V)(hd:∃ a,x = .agg [.d a])(d:Dc)(E:D)(c:Int)(F:D)(r68:run prog ext (.call 68 [dcV d] [])=some (.ret [dV E] []))(r59:run prog ext (.call 59 [dV E] [])=some (.ret [.agg [.d (.v (.int .i64 c)),.d F]] [])) :
  run prog ext (.call 21 [x,dcV d] [])=some (.ret [.agg [.d (.v (.int .i64 c)),.d F]] []):=by
 obtain⟨a,rfl⟩:=hd
 (rw[enT hx func21 rfl];simp only[f21,zR,simprocAttr,zE])
 simp only[dcV,dcC,dV]at r68 r59 ⊢
 simp only[zS,zD,zT39,zT45,r68,r59,simprocAttr]
 (refine .trans ?_ rfl;kernel_rfl)
theorem en6 (hx:ext 6=none)(x:Tb)(a:Int)(r13:run prog ext (.call 13 [tbV x] [])=some (.ret [bV false] []))(r15:run prog ext (.call 15 [tbV x] [])=some (.ret [iV a,iV 0] []))(out:Option Out)(h:H6a ext 0 (E6 0) (O6 x)=out) :
  run prog ext (.call 6 [tbV x] [])=out:=by
 unfold H6a at h
 (rw[enT hx func6 rfl];simp only[f6,zR,simprocAttr,zE])
 simp only[tbV,tbC,bV,iV,E6,O6]at r13 r15 h ⊢
 simp only[zS,zD,zT24,r13,r15,dI0,simprocAttr]
 (refine(aA0 ?_).trans h;kernel_rfl)
theorem heavy6 (hx:ext 6=none)(x:Tb)(r13:run prog ext (.call 13 [tbV x] [])=some (.ret [bV true] []))(r14:run prog ext (.call 14 [] [])=some (.ret [bV true] [])):run prog ext (.call 6 [tbV x] [])=some (.ret [bV true] []):=by
 (rw[enT hx func6 rfl];simp only[f6,zR,simprocAttr,zE])
 simp only[tbV,tbC,bV]at r13 r14 ⊢
 simp only[zS,zD,zT24,r13,r14,simprocAttr]
 (refine .trans ?_ rfl;kernel_rfl)
theorem out6 (hx:ext 6=none)(x:Tb)(a b:Int)(hb:¬ b=0)(r13:run prog ext (.call 13 [tbV x] [])=some (.ret [bV false] []))(r15:run prog ext (.call 15 [tbV x] [])=some (.ret [iV a,iV b] []))(r14:run prog ext (.call 14 [] [])=some (.ret [bV true] [])):run prog ext (.call 6 [tbV x] [])=some (.ret [bV true] []):=by
 (rw[enT hx func6 rfl];simp only[f6,zR,simprocAttr,zE])
 simp only[tbV,tbC,bV,iV]at r13 r15 r14 ⊢
 simp only[zS,zD,zT24,r13,r14,r15,hb,dI0,simprocAttr]
 (refine .trans ?_ rfl;kernel_rfl)
theorem dn6 (x:Tb)(r14:run prog ext (.call 14 [] [])=some (.ret [bV true] [])):H6a ext 0 (E6 x.ds.length) (O6 x)=some (.ret [bV true] []):=by
 unfold H6a
 simp only[bV,iV,E6,O6]at r14 ⊢
 (rw[hL6a];simp only[B6,K6a,sub,f6,↓reduceIte,zG])
 simp only[zS,zD,bO0,zT22,gE0,Int.lt_irrefl,r14,simprocAttr]
 (refine .trans ?_ rfl;kernel_rfl)
theorem st6A (x:Tb)(d:Dc)(k:Nat)(hk:x.ds[k]? = some d)(hl:(k:Int)<x.ds.length)(b1:(d.kind==1)=true)(b4:(d.kind==4)=false)(b4':(d.kind != 4)=true)(c:Int)(F F0 F1 F2:D)(r15:run prog ext (.call 15 [preV x k] [])=some (.ret [iV (-1),iV 0] []))
  (r21:run prog ext (.call 21 [preV x k,dcV d] [])=some (.ret [.agg [.d (.v (.int .i64 0)),.d F1]] []))
  (r19b:run prog ext (.call 19 [preV x k,tmV d.body] [])=some (.ret [.agg [.d (.v (.int .i64 0)),.d F2]] []))
  (r19t:run prog ext (.call 19 [preV x k,tmV d.type] [])=some (.ret [.agg [.d (.v (.int .i64 0)),.d F0]] []))(r19p:run prog ext (.call 19 [preV x k,tmV d.param] [])=some (.ret [.agg [.d (.v (.int .i64 c)),.d F]] []))
  (r22:run prog ext (.call 22 [tbV x,sV d.name] [])=some (.ret [iV k] []))(out:Option Out)(h:H6a ext 0 (E6 (wr ((k:Int)+1))) (O6 x)=out):H6a ext 0 (E6 k) (O6 x)=out:=by
 have h0:(0:Int)≤k:=by omega
 have hD:=dW0 h0 hl
 have hle:(k:Int)≤x.ds.length:=by omega
 unfold H6a at h ⊢
 simp only[preV,tbV,tbC,dcV,dcC,tmV,tmC,sV,iV,E6,O6,hD]at r15 r21 r19b r19t r19p r22 h ⊢
 (rw[hL6a];simp only[B6,K6a,sub,f6,↓reduceIte,zG])
 simp only[zS,zD,zT24,zT22,zT39,zT33,zT45,zT27,zT9,zT3,sl22,h0,hl,hle,Int.toNat_natCast,hk,dF0 d,r15,r21,r19b,r19t,r19p,r22,b1,b4,b4',bne_self_eq_false,dI0,simprocAttr]
 (refine(aA0 ?_).trans h;kernel_rfl)
theorem st6B (x:Tb)(d:Dc)(k:Nat)(hk:x.ds[k]? = some d)(hl:(k:Int)<x.ds.length)(b1:(d.kind==1)=false)(b2:(d.kind==2)=true)(b4:(d.kind==4)=false)(b4':(d.kind != 4)=true)(c:Int)(F F0 F1 F2:D)(r15:run prog ext (.call 15 [preV x k] [])=some (.ret [iV (-1),iV 0] []))
  (r21:run prog ext (.call 21 [preV x k,dcV d] [])=some (.ret [.agg [.d (.v (.int .i64 0)),.d F1]] []))
  (r19b:run prog ext (.call 19 [preV x k,tmV d.body] [])=some (.ret [.agg [.d (.v (.int .i64 0)),.d F2]] []))
  (r19t:run prog ext (.call 19 [preV x k,tmV d.type] [])=some (.ret [.agg [.d (.v (.int .i64 0)),.d F0]] []))(r19p:run prog ext (.call 19 [preV x k,tmV d.param] [])=some (.ret [.agg [.d (.v (.int .i64 c)),.d F]] []))
  (r22:run prog ext (.call 22 [tbV x,sV d.name] [])=some (.ret [iV k] []))(out:Option Out)(h:H6a ext 0 (E6 (wr ((k:Int)+1))) (O6 x)=out):H6a ext 0 (E6 k) (O6 x)=out:=by
 have h0:(0:Int)≤k:=by omega
 have hD:=dW0 h0 hl
 have hle:(k:Int)≤x.ds.length:=by omega
 unfold H6a at h ⊢
 simp only[preV,tbV,tbC,dcV,dcC,tmV,tmC,sV,iV,E6,O6,hD]at r15 r21 r19b r19t r19p r22 h ⊢
 (rw[hL6a];simp only[B6,K6a,sub,f6,↓reduceIte,zG])
 simp only[zS,zD,zT24,zT22,zT39,zT33,zT45,zT27,zT9,zT3,sl22,h0,hl,hle,Int.toNat_natCast,hk,dF0 d,r15,r21,r19b,r19t,r19p,r22,b1,b2,b4,b4',bne_self_eq_false,dI0,simprocAttr]
 (refine(aA0 ?_).trans h;kernel_rfl)
theorem st6C (x:Tb)(d:Dc)(k:Nat)(hk:x.ds[k]? = some d)(hl:(k:Int)<x.ds.length)(b1:(d.kind==1)=false)(b2:(d.kind==2)=false)(b4:(d.kind==4)=false)(b4':(d.kind != 4)=true)(c:Int)(F F0 F1 F2:D)(r15:run prog ext (.call 15 [preV x k] [])=some (.ret [iV (-1),iV 0] []))
  (r21:run prog ext (.call 21 [preV x k,dcV d] [])=some (.ret [.agg [.d (.v (.int .i64 0)),.d F1]] []))
  (r19t:run prog ext (.call 19 [preV x k,tmV d.type] [])=some (.ret [.agg [.d (.v (.int .i64 0)),.d F0]] []))(r19p:run prog ext (.call 19 [preV x k,tmV d.param] [])=some (.ret [.agg [.d (.v (.int .i64 c)),.d F]] []))
  (r22:run prog ext (.call 22 [tbV x,sV d.name] [])=some (.ret [iV k] []))(out:Option Out)(h:H6a ext 0 (E6 (wr ((k:Int)+1))) (O6 x)=out):H6a ext 0 (E6 k) (O6 x)=out:=by
 have h0:(0:Int)≤k:=by omega
 have hD:=dW0 h0 hl
 have hle:(k:Int)≤x.ds.length:=by omega
 unfold H6a at h ⊢
 simp only[preV,tbV,tbC,dcV,dcC,tmV,tmC,sV,iV,E6,O6,hD]at r15 r21 r19t r19p r22 h ⊢
 (rw[hL6a];simp only[B6,K6a,sub,f6,↓reduceIte,zG])
 simp only[zS,zD,zT24,zT22,zT39,zT33,zT45,zT27,zT9,zT3,sl22,h0,hl,hle,Int.toNat_natCast,hk,dF0 d,r15,r21,r19t,r19p,r22,b1,b2,b4,b4',bne_self_eq_false,dI0,simprocAttr]
 (refine(aA0 ?_).trans h;kernel_rfl)
theorem st6D (x:Tb)(d:Dc)(k:Nat)(hk:x.ds[k]? = some d)(hl:(k:Int)<x.ds.length)(b1:(d.kind==1)=false)(b2:(d.kind==2)=false)(b4:(d.kind==4)=true)(b4':(d.kind != 4)=false)(c:Int)(F F0 F1 F2:D)(r15:run prog ext (.call 15 [preV x k] [])=some (.ret [iV (-1),iV 0] []))
  (r21:run prog ext (.call 21 [preV x k,dcV d] [])=some (.ret [.agg [.d (.v (.int .i64 0)),.d F1]] []))
  (r19t:run prog ext (.call 19 [preV x k,tmV d.type] [])=some (.ret [.agg [.d (.v (.int .i64 c)),.d F]] []))(r19p:run prog ext (.call 19 [preV x k,tmV d.param] [])=some (.ret [.agg [.d (.v (.int .i64 0)),.d F0]] []))
  (r22:run prog ext (.call 22 [tbV x,sV d.name] [])=some (.ret [iV k] []))(out:Option Out)(h:H6a ext 0 (E6 (wr ((k:Int)+1))) (O6 x)=out):H6a ext 0 (E6 k) (O6 x)=out:=by
 have h0:(0:Int)≤k:=by omega
 have hD:=dW0 h0 hl
 have hle:(k:Int)≤x.ds.length:=by omega
 unfold H6a at h ⊢
 simp only[preV,tbV,tbC,dcV,dcC,tmV,tmC,sV,iV,E6,O6,hD]at r15 r21 r19t r19p r22 h ⊢
 (rw[hL6a];simp only[B6,K6a,sub,f6,↓reduceIte,zG])
 simp only[zS,zD,zT24,zT22,zT39,zT33,zT45,zT27,zT9,zT3,sl22,h0,hl,hle,Int.toNat_natCast,hk,dF0 d,r15,r21,r19t,r19p,r22,b1,b2,b4,b4',bne_self_eq_false,dI0,simprocAttr]
 (refine(aA0 ?_).trans h;kernel_rfl)
end
section
open Go
variable (ext:Ext){so co:List Int→List Int}
theorem gZ0 {α ρ:Type}{f:Nat→α→Option ρ}:∀ {l:List α}{n:Nat},bH0 f n l=none↔∀ (k:Nat) a,l[k]? = some a→f (n+k) a=none
 | [],n=>⟨fun _ k a h=>(by cases h),fun _=>rfl⟩
 | x::l,n=>by
  rw[bH0]
  constructor
  ·intro h k a hk
   cases hx:f n x with
   | some r=>rw[hx]at h;cases h
   | none=>
    rw[hx]at h
    cases k with
    | zero=>
     have e:some x=some a:=hk
     cases e
     exact hx
    | succ k=>
     have:=(gZ0 (l:=l) (n:=n+1)).1 h k a hk
     rw[show n+(k+1)=n+1+k by omega];exact this
  ·intro h
   rw[show f n x=none from h 0 x rfl]
   exact(gZ0 (l:=l) (n:=n+1)).2 fun k a hk=>by
    have:=h (k+1) a hk
    rw[show n+1+k=n+(k+1) by omega];exact this
theorem kG2 {a b:Int} (h:iV a=iV b):a=b:=by
 unfold iV at h
 injection h with h
 injection h with h
 injection h with h
 injection h
theorem ck_ok {cd:Nat→Dc→Int}{x:Tb}{a:Int} (h:ckR cd x = .ret [iV a,iV 0] []):x.ds.length≤120∧∀ k d,x.ds[k]? = some d→cd k d=0:=by
 unfold ckR at h
 by_cases c:decide ((x.ds.length:Int)>120)=true
 ·rw[if_pos c]at h
  injection h with h
  injection h with _ h
  injection h with h
  exact absurd (kG2 h) (by decide)
 ·rw[if_neg c]at h
  have hl:¬ (x.ds.length:Int)>120:=fun hc=>c (decide_eq_true hc)
  refine⟨by omega,fun k d hk=> ?_⟩
  cases hf:bH0 (ckS cd) 0 x.ds with
  | some q=>
   rw[hf]at h
   injection h with h
   injection h with _ h
   injection h with h
   have hq:=kY0 (ckS cd) (fun q=>¬ q.2=0) (fun k d q hq=>by
    unfold ckS at hq
    by_cases c0:cd k d=0
    ·rw[if_pos c0]at hq;cases hq
    ·rw[if_neg c0]at hq;cases hq;exact c0) _ _ _ hf
   exact absurd (kG2 h) hq
  | none=>
   have:=gZ0.1 hf k d hk
   unfold ckS at this
   rw[Nat.zero_add]at this
   by_cases c0:cd k d=0
   ·exact c0
   ·rw[if_neg c0]at this;cases this
theorem ck_of {cd:Nat→Dc→Int}{x:Tb} (hl:x.ds.length≤120)(h:∀ k d,x.ds[k]? = some d→cd k d=0):ckR cd x = .ret [iV (-1),iV 0] []:=by
 unfold ckR
 rw[if_neg (by rw[decide_eq_true_eq];omega)]
 have:bH0 (ckS cd) 0 x.ds=none:=gZ0.2 fun k d hk=>by
  unfold ckS
  rw[Nat.zero_add,if_pos (h k d hk)]
 rw[this]
 rfl
theorem uT2 (x:Tb){i k:Nat} (h:k≤i):pre (pre x i) k=pre x k:=by
 unfold pre
 dsimp only
 rw[List.take_take,Nat.min_eq_left h]
theorem uI1 {bd:Tm→Bool}{e eo:Tm→Int}{x:Tb}{d:Dc} (h:exam bd e eo x d=none):hI0 d=true∧find x d.name<0∧firstE e d.type=none∧firstE e d.body=none∧firstE e d.param=none∧posD bd d=none:=by
 unfold exam at h
 split at h
 ·cases h
 ·rename_i c1
  split at h
  ·cases h
  ·rename_i c2
   split at h
   ·cases h
   ·rename_i hq
    split at h
    ·cases h
    ·have h1:hI0 d=true:=by cases hf:hI0 d;(· rw[hf]at c1;exact absurd rfl c1);(· rfl)
     have h2:find x d.name<0:=by
      by_cases c:find x d.name<0
      ·exact c
      ·rw[decide_eq_false c]at c2;exact absurd rfl c2
     have g:=fun k t hk=>gZ0.1 hq k t hk
     refine⟨h1,h2,g 0 _ rfl,g 1 _ rfl,g 2 _ rfl,?_⟩
     cases hp:posD bd d with
     | none=>rfl
     | some r=>rw[hp]at h;cases h
theorem iR1 {t:Tm}{a b:Int} (h:gD0 t a b=true):formOK t=true:=by
 unfold gD0 jI0 at h
 simp only[Bool.and_eq_true]at h
 exact h.1.2
theorem uX1 {d:Dc} (h:hI0 d=true):((d.kind==4)=false∧formOK d.type=true∧((d.kind==3)=false→formOK d.body=true)∧((d.kind==1)=true∨(d.kind==2)=true∨(d.kind==3)=true))∨((d.kind==4)=true∧formOK d.param=true):=by
 unfold hI0 at h
 simp only[Bool.and_eq_true]at h
 have h3:=h.2.2.2
 by_cases c1:((d.kind==1)||((d.kind==2)||(d.kind==3)))=true
 ·rw[if_pos c1]at h3
  simp only[Bool.and_eq_true]at h3
  obtain⟨_,_,_,_,f1,f2⟩:=h3
  refine .inl ⟨?_,iR1 f1,fun c3=> ?_,?_⟩
  ·simp only[Bool.or_eq_true,beq_iff_eq]at c1
   rw[beq_eq_false_iff_ne]
   omega
  ·rw[if_neg (by rw[c3];decide)]at f2
   exact iR1 f2
  ·simpa [Bool.or_eq_true] using c1
 ·rw[if_neg c1]at h3
  by_cases c2:(d.kind==4)=true
  ·rw[if_pos c2]at h3
   simp only[Bool.and_eq_true]at h3
   obtain⟨_,_,_,f1,_⟩:=h3
   exact .inr ⟨c2,iR1 f1⟩
  ·rw[if_neg c2]at h3;cases h3
theorem qI2 {x:Tb}{k:Nat}{d:Dc} (hk:x.ds[k]? = some d)(h:find (pre x k) d.name<0):find x d.name=k:=by
 have h0:=lT1 h
 have hlt:=(List.getElem?_eq_some_iff.1 hk).1
 have:x.ds.findIdx? (isNm d.name)=some k:=by
  rw[List.findIdx?_eq_some_iff_getElem]
  refine⟨hlt,?_,fun j hj=> ?_⟩
  ·have e:x.ds[k]=d:=(List.getElem?_eq_some_iff.1 hk).2
   rw[e];exact beq_self_eq_true _
  ·have hm:x.ds[j]∈(pre x k).ds:=by
    show x.ds[j]∈x.ds.take k
    rw[List.mem_take_iff_getElem]
    exact⟨j,by omega,rfl⟩
   have:=(List.find?_eq_none.1 h0) _ hm
   simpa using this
 unfold find idxI
 rw[this]
theorem lW1 (H:eV0 ext)(hs:lR0 ext)(r59:∀ r:Option (Int × List Int),run prog ext (.call 59 [resV [] r] [])=some (.ret [resF [] r] []))(x:Tb)(hx:x.wt<2^40)(t:Tm)(ht:t.wt<2^23) :
  run prog ext (.call 19 [tbV x,tmV t] [])=some (.ret [if formOK t=true then resF [] (firstE (ndZ x zDc) t) else fltV 4 []] []):=
 fits19 ext (H _ (by decide)) x t _ (eF1 ext H hs t (by unfold Tm.small;omega)) (xL1 ext H x hx t ht) (r59 _)
theorem lV1 (H:eV0 ext)(hs:lR0 ext)(r59:∀ r:Option (Int × List Int),run prog ext (.call 59 [resV [] r] [])=some (.ret [resF [] r] []))(x:Tb)(hx:x.wt<2^40)(t:Tm)(ht:t.wt<2^23) :
  ∃ c F,run prog ext (.call 19 [tbV x,tmV t] [])=some (.ret [.agg [.d (.v (.int .i64 c)),.d F]] []):=by
 rw[lW1 ext H hs r59 x hx t ht]
 split
 ·cases firstE (ndZ x zDc) t with
  | none=>exact⟨_,_,rfl⟩
  | some q=>exact⟨_,_,rfl⟩
 ·exact⟨_,_,rfl⟩
theorem zR0 (H:eV0 ext)(hs:lR0 ext)(r59:∀ r:Option (Int × List Int),run prog ext (.call 59 [resV [] r] [])=some (.ret [resF [] r] []))(x:Tb)(hx:x.wt<2^40)(t:Tm)(ht:t.wt<2^23)(hf:formOK t=true)(he:firstE (ndZ x zDc) t=none) :
  run prog ext (.call 19 [tbV x,tmV t] [])=some (.ret [.agg [.d (.v (.int .i64 0)),.d (dY0 [])]] []):=by
 rw[lW1 ext H hs r59 x hx t ht,if_pos hf,he]
 rfl
theorem law6 (H:eV0 ext)(hs:lR0 ext)(hc:iI0 ext)(S:SoCo ext so co)(r14:run prog ext (.call 14 [] [])=some (.ret [bV true] []))
  (r59:∀ r:Option (Int × List Int),run prog ext (.call 59 [resV [] r] [])=some (.ret [resF [] r] [])) (x:Tb) (hx:x.wt<2^23):run prog ext (.call 6 [tbV x] [])=some (.ret [bV true] []):=by
 have hok:x.ok:=Tb.ok_wt (by omega)
 have hD:∀ d∈x.ds,d.wt<2^23:=fun d hd=>by have:=Tb.dc_le hd;omega
 obtain⟨b1,r13⟩:=iU1 ext (H _ (by decide)) (H _ (by decide)) (H _ (by decide)) (H _ (by decide)) (H _ (by decide)) (H _ (by decide)) x hok
 cases b1 with
 | true=>exact heavy6 ext (H _ (by decide)) x r13 r14
 | false=>
  obtain⟨a,b,e⟩:=sM1 (cdF x) x
  have r15:=zM0 ext H hs hc S r59 x (by omega) hD
  by_cases hb:b=0
  case neg=>
   rw[e]at r15
   exact out6 ext (H _ (by decide)) x a b hb r13 r15 r14
  subst hb
  obtain⟨hl,h0⟩:=ck_ok e
  rw[e]at r15
  refine en6 ext (H _ (by decide)) x a r13 r15 _ ?_
  have:=dK0 x.ds (fun k=>H6a ext 0 (E6 k) (O6 x)) (fun _ _=>(none:Option Unit)) (fun _=>none) (some (.ret [bV true] [])) (by omega) (fun k d hk hkl=>by
   have hdm:=List.mem_of_getElem? hk
   have hd:=hD d hdm
   obtain⟨p1,p2,p3,_⟩:=kW0 hd
   have hpw:(pre x k).wt<2^40:=by have:=yR1 x k;omega
   have hpd:∀ d∈(pre x k).ds,d.wt<2^23:=fun d hd=>hD d (List.mem_of_mem_take hd)
   have c15:=zM0 ext H hs hc S r59 (pre x k) hpw hpd
   have hpl:(pre x k).ds.length≤120:=by
    show(x.ds.take k).length≤120
    rw[List.length_take];omega
   rw[ck_of hpl (fun j d' hj=>by
    have hj':(x.ds.take k)[j]? = some d':=hj
    rw[List.getElem?_take]at hj'
    split at hj'
    ·rename_i hjk
     have:=h0 j d' hj'
     unfold cdF at this ⊢
     rw[uT2 x (by omega)];exact this
    ·cases hj')]at c15
   have hcd:=h0 k d hk
   have hq:exam bdF (ndZ (pre x k) zDc) (ndZ (pre x k) d) (pre x k) d=none:=by
    have h1:cdF x k d=pC2 (exam bdF (ndZ (pre x k) zDc) (ndZ (pre x k) d) (pre x k) d):=dI1 bdF (ndZ (pre x k)) (pre x k) d
    rw[hcd]at h1
    cases hq:exam bdF (ndZ (pre x k) zDc) (ndZ (pre x k) d) (pre x k) d with
    | none=>rfl
    | some q=>rw[hq]at h1;exact absurd h1.symm (uH1 hq)
   obtain⟨e1,e2,e3,e4,e5,e6⟩:=uI1 hq
   have c68:=pos_P ext H hc d hd
   rw[e6]at c68
   have hv:preV x k=tbV (pre x k):=(uS2 x k).symm
   have c21:=pos21 ext (H _ (by decide)) (preV x k) ⟨_,rfl⟩ d _ _ _ c68 (r59 none)
   have c22:=dZ1 ext (H _ (by decide)) (H _ (by decide)) (H _ (by decide)) x d.name hok.1
   rw[qI2 hk e2]at c22
   rw[← hv]at c15
   try dsimp only
   intro out ho
   rcases uX1 e1 with⟨k4,g1,g2,g3⟩ | ⟨k4,g1⟩
   ·have c19t:=zR0 ext H hs r59 (pre x k) hpw d.type p1 g1 e3
    obtain⟨c,F,c19p⟩:=lV1 ext H hs r59 (pre x k) hpw d.param p3
    rw[← hv]at c19t c19p
    have k4':(d.kind != 4)=true:=by rw[bne,k4];rfl
    cases k1:(d.kind==1) with
    | true=>
     have k3:(d.kind==3)=false:=by
      rw[beq_iff_eq]at k1
      rw[k1];rfl
     have c19b:=zR0 ext H hs r59 (pre x k) hpw d.body p2 (g2 k3) e4
     rw[← hv]at c19b
     exact st6A ext x d k hk hkl k1 k4 k4' c F _ _ _ c15 c21 c19b c19t c19p c22 out ho
    | false=>
     cases k2:(d.kind==2) with
     | true=>
      have k3:(d.kind==3)=false:=by
       rw[beq_iff_eq]at k2
       rw[k2];rfl
      have c19b:=zR0 ext H hs r59 (pre x k) hpw d.body p2 (g2 k3) e4
      rw[← hv]at c19b
      exact st6B ext x d k hk hkl k1 k2 k4 k4' c F _ _ _ c15 c21 c19b c19t c19p c22 out ho
     | false=>exact st6C ext x d k hk hkl k1 k2 k4 k4' c F _ _ (.v .nilIface) c15 c21 c19t c19p c22 out ho
   ·have c19p:=zR0 ext H hs r59 (pre x k) hpw d.param p3 g1 e5
    obtain⟨c,F,c19t⟩:=lV1 ext H hs r59 (pre x k) hpw d.type p1
    rw[← hv]at c19t c19p
    have k4':(d.kind != 4)=false:=by rw[bne,k4];rfl
    have k1:(d.kind==1)=false:=by
     rw[beq_iff_eq]at k4
     rw[k4];rfl
    have k2:(d.kind==2)=false:=by
     rw[beq_iff_eq]at k4
     rw[k4];rfl
    exact st6D ext x d k hk hkl k1 k2 k4 k4' c F _ _ (.v .nilIface) c15 c21 c19t c19p c22 out ho) (dn6 ext x r14)
  refine Eq.trans this ?_
  have hn:bH0 (fun(_:Nat) (_:Dc)=>(none:Option Unit)) 0 x.ds=none:=gZ0.2 fun _ _ _=>rfl
  rw[hn]
end
end Go.Proofs.YteenjodhmppgjaaGreatDoor.Am
