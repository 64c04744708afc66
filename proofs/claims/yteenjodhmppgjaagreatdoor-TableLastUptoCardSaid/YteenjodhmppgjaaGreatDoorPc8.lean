/- A part of the proof of a card. No conditions. -/
import Derived.Test.YteenjodhmppgjaaGreatDoorPc3
import Derived.Test.YteenjodhmppgjaaGreatDoorPc7
import Derived.Test.YteenjodhmppgjaaGreatDoorPa5
set_option linter.all false
set_option maxHeartbeats 16000000
set_option maxRecDepth 10000
namespace Go.Proofs.YteenjodhmppgjaaGreatDoor.Am
open Go.Proofs.Tryz
section
open Go
variable (ext:Ext)
def eV0 : Prop:=∀ n,n≠14∧n≠121∧n≠59∧n≠240∧n≠249∧n≠250→ext n=none
theorem gR2 (hx:ext 230=none)(x:Lev)(h126:run prog ext (.call 126 [levV x] [])=some (.ret [bV x.valid] []))
  (h129:x.valid=true→run prog ext (.call 129 [iV x.c,dV x.d] [])=some (.ret [levV (jB0 x.c x.vs)] []))
  (h128:run prog ext (.call 128 [levV (jB0 x.c x.vs)] [])=some (.ret [levV (sH0 (jB0 x.c x.vs)).1,iV (sH0 (jB0 x.c x.vs)).2] [])) :
  run prog ext (.call 230 [levV x] [])=some (.ret [levV (iE0 x).1,iV (iE0 x).2] []):=by
 cases hv:x.valid with
 | true=>exact uH2 ext hx x h126 (h129 hv) h128
 | false=>
  unfold iE0
  rw[hv]at h126 ⊢
  rw[if_neg (by simp)]
  (rw[enT hx func230 rfl];simp only[f230,zR,simprocAttr,zE])
  simp only[levV,bV,iV,levC]at h126 ⊢
  simp only[zS,zD,zT36,h126,simprocAttr]
  (refine .trans ?_ rfl;kernel_rfl)
def Tm.small (t:Tm):Prop:=t.wt<2^49
theorem kK0 (t:Tm)(h:t.small)(y:Tm)(hy:y∈t.l):y.small:=by have:=Tm.wt_lt hy;unfold Tm.small at h ⊢;omega
theorem eX1 (H:eV0 ext)(hs:lR0 ext)(y:Lev):run prog ext (.call 221 [levV y] [])=some (.ret [levV (iD0 y).1,iV (iD0 y).2] []):=by
 have E:=H
 refine uG2 ext (E _ (by decide)) hs y (iO2 ext (E _ (by decide)) (E _ (by decide)) (E _ (by decide)) (E _ (by decide)) y) fun hv=> ?_
 have hl:y.vs.length≤8:=by
  unfold Lev.valid at hv
  simp only[Bool.and_eq_true,decide_eq_true_eq]at hv
  exact_mod_cast hv.1.2
 have:=cH2 ext (E _ (by decide)) (E _ (by decide)) y.c (gU0 y.vs) false (by rw[gN1];omega)
 rwa[oM0]at this
theorem uD1 (H:eV0 ext)(z z':Bool)(l m:List LV)(hl:l.length<2^50):run prog ext (.call 222 [dV (aJ0 z 2 (l.map lvD)),dV (aJ0 z' 2 (m.map lvD))] [])=some (.ret [bV (allR eqLV l m)] []):=eqs222 ext (H _ (by decide)) z z' l m hl
theorem oQ1 (H:eV0 ext)(hs:lR0 ext)(y:Lev):run prog ext (.call 173 [levV y] [])=some (.ret [bV (cX0 y)] []):=
 cL2 ext (H _ (by decide)) y (eX1 ext H hs y) (uD1 ext H)
theorem eY1 (H:eV0 ext)(y:Lev):run prog ext (.call 230 [levV y] [])=some (.ret [levV (iE0 y).1,iV (iE0 y).2] []):=by
 have E:=H
 refine gR2 ext (E _ (by decide)) y (iP2 ext (E _ (by decide)) y) (fun hv=> ?_) (qK2 ext (E _ (by decide)) _)
 have hl:y.vs.length≤8:=by
  unfold Lev.valid at hv
  simp only[Bool.and_eq_true,decide_eq_true_eq]at hv
  exact_mod_cast hv.1.2
 exact cI2 ext (E _ (by decide)) (E _ (by decide)) y.z y.vs y.c (by omega)
theorem oR1 (H:eV0 ext)(y:Lev)(hy:y.vs.length<2^50):run prog ext (.call 178 [levV y] [])=some (.ret [bV (cX0 y)] []):=
 cM2 ext (H _ (by decide)) y (eY1 ext H y) (eq43 ext (H _ (by decide)) y _ hy)
theorem eF1 (H:eV0 ext)(hs:lR0 ext)(t:Tm)(h:t.small):run prog ext (.call 64 [tmV t] [])=some (.ret [bV (formOK t)] []):=by
 have E:=H
 refine jS2 ext (E _ (by decide)) (E _ (by decide)) (E _ (by decide)) (E _ (by decide)) Tm.small kK0 (fun x hx=> ?_) t.sz t h (Nat.le_refl _) (by have:=t.sz_le_wt;unfold Tm.small at h;omega)
 have h1:=x.s_lt
 have h2:=x.ulen_lt
 have h3:=x.sz_le_wt
 unfold Tm.small at hx
 exact sW2 ext (E _ (by decide)) (E _ (by decide)) x (sQ2 ext (E _ (by decide)) x.s (by omega))
  (all171 ext (E _ (by decide)) (E _ (by decide)) (E _ (by decide)) x.zu x.u (by omega) fun y _=>oQ1 ext H hs y)
theorem uW1 (H:eV0 ext)(t:Tm)(h:t.small):run prog ext (.call 66 [tmV t] [])=some (.ret [bV (formOK t)] []):=by
 have E:=H
 refine jT2 ext (E _ (by decide)) Tm.small kK0 (fun x hx=> ?_) t.sz t h (Nat.le_refl _) (by have:=t.sz_le_wt;unfold Tm.small at h;omega)
 have h1:=x.s_lt
 have h2:=x.ulen_lt
 have h3:=x.sz_le_wt
 unfold Tm.small at hx
 exact sY2 ext (E _ (by decide)) (E _ (by decide)) (E _ (by decide)) (E _ (by decide)) (E _ (by decide)) x (by omega)
  (fun y hy=>oR1 ext H y (by have:=Tm.levw_lt hy;unfold Lev.sz at this;omega)) (sR2 ext (E _ (by decide)) x.s (by omega))
def ndx (x:Tb)(t:Tm):Int:=ndE t (nT0 x t.s) (gX0 x t.s)
theorem arB_R (t:Tm)(d:Dc)(h1:t.l.length<2^50)(h2:d.cons.length<2^50):arR t d=arB t d:=by
 unfold arR arB
 have e:((t.l.length:Int) != wr ((d.cons.length:Int)+3))=(wr ((t.l.length:Int) - 3) != (d.cons.length:Int)):=by
  rw[gL0 (by omega) (by omega),gL0 (by omega) (by omega),Bool.eq_iff_iff,bne_iff_ne,bne_iff_ne]
  omega
 rw[e]
theorem uL1 {x:Tb}{s:ByteArray}:(gX0 x s).1=zDc∨(gX0 x s).1∈x.ds:=by
 unfold gX0
 split
 ·exact .inl rfl
 ·rename_i d e
  split
  ·exact .inr (List.mem_of_find?_eq_some e)
  ·exact .inl rfl
theorem oW1 {x:Tb} (hx:x.wt<2^49){d:Dc} (h:d=zDc∨d∈x.ds):d.cons.length<2^49:=by
 rcases h with rfl | h
 ·exact(by decide:(0:Nat)<2^49)
 ·have:=d.cons_lt;have:=Tb.dc_le h;omega
theorem ndR_z (x:Tb)(hx:x.wt<2^49)(t:Tm)(ht:t.small):ndR zDc t (nT0 x t.s) (gX0 x t.s)=ndx x t:=by
 have h1:=t.len_lt
 have h2:=t.sz_le_wt
 unfold Tm.small at ht
 have a1:arR t (gX0 x t.s).1=arB t (gX0 x t.s).1:=arB_R t _ (by omega) (by have:=oW1 hx (uL1 (x:=x) (s:=t.s));omega)
 have a2:(t.op==2)=true→arR t (nT0 x t.s).1=((t.u.length:Int) != (nT0 x t.s).1.levels):=by
  intro e
  rw[beq_iff_eq]at e
  unfold arR
  have e27:(t.op==27)=false:=by rw[e];rfl
  have e28:(t.op==28)=false:=by rw[e];rfl
  rw[e27,e28,Bool.false_and,Bool.false_and,Bool.or_false,Bool.or_false]
 have a3:ownB zDc t=false:=rfl
 unfold ndx ndE ndR
 rw[a3,Bool.and_false,if_neg (by simp:¬ (false=true)),a1]
 by_cases c:(t.op==2)=true
 ·rw[if_pos c,if_pos c,a2 c]
 ·rw[if_neg c,if_neg c]
theorem fits19 (hx:ext 19=none)(x:Tb)(t:Tm)(r:Option (Int × List Int))(r64:run prog ext (.call 64 [tmV t] [])=some (.ret [bV (formOK t)] []))(r65:run prog ext (.call 65 [tbV x,nptr,tmV t,dV nilD] [])=some (.ret [resV [] r] []))
  (r59:run prog ext (.call 59 [resV [] r] [])=some (.ret [resF [] r] [])) :
  run prog ext (.call 19 [tbV x,tmV t] [])=some (.ret [if formOK t=true then resF [] r else fltV 4 []] []):=by
 cases hf:formOK t with
 | false=>
  rw[hf]at r64
  rw[if_neg (by simp)]
  (rw[enT hx func19 rfl];simp only[f19,zR,simprocAttr,zE])
  simp only[tbV,tbC,tmV,tmC,bV,fltV,iT0]at r64 ⊢
  simp only[zS,zD,zT33,zT45,r64,simprocAttr]
  (refine .trans ?_ rfl;kernel_rfl)
 | true=>
  rw[hf]at r64
  rw[if_pos rfl]
  obtain⟨D,hD⟩:∃ D,resV [] r=V.c (.d D):=by
   cases r with
   | none=>exact⟨_,rfl⟩
   | some q=>show ∃ D,erV q.1 ([]++q.2)=_;exact⟨_,nY0 _ _⟩
  obtain⟨c,p,hF⟩:∃ c p,resF [] r=fltV c p:=by
   cases r with
   | none=>exact⟨_,_,rfl⟩
   | some q=>exact⟨_,_,rfl⟩
  rw[hD]at r65 r59
  rw[hF]at r59 ⊢
  (rw[enT hx func19 rfl];simp only[f19,zR,simprocAttr,zE])
  simp only[tbV,tbC,tmV,tmC,bV,dV,nptr,nilD,fltV]at r64 r65 r59 ⊢
  simp only[zS,zD,zT24,zT33,zT45,r64,r65,r59,simprocAttr]
  (refine .trans ?_ rfl;kernel_rfl)
end
end Go.Proofs.YteenjodhmppgjaaGreatDoor.Am
