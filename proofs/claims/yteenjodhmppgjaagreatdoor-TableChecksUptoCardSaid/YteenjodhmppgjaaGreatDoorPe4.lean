/- A part of the proof of a card. No conditions. -/
import Derived.Test.YteenjodhmppgjaaGreatDoorPe3
set_option linter.all false
set_option maxHeartbeats 16000000
set_option maxRecDepth 10000
namespace Go.Proofs.YteenjodhmppgjaaGreatDoor.Am
open Go.Proofs.Tryz
section
open Go
variable (ext:Ext)
noncomputable def B15 : Code:=(f15.body.getD .skip)
noncomputable def L15a : Code:=sub B15 [1,1,0,1,0,0]
theorem qR2 : It.code L15a=It.code (sub B15 [1,1,0,1,0,0]):=rfl
noncomputable def K15a : List It:=[.inBlock 0,.code (sub B15 [1,1,1])]
noncomputable def H15a (ext:Ext)(m:Nat)(env:Env)(loc:List O):Option Out:=run prog ext (.k ⟨34,m,[.tmp 2,.tmp 3],false⟩ (.code L15a :: .inLoop L15a::K15a) env loc)
theorem sl22 (look:Look)(slot:Nat)(els:List (List D))(k:Nat)(h:(k:Int)≤els.length):oE0 prog look slot 22 (.c (.d (.s 23 els))) none (some (.c (.d (.v (.int .i64 k))))) none=eff (.c (.d (.s 23 (els.take k)))):=by
 have h0:(0:Int)≤k:=by omega
 simp only[oE0,Tryz.underlying22,iF0,lP0,num,if_pos (And.intro h0 h),Int.toNat_natCast,List.drop_zero]
 simp
noncomputable def B16 : Code:=(f16.body.getD .skip)
noncomputable def L16a : Code:=sub B16 [1,1,0,1,0,0]
theorem qS2 : It.code L16a=It.code (sub B16 [1,1,0,1,0,0]):=rfl
noncomputable def K16a : List It:=[.inBlock 0,.code (sub B16 [1,1,1])]
noncomputable def H16a (ext:Ext)(m:Nat)(env:Env)(loc:List O):Option Out:=run prog ext (.k ⟨32,m,[.tmp 2,.tmp 3],false⟩ (.code L16a :: .inLoop L16a::K16a) env loc)
theorem big15 (hx:ext 15=none)(x:Tb)(h:decide ((x.ds.length:Int)>120)=true):run prog ext (.call 15 [tbV x] [])=some (.ret [iV 0,iV 2] []):=by
 (rw[enT hx func15 rfl];simp only[f15,zR,simprocAttr,zE])
 simp only[tbV,tbC,iV]
 simp only[zS,zD,bO0,zT22,gE0,h,simprocAttr]
 (refine .trans ?_ rfl;kernel_rfl)
theorem big16 (hx:ext 16=none)(x:Tb)(h:decide ((x.ds.length:Int)>120)=true):run prog ext (.call 16 [tbV x] [])=some (.ret [iV 0,iV 2] []):=by
 (rw[enT hx func16 rfl];simp only[f16,zR,simprocAttr,zE])
 simp only[tbV,tbC,iV]
 simp only[zS,zD,bO0,zT22,gE0,h,simprocAttr]
 (refine .trans ?_ rfl;kernel_rfl)
def E15 (x:Tb)(k:Int):Env:=[(1,.c (.ptr 0 0)),(12,dV x.d),(13,iV x.ds.length),(14,iV k)]
def E16 (k:Int):Env:=[(1,.c (.ptr 0 0)),(4,iV k)]
theorem en15 (hx:ext 15=none)(x:Tb)(hb:decide ((x.ds.length:Int)>120)=false)(out:Option Out)(h:H15a ext 0 (E15 x 0) [.box [.d x.d]]=out):run prog ext (.call 15 [tbV x] [])=out:=by
 unfold H15a at h
 (rw[enT hx func15 rfl];simp only[f15,zR,simprocAttr,zE])
 simp only[tbV,tbC,dV,iV,E15]at h ⊢
 simp only[zS,zD,bO0,zT22,gE0,hb,simprocAttr]
 (refine(aA0 ?_).trans h;kernel_rfl)
theorem en16 (hx:ext 16=none)(x:Tb)(hb:decide ((x.ds.length:Int)>120)=false)(out:Option Out)(h:H16a ext 0 (E16 0) [.box [.d x.d]]=out):run prog ext (.call 16 [tbV x] [])=out:=by
 unfold H16a at h
 (rw[enT hx func16 rfl];simp only[f16,zR,simprocAttr,zE])
 simp only[tbV,tbC,iV,E16]at h ⊢
 simp only[zS,zD,bO0,zT22,gE0,hb,simprocAttr]
 (refine(aA0 ?_).trans h;kernel_rfl)
theorem st15 (x:Tb)(d:Dc)(k:Nat)(hk:x.ds[k]? = some d)(hl:(k:Int)<x.ds.length)(E:D)(r60:run prog ext (.call 60 [.agg [.d (.s 23 ((x.ds.map dcD).take k))],dcV d] [])=some (.ret [dV E] []))(r59:run prog ext (.call 59 [dV E] [])=some (.ret [.agg [.d (.v (.int .i64 0)),.d (.v (.slice none 0 0))]] []))(out:Option Out)(h:H15a ext 0 (E15 x (wr ((k:Int)+1))) [.box [.d x.d]]=out):H15a ext 0 (E15 x k) [.box [.d x.d]]=out:=by
 have h0:(0:Int)≤k:=by omega
 have hD:=dW0 h0 hl
 have hle:(k:Int)≤x.ds.length:=by omega
 unfold H15a at h ⊢
 simp only[dcV,dcC,dV,iV,E15,hD]at r60 r59 h ⊢
 (rw[qR2];simp only[B15,K15a,sub,f15,↓reduceIte,zG])
 simp only[zS,zD,zT24,zT22,zT39,zT45,aK0,aC0,aD0,Array.size,List.length,sl22,h0,hl,hle,Int.toNat_natCast,hk,dF0 d,r60,r59,simprocAttr]
 rw[aB0 _ _ _ _ (by kernel_rfl)]
 simp only[zS,zD,bP0,zT27,simprocAttr]
 (refine(aA0 ?_).trans h;kernel_rfl)
theorem st16 (x:Tb)(d:Dc)(k:Nat)(hk:x.ds[k]? = some d)(hl:(k:Int)<x.ds.length)(r61:run prog ext (.call 61 [.agg [.d (.s 23 ((x.ds.map dcD).take k))],dcV d] [])=some (.ret [iV 0] []))(out:Option Out)(h:H16a ext 0 (E16 (wr ((k:Int)+1))) [.box [.d x.d]]=out):H16a ext 0 (E16 k) [.box [.d x.d]]=out:=by
 have h0:(0:Int)≤k:=by omega
 have hD:=dW0 h0 hl
 have hle:(k:Int)≤x.ds.length:=by omega
 unfold H16a at h ⊢
 simp only[dcV,dcC,iV,E16,hD]at r61 h ⊢
 (rw[qS2];simp only[B16,K16a,sub,f16,↓reduceIte,zG])
 simp only[zS,zD,zT24,zT22,zT39,aK0,aC0,aD0,Array.size,List.length,sl22,h0,hl,hle,Int.toNat_natCast,hk,dF0 d,r61,simprocAttr]
 rw[aB0 _ _ _ _ (by kernel_rfl)]
 simp only[zS,zD,simprocAttr]
 (refine(aA0 ?_).trans h;kernel_rfl)
theorem bad15 (c:Int)(F:D)(hc:¬ c=0)(x:Tb)(d:Dc)(k:Nat)(hk:x.ds[k]? = some d)(hl:(k:Int)<x.ds.length)(E:D)(r60:run prog ext (.call 60 [.agg [.d (.s 23 ((x.ds.map dcD).take k))],dcV d] [])=some (.ret [dV E] []))(r59:run prog ext (.call 59 [dV E] [])=some (.ret [.agg [.d (.v (.int .i64 c)),.d F]] [])):H15a ext 0 (E15 x k) [.box [.d x.d]]=some (.ret [iV k,iV c] []):=by
 have h0:(0:Int)≤k:=by omega
 have hD:=dW0 h0 hl
 have hle:(k:Int)≤x.ds.length:=by omega
 unfold H15a
 simp only[dcV,dcC,dV,iV,E15,hD]at r60 r59 ⊢
 (rw[qR2];simp only[B15,K15a,sub,f15,↓reduceIte,zG])
 simp only[zS,zD,zT24,zT22,zT39,zT45,aK0,aC0,aD0,Array.size,List.length,sl22,h0,hl,hle,Int.toNat_natCast,hk,dF0 d,r60,r59,simprocAttr]
 rw[aB0 _ _ _ _ (by kernel_rfl)]
 simp only[zS,zD,bP0,zT27,hc,aK0,aC0,aD0,Array.size,List.length,simprocAttr]
 rw[aB0 _ _ _ _ (by kernel_rfl)]
 simp only[zS]
 (refine .trans ?_ rfl;kernel_rfl)
theorem bad16 (c:Int)(hc:¬ c=0)(x:Tb)(d:Dc)(k:Nat)(hk:x.ds[k]? = some d)(hl:(k:Int)<x.ds.length)(r61:run prog ext (.call 61 [.agg [.d (.s 23 ((x.ds.map dcD).take k))],dcV d] [])=some (.ret [iV c] [])):H16a ext 0 (E16 k) [.box [.d x.d]]=some (.ret [iV k,iV c] []):=by
 have h0:(0:Int)≤k:=by omega
 have hD:=dW0 h0 hl
 have hle:(k:Int)≤x.ds.length:=by omega
 unfold H16a
 simp only[dcV,dcC,iV,E16,hD]at r61 ⊢
 (rw[qS2];simp only[B16,K16a,sub,f16,↓reduceIte,zG])
 simp only[zS,zD,zT24,zT22,zT39,aK0,aC0,aD0,Array.size,List.length,sl22,h0,hl,hle,Int.toNat_natCast,hk,dF0 d,r61,simprocAttr]
 rw[aB0 _ _ _ _ (by kernel_rfl)]
 simp only[zS,zD,hc,simprocAttr]
 (refine .trans ?_ rfl;kernel_rfl)
theorem dn15 (x:Tb):H15a ext 0 (E15 x x.ds.length) [.box [.d x.d]]=some (.ret [iV (-1),iV 0] []):=by
 unfold H15a
 simp only[dV,iV,E15]
 (rw[qR2];simp only[B15,K15a,sub,f15,↓reduceIte,zG])
 simp only[zS,zD,Int.lt_irrefl,simprocAttr]
 (refine .trans ?_ rfl;kernel_rfl)
theorem dn16 (x:Tb):H16a ext 0 (E16 x.ds.length) [.box [.d x.d]]=some (.ret [iV (-1),iV 0] []):=by
 unfold H16a
 simp only[iV,E16]
 (rw[qS2];simp only[B16,K16a,sub,f16,↓reduceIte,zG])
 simp only[zS,zD,bO0,zT22,gE0,Int.lt_irrefl,simprocAttr]
 (refine .trans ?_ rfl;kernel_rfl)
end
section
open Go
variable (ext:Ext)
def ckS (cd:Nat→Dc→Int)(k:Nat)(d:Dc):Option (Int × Int):=if cd k d=0 then none else some (k,cd k d)
def ckO : Option (Int × Int)→Out
 | none=> .ret [iV (-1),iV 0] []
 | some q=> .ret [iV q.1,iV q.2] []
def ckR (cd:Nat→Dc→Int)(x:Tb):Out:=if decide ((x.ds.length:Int)>120)=true then .ret [iV 0,iV 2] [] else ckO (bH0 (ckS cd) 0 x.ds)
theorem oU2 (cd:Nat→Dc→Int)(hx:ext 15=none)(x:Tb)(hr:decide ((x.ds.length:Int)>120)=false→∀ k d,x.ds[k]? = some d→∃ E F,run prog ext (.call 60 [.agg [.d (.s 23 ((x.ds.map dcD).take k))],dcV d] [])=some (.ret [dV E] [])∧run prog ext (.call 59 [dV E] [])=some (.ret [.agg [.d (.v (.int .i64 (cd k d))),.d F]] [])∧(cd k d=0→F = .v (.slice none 0 0))) :
  run prog ext (.call 15 [tbV x] [])=some (ckR cd x):=by
 unfold ckR
 cases hb:decide ((x.ds.length:Int)>120) with
 | true=>exact big15 ext hx x hb
 | false=>
  rw[if_neg (by decide)]
  have hs:x.ds.length<2^62:=by have:=of_decide_eq_false hb;omega
  refine en15 ext hx x hb _ ?_
  have:=dK0 x.ds (fun k=>H15a ext 0 (E15 x k) [.box [.d x.d]]) (ckS cd) (fun q=>some (ckO (some q))) (some (ckO none)) hs (fun k d hk hl=>by
   obtain⟨E,F,r60,r59,hF⟩:=hr hb k d hk
   unfold ckS
   by_cases c:cd k d=0
   ·rw[if_pos c]
    rw[c,hF c]at r59
    exact fun out ho=>st15 ext x d k hk hl E r60 r59 out ho
   ·rw[if_neg c]
    exact bad15 ext _ F c x d k hk hl E r60 r59) (dn15 ext x)
  refine Eq.trans this ?_
  cases bH0 (ckS cd) 0 x.ds <;> rfl
theorem oV2 (cd:Nat→Dc→Int)(hx:ext 16=none)(x:Tb)(hr:decide ((x.ds.length:Int)>120)=false→∀ k d,x.ds[k]? = some d→run prog ext (.call 61 [.agg [.d (.s 23 ((x.ds.map dcD).take k))],dcV d] [])=some (.ret [iV (cd k d)] [])) :
  run prog ext (.call 16 [tbV x] [])=some (ckR cd x):=by
 unfold ckR
 cases hb:decide ((x.ds.length:Int)>120) with
 | true=>exact big16 ext hx x hb
 | false=>
  rw[if_neg (by decide)]
  have hs:x.ds.length<2^62:=by have:=of_decide_eq_false hb;omega
  refine en16 ext hx x hb _ ?_
  have:=dK0 x.ds (fun k=>H16a ext 0 (E16 k) [.box [.d x.d]]) (ckS cd) (fun q=>some (ckO (some q))) (some (ckO none)) hs (fun k d hk hl=>by
   have h:=hr hb k d hk
   unfold ckS
   by_cases c:cd k d=0
   ·rw[if_pos c]
    rw[c]at h
    exact fun out ho=>st16 ext x d k hk hl h out ho
   ·rw[if_neg c]
    exact bad16 ext _ c x d k hk hl h) (dn16 ext x)
  refine Eq.trans this ?_
  cases bH0 (ckS cd) 0 x.ds <;> rfl
end
end Go.Proofs.YteenjodhmppgjaaGreatDoor.Am
