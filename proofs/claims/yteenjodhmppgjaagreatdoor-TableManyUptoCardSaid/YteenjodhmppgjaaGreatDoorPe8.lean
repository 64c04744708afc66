/- A part of the proof of a card. No conditions. -/
import Derived.Test.YteenjodhmppgjaaGreatDoorPb9
import Derived.Test.YteenjodhmppgjaaGreatDoorPe7
import Derived.ChangeMaps5
set_option linter.all false
set_option maxHeartbeats 16000000
set_option maxRecDepth 10000
namespace Go.Proofs.YteenjodhmppgjaaGreatDoor.Am
open Go.Proofs.Tryz
section
open Go
noncomputable def E8 : Ext:=fun f=>if f=249 then some (gOf R249) else if f=250 then some (gOf R250) else if f=59 then some g59 else E2 f
theorem rec8 : rH1 prog (run prog E8):=by
 refine yZ1 named (fun f g args objs out h1 h2=> ?_) mixes
 unfold E8 at h1
 by_cases h249:f=249
 ·subst h249;rw[if_pos rfl]at h1;cases h1;exact .inl ⟨cX1,nN2 (kP2 h2)⟩
 rw[if_neg h249]at h1
 by_cases h250:f=250
 ·subst h250;rw[if_pos rfl]at h1;cases h1;exact .inl ⟨cY1,nO2 (kP2 h2)⟩
 rw[if_neg h250]at h1
 by_cases h59:f=59
 ·subst h59;rw[if_pos rfl]at h1;cases h1;exact .inl ⟨cB2,call59 h2⟩
 rw[if_neg h59]at h1
 unfold E2 at h1
 by_cases h0:f=240
 ·subst h0;rw[if_pos rfl]at h1;cases h1;exact .inl ⟨lU0,nM2 (nL2 h2)⟩
 rw[if_neg h0]at h1
 unfold E1 at h1
 by_cases h:f=121
 ·subst h;rw[if_pos rfl]at h1;cases h1;exact .inl ⟨pE0,nK2 (nJ2 h2)⟩
 ·rw[if_neg h]at h1
  by_cases h':f=14
  ·subst h';rw[if_pos rfl]at h1;cases h1
   unfold g14 at h2
   split at h2
   ·cases h2;exact .inl ⟨kY1,oF0 awake0 kY1⟩
   ·cases h2
  ·rw[if_neg h']at h1;cases h1
theorem ex8 : eV0 E8:=fun n h=>by
 unfold E8
 rw[if_neg h.2.2.2.2.1,if_neg h.2.2.2.2.2,if_neg h.2.2.1]
 exact ex2 n h.1 h.2.1 h.2.2.2.1
theorem rS1 : run prog E8 (.call 14 [] [])=some (.ret [bV true] []):=by
 rw[eE0]
 simp[hR0,E8,E2,E1,g14]
theorem zN1 : lR0 E8:=by
 intro z l hl
 rw[eE0]
 simp only[hR0,E8,E2,E1]
 exact qO2 ⟨z,l,hl,rfl,rfl,rfl⟩
theorem iB1 : iI0 E8:=by
 intro z l hl
 rw[eE0]
 simp only[hR0,E8,E2]
 exact qP2 ⟨z,l,hl,rfl,rfl,rfl⟩
theorem uM1 (r:Option (Int × List Int)):run prog E8 (.call 59 [resV [] r] [])=some (.ret [resF [] r] []):=by
 rw[eE0]
 simp only[hR0,E8]
 cases r with
 | none=>rfl
 | some q=>
  obtain⟨c,p⟩:=q
  cases p with
  | nil=>rfl
  | cons a r=>
   show g59 [.c (.d (.i 128 [.v (.int .i64 c),.s 1 ((a::r).map inD)]))] []=some (.ret [fltV c (a::r)] [])
   unfold fltV
   rw[iH0]
   rfl
theorem vI2 : SoCo E8 soL coL:=
 ⟨kA1,sN1,by
  have h:=sN1 (soL [])
  rw[kA1]at h
  exact List.length_eq_zero_iff.1 (Nat.le_zero.1 h),fun l v=>(pB2 (soL l) v).trans List.mem_mergeSort,by
  rw[eE0]
  simp only[hR0,E8,if_true]
  exact lY1 jO2 (.inl ⟨rfl,rfl,rfl⟩),by
  rw[eE0]
  simp only[hR0,E8]
  exact lY1 jP2 (.inl ⟨rfl,rfl,rfl⟩),fun a r h=>by
  rw[eE0]
  simp only[hR0,E8,if_true]
  exact lY1 jO2 (.inr ⟨a::r,by simp only[List.length_cons];omega,rfl,rfl,rfl⟩),fun l h=>by
  rw[eE0]
  simp only[hR0,E8]
  exact lY1 jP2 (.inr ⟨l,by omega,rfl,rfl,rfl⟩)⟩
end
section
open Go Go.ChangeShapes Go.WideShapes Go.RowKit Go.ChangeMaps
theorem rU2 : prog.globalNamed "errors.errorType" = some 0 := by kernel_rfl
theorem laid_rt : (prog.cutTypes.find? (·.1 == "internal/reflectlite.rtype")).map (·.2) = some 203 := by kernel_rfl
theorem jC1 : ((List.range prog.types.size).filter fun t=>prog.rowNamed t [101,114,114,111,114])=[85]:=by kernel_rfl
theorem oL0 {W : World} (h : laidMetH prog [("errors.errorType", Rows.laid_errors_errorType)] W) : W.cell? ⟨0, 0, none⟩ = some jB1 := by
 have h' : laidMet prog [] W ∧ handlesMet prog [("errors.errorType", Rows.laid_errors_errorType)] W := h
 obtain⟨name,u,ty,e1,e2,e3,e4,e5⟩:=h'.2 _ (List.mem_singleton.2 rfl)
 have en:name=[101,114,114,111,114]:=(Option.some.inj e1).symm
 subst en
 obtain rfl:=Option.some.inj (laid_rt.symm.trans e2)
 have hm:ty∈(List.range prog.types.size).filter fun t=>prog.rowNamed t [101,114,114,111,114]:=List.mem_filter.2 ⟨List.mem_range.2 e3,e4⟩
 rw[jC1]at hm
 obtain rfl:=List.mem_singleton.1 hm
 have hh:typeHandle prog 85 = .pointer (some ⟨1,85,none⟩):=by kernel_rfl
 rw[hh]at e5
 have:=World.var?_cell rU2 e5 0
 unfold jB1
 simpa using this
theorem sim0 {W:World} (hl:W.cell? ⟨0,0,none⟩=some jB1):Sim W (fun _=>False) (fun _=>0) (lk []):=
 ⟨fun b h=>h.elim,fun id o h=>(by cases h),fun id id' o o' h=>(by cases h),hl,by rintro⟨id,o,h1,_⟩;cases h1⟩
end
end Go.Proofs.YteenjodhmppgjaaGreatDoor.Am
