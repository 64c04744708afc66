/- A part of the proof of a card. No conditions. -/
import Derived.Test.YteenjodhmppgjaaGreatDoorPe8
set_option linter.all false
set_option maxHeartbeats 16000000
set_option maxRecDepth 10000
namespace Go.Proofs.YteenjodhmppgjaaGreatDoor.Am
open Go.Proofs.Tryz
section
open Go Go.ChangeShapes Go.WideShapes Go.RowKit Go.ChangeMaps
theorem law3' (x:Tb)(hx:x.wt<2^23):dZ0 prog 3 [tbV x] [] (.ret [bV true] []):=by
 have hrun:=law3 E8 ex8 zN1 iB1 vI2 rS1 uM1 x hx
 rcases rec8 3 _ _ _ hrun with⟨_,h⟩ | ⟨xs,y,h,_⟩
 ·exact h
 ·cases xs with
  | nil=>cases h
  | cons a l=>simp only[List.map_cons,List.cons.injEq]at h;cases h.1
theorem ran3 {W:World}{cs:Array Value}{H:Type}{en:TypeId × Value→H}{fuel:Nat}{x:DataW H × List MemPlace} (hl:W.cell? ⟨0,0,none⟩=some jB1)(h:DataW.trod en prog W 0 (fun _=>true) true fuel 24 cs.toList=some x)
  (hle:Rows.uptoBulk x.1≤1048576) :
  Calls prog 3 #[.agg cs] W fun e W'=>e = .returned (.bool true)∧(∀ b,b<W.heap.size→W'.heap[b]? = W.heap[b]?)∧∀ may,W.keptBut W' may:=by
 have hN:∀ b,b<W.heap.size→Nn W (fun _=>False) (fun _=>0) (lk []) b:=fun b hb=>⟨hb,id,by rintro⟨id,o,h1,_⟩;cases h1⟩
 obtain⟨t,hrep,hwt⟩:=jP1 hN h
 have hok:dZ0 prog 3 [tbV t] [] (.ret [bV true] []):=law3' t (by omega)
 have hall:All2 (RVs W (fun _=>False) (fun _=>0) (lk [])) [.agg cs] [tbV t]:=by
  refine .cons ⟨cs,rfl,?_⟩ .nil
  exact nF1 (β:=fun _=>0) (sh:=shL (lk [])) hrep
 refine(hok W (fun _=>False) (fun _=>0) _ (sim0 hl) hall).mono ?_
 rintro e W' ⟨β',v,rfl,hres,_,hst⟩
 obtain⟨k1,k2⟩:=iZ1 hst
 refine⟨?_,k1,k2⟩
 rcases hres with⟨y,hy,hv⟩ | ⟨hne,_⟩
 ·cases hy
  have hv':RepD W' _ v (.v (.bool true)):=hv
  cases hv'
  rfl
 ·exact absurd rfl hne
set_option maxRecDepth 100000 in
theorem sP1 (H:Type)(enc:TypeId × Value→H)(W:World)(base:Nat)(args:Array Value)(ds gs:List (DataW H))(before:List MemPlace)
  (hval:∀ (j:Nat) t v,f3.params[j]? = some t→args[j]? = some v→Value.okWide prog W .any base t v)
  (hW : DataW.Whole enc prog f3.params.toList Rows.tableChecksSpec.vars false W args.toList ds gs before) (hcond : Rows.uptoSmall H (ds ++ gs) = true) (hlaid : laidMetH prog [("errors.errorType", Rows.laid_errors_errorType)] W) :
  Calls prog 3 args W fun e W'=>∃ v,e = .returned v∧Rows.tableChecksSpec.post enc prog f3 false true false false W args v W':=by
 have hW':=hW
 obtain⟨p,q,hA0,hV,rfl,hfz,hnd⟩:=hW
 have hA:DataW.TrodAll enc prog W 0 (fun _=>true) true f3.params.toList args.toList ds p:=hA0
 rw[Tryz.params3]at hA
 have q0:f3.params[0]? = some 24:=by kernel_rfl
 obtain⟨v0,d0,rfl,rfl,t0⟩:=trodAll_one hA
 obtain⟨rfl,rfl⟩:=trodVars_none hV
 have w0:=hval 0 24 v0 q0 (by simp)
 clear hval
 obtain⟨cs,e0,_⟩:=okWide_struct Tryz.underlying24 w0
 subst e0
 obtain⟨fuel,ht⟩:=t0
 have hb:=of_decide_eq_true hcond
 simp only[List.cons_append,List.nil_append,List.append_nil,Rows.uptoBulkAll]at hb
 refine(ran3 (oL0 hlaid) ht (show Rows.uptoBulk d0≤1048576 by omega)).mono fun e W' ⟨he,hk,hkept⟩=> ?_
 subst he
 refine⟨_,rfl,[d0],[],_,[],p,[],hW',trodAll_mk1 (shut_bool Tryz.underlying4 _),?_,rfl,hkept _,fun h=>by cases h⟩
 refine trodAll_mk1 ⟨fuel,kF1 hk ht fun p' hp=> ?_⟩
 have hp':p'∈p++([]:List MemPlace):=by simp only[List.append_nil];exact hp
 simpa using hW'.lt p' hp'
end
end Go.Proofs.YteenjodhmppgjaaGreatDoor.Am
