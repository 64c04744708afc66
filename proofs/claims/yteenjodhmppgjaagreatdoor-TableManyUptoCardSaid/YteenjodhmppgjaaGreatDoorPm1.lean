/- A part of the proof of a card. No conditions. -/
import Derived.Test.YteenjodhmppgjaaGreatDoorPe8
import Derived.Test.YteenjodhmppgjaaGreatDoorPf2
set_option linter.all false
set_option maxHeartbeats 16000000
set_option maxRecDepth 10000
namespace Go.Proofs.YteenjodhmppgjaaGreatDoor.Am
open Go.Proofs.Tryz
section
open Go Go.ChangeShapes Go.WideShapes Go.RowKit Go.ChangeMaps
theorem law4' (x:Tb)(n:Int)(hx:x.wt<2^23):dZ0 prog 4 [tbV x,iV n] [] (.ret [bV true] []):=by
 have hrun:=law4 E8 ex8 zN1 iB1 vI2 rS1 uM1 x n hx
 rcases rec8 4 _ _ _ hrun with⟨_,h⟩ | ⟨xs,y,h,_⟩
 ·exact h
 ·cases xs with
  | nil=>cases h
  | cons a l=>simp only[List.map_cons,List.cons.injEq]at h;cases h.1
theorem ran4 {W:World}{cs:Array Value}{n:Int}{H:Type}{en:TypeId × Value→H}{fuel:Nat}{x:DataW H × List MemPlace} (hl:W.cell? ⟨0,0,none⟩=some jB1)(h:DataW.trod en prog W 0 (fun _=>true) true fuel 24 cs.toList=some x)
  (hle:Rows.uptoBulk x.1≤1048576) :
  Calls prog 4 #[.agg cs,.int .i64 n] W fun e W'=>e = .returned (.bool true)∧(∀ b,b<W.heap.size→W'.heap[b]? = W.heap[b]?)∧∀ may,W.keptBut W' may:=by
 have hN:∀ b,b<W.heap.size→Nn W (fun _=>False) (fun _=>0) (lk []) b:=fun b hb=>⟨hb,id,by rintro⟨id,o,h1,_⟩;cases h1⟩
 obtain⟨t,hrep,hwt⟩:=jP1 hN h
 have hok:dZ0 prog 4 [tbV t,iV n] [] (.ret [bV true] []):=law4' t n (by omega)
 have hall:All2 (RVs W (fun _=>False) (fun _=>0) (lk [])) [.agg cs,.int .i64 n] [tbV t,iV n]:=by
  refine .cons ⟨cs,rfl,?_⟩ (.cons (.v rfl) .nil)
  exact nF1 (β:=fun _=>0) (sh:=shL (lk [])) hrep
 refine(hok W (fun _=>False) (fun _=>0) _ (sim0 hl) hall).mono ?_
 rintro e W' ⟨β',v,rfl,hres,_,hst⟩
 obtain⟨k1,k2⟩:=iZ1 hst
 refine⟨?_,k1,k2⟩
 rcases hres with⟨y,hy,hv⟩ | ⟨hne,_⟩
 ·cases hy
  have hv':RepD W' _ v (.v (.bool true)):=hv
  cases hv'
  rfl
 ·exact absurd rfl hne
set_option maxRecDepth 100000 in
theorem sQ1 (H:Type)(enc:TypeId × Value→H)(W:World)(base:Nat)(args:Array Value)(ds gs:List (DataW H))(before:List MemPlace)
  (hval:∀ (j:Nat) t v,f4.params[j]? = some t→args[j]? = some v→Value.okWide prog W .any base t v)
  (hW : DataW.Whole enc prog f4.params.toList Rows.tableManySpec.vars false W args.toList ds gs before) (hcond : Rows.uptoSmall H (ds ++ gs) = true) (hlaid : laidMetH prog [("errors.errorType", Rows.laid_errors_errorType)] W) :
  Calls prog 4 args W fun e W'=>∃ v,e = .returned v∧Rows.tableManySpec.post enc prog f4 false true false false W args v W':=by
 have hW':=hW
 obtain⟨p,q,hA0,hV,rfl,hfz,hnd⟩:=hW
 have hA:DataW.TrodAll enc prog W 0 (fun _=>true) true f4.params.toList args.toList ds p:=hA0
 rw[Tryz.params4]at hA
 have q0:f4.params[0]? = some 24:=by kernel_rfl
 have q1:f4.params[1]? = some 3:=by kernel_rfl
 obtain⟨v0,v1,d0,d1,p0,p1,rfl,rfl,rfl,t0,t1⟩:=trodAll_two hA
 obtain⟨rfl,rfl⟩:=trodVars_none hV
 have w0:=hval 0 24 v0 q0 (by simp)
 have w1:=hval 1 3 v1 q1 (by simp)
 clear hval
 obtain⟨cs,e0,_⟩:=okWide_struct Tryz.underlying24 w0
 subst e0
 obtain⟨n,rfl,rfl,rfl,hwf⟩:=open_int Tryz.underlying3 w1 t1
 obtain⟨fuel,ht⟩:=t0
 have hb:=of_decide_eq_true hcond
 simp only[List.cons_append,List.nil_append,List.append_nil,Rows.uptoBulkAll]at hb
 refine(ran4 (n:=n) (oL0 hlaid) ht (show Rows.uptoBulk d0≤1048576 by omega)).mono fun e W' ⟨he,hk,hkept⟩=> ?_
 subst he
 refine⟨_,rfl,[d0,.lit (.int .i64 n)],[],_,[],p0++[],[],hW',trodAll_mk1 (shut_bool Tryz.underlying4 _),?_,rfl,hkept _,fun h=>by cases h⟩
 refine trodAll_mk2 ⟨fuel,kF1 hk ht fun p hp=> ?_⟩ (shut_int Tryz.underlying3 hwf)
 have hp':p∈(p0++([]:List MemPlace))++[]:=by simp only[List.append_nil];exact hp
 simpa using hW'.lt p hp'
end
end Go.Proofs.YteenjodhmppgjaaGreatDoor.Am
