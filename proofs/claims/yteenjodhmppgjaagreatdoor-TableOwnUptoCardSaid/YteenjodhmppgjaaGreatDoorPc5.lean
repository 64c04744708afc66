/- A part of the proof of a card. No conditions. -/
import Derived.Test.YteenjodhmppgjaaGreatDoorPc4
import Derived.Test.YteenjodhmppgjaaGreatDoorPc3
import Derived.ChangeMaps5
set_option linter.all false
set_option maxHeartbeats 16000000
set_option maxRecDepth 10000
namespace Go.Proofs.YteenjodhmppgjaaGreatDoor.Am
open Go.Proofs.Tryz
section
open Go Go.ChangeShapes Go.WideShapes Go.RowKit Go.ChangeMaps
theorem uC1 : prog.globalNamed "errors.errorType" = some 0 := by kernel_rfl
theorem laid_rt : (prog.cutTypes.find? (·.1 == "internal/reflectlite.rtype")).map (·.2) = some 203 := by kernel_rfl
theorem yF0 : ((List.range prog.types.size).filter fun t=>prog.rowNamed t [101,114,114,111,114])=[85]:=by kernel_rfl
theorem yE0 {W : World} (h : laidMetH prog [("errors.errorType", Rows.laid_errors_errorType)] W) : W.cell? ⟨dI0, 0, none⟩ = some lZ0 := by
 have h' : laidMet prog [] W ∧ handlesMet prog [("errors.errorType", Rows.laid_errors_errorType)] W := h
 obtain⟨name,u,ty,e1,e2,e3,e4,e5⟩:=h'.2 _ (List.mem_singleton.2 rfl)
 have en:name=[101,114,114,111,114]:=(Option.some.inj e1).symm
 subst en
 obtain rfl:=Option.some.inj (laid_rt.symm.trans e2)
 have hm:ty∈(List.range prog.types.size).filter fun t=>prog.rowNamed t [101,114,114,111,114]:=List.mem_filter.2 ⟨List.mem_range.2 e3,e4⟩
 rw[yF0]at hm
 obtain rfl:=List.mem_singleton.1 hm
 have hh:typeHandle prog 85 = .pointer (some ⟨1,85,none⟩):=by kernel_rfl
 rw[hh]at e5
 have:=World.var?_cell uC1 e5 0
 unfold lZ0 dI0
 simpa using this
theorem rK1 : prog.cellsOf 67=13:=by kernel_rfl
theorem len13 {α:Type}:∀ {l:List α},l.length=13→∃ a0 a1 a2 a3 a4 a5 a6 a7 a8 a9 a10 a11 a12,l=[a0,a1,a2,a3,a4,a5,a6,a7,a8,a9,a10,a11,a12]
 | [_,_,_,_,_,_,_,_,_,_,_,_,_],_=>⟨_,_,_,_,_,_,_,_,_,_,_,_,_,rfl⟩
theorem uU1 {H:Type}{en:TypeId × Value→H}{W:World}{N:Nat→Prop} (hN:∀ b,b<W.heap.size→N b){fuel:Nat}{cs:List Value}{x:DataW H × List MemPlace} (h:DataW.trod en prog W 0 (fun _=>true) true fuel 67 cs=some x) :
  ∃ q:Ask,All2 (RepD W N) cs (askD q)∧q.ls.length≤Rows.uptoBulk x.1∧q.a.sz≤Rows.uptoBulk x.1∧q.b.sz≤Rows.uptoBulk x.1:=by
 obtain⟨xs,n,hfu,rfl,hcl,hxl,hf⟩:=DataW.trod_struct Tryz.underlying67 h
 rw[rK1]at hcl
 obtain⟨v0,v1,v2,v3,v4,v5,v6,v7,v8,v9,v10,v11,v12,rfl⟩:=len13 hcl
 obtain⟨x0,x1,x2,x3,x4,rfl⟩:∃ x0 x1 x2 x3 x4,xs=[x0,x1,x2,x3,x4]:=len5 hxl
 have f0:=hf 0 _ rfl
 have f1:=hf 1 _ rfl
 have f2:=hf 2 _ rfl
 have f3:=hf 3 _ rfl
 have f4:=hf 4 _ rfl
 simp only[uH0,zR0,eZ1,lQ0,List.drop_zero,List.drop_succ_cons,List.take_succ_cons,List.take_zero,List.getElem_toArray,List.getElem_cons_zero,List.getElem_cons_succ,List.getElem?_cons_zero,List.getElem?_cons_succ]at f0 f1 f2 f3 f4
 obtain⟨s,e0,rfl,_⟩:=DataW.trod_string Tryz.underlying9 f0
 obtain⟨z,l,v,e1,hrep,hl⟩:=mZ1 hN f1
 obtain⟨n2,e2,rfl,_⟩:=DataW.trod_int Tryz.underlying3 f2
 obtain⟨t3,h3,s3⟩:=qJ0 hN _ _ _ f3
 obtain⟨t4,h4,s4⟩:=qJ0 hN _ _ _ f4
 replace e0:=List.head_eq_of_cons_eq e0;subst e0;replace e1:=List.head_eq_of_cons_eq e1;subst e1;replace e2:=List.head_eq_of_cons_eq e2;subst e2
 have hbk:Rows.uptoBulk (DataW.agg ([((DataW.lit (.string s.data.toList):DataW H),([]:List MemPlace)),x1,(.lit (.int .i64 n2),[]),x3,x4].map (·.1)))≥Rows.uptoBulk x1.1+Rows.uptoBulk x3.1+Rows.uptoBulk x4.1:=by
  simp only[List.map_cons,List.map_nil,Rows.uptoBulk,Rows.uptoBulkAll];omega
 refine⟨⟨s,z,l,n2,t3,t4⟩,?_,by dsimp only;omega,by dsimp only;omega,by dsimp only;omega⟩
 unfold askD
 simp only[List.append_assoc]
 exact .cons (.v rfl) (.cons hrep (.cons (.v rfl) (All2.append h3 h4)))
section
variable {H:Type}{en:TypeId × Value→H}{W W':World}{sp:Nat→Bool} (hw:∀ b,b<W.heap.size→W'.heap[b]? = W.heap[b]?)
include hw
theorem kF1 {n:Nat}{cs:List Value}{x:DataW H × List MemPlace} (h:DataW.trod en prog W 0 (fun _=>true) true n 67 cs=some x)(hsp:∀ p∈x.2,sp p.block=true):DataW.trod en prog W' 0 sp true n 67 cs=some x:=by
 obtain⟨xs,m,rfl,rfl,hcl,hxl,hf⟩:=DataW.trod_struct Tryz.underlying67 h
 obtain⟨x0,x1,x2,x3,x4,rfl⟩:∃ x0 x1 x2 x3 x4,xs=[x0,x1,x2,x3,x4]:=len5 hxl
 have f0:DataW.trod en prog W 0 (fun _=>true) true m 9 ((cs.drop 0).take (prog.cellsOf 9))=some x0:=hf 0 _ rfl
 have f1:DataW.trod en prog W 0 (fun _=>true) true m 30 ((cs.drop 1).take (prog.cellsOf 30))=some x1:=hf 1 _ rfl
 have f2:DataW.trod en prog W 0 (fun _=>true) true m 3 ((cs.drop 2).take (prog.cellsOf 3))=some x2:=hf 2 _ rfl
 have f3:DataW.trod en prog W 0 (fun _=>true) true m 33 ((cs.drop 3).take (prog.cellsOf 33))=some x3:=hf 3 _ rfl
 have f4:DataW.trod en prog W 0 (fun _=>true) true m 33 ((cs.drop 8).take (prog.cellsOf 33))=some x4:=hf 4 _ rfl
 have g0:=hY0 hw (sp:=sp) f0
 have g1:=vE0 hw f1 (fun p hp=>hsp p (by simp[hp]))
 have g2:=gR0 hw (sp:=sp) Tryz.underlying3 f2
 have g3:=mG0 hw m _ _ f3 (fun p hp=>hsp p (by simp[hp]))
 have g4:=mG0 hw m _ _ f4 (fun p hp=>hsp p (by simp[hp]))
 exact trod_struct_mk Tryz.underlying67 hcl (by show(List.mapM (fun f:Field=>_) [_,_,_,_,_])=_;simp only[List.mapM_cons,List.mapM_nil,g0,g1,g2,g3,g4];rfl)
end
theorem iH1 (q:Ask):(askD q).map recD=askD (gA q):=by
 have h:recD q.d=(gA q).d:=by
  unfold Ask.d
  rw[gA0,List.map_map]
  show listD (gF q.z) 2 (q.ls.map _)=listD (gF q.z) 2 ((q.ls.map gL).map levD)
  rw[List.map_map]
  congr 1
  exact List.map_congr_left fun u _=>nG0 u
 simp only[askD,List.map_append,List.map_cons,List.map_nil,recD,nH0,h]
 rfl
theorem oF0 {W:World}{N N':Nat→Prop}{g':Guest} (h2:∀ b,N b→g'.G b):∀ {l:List Value}{ds:List D},All2 (@RepD noGuest W N) l ds→All2 (@RepD g' W N') l (ds.map recD)
 | _,_,.nil=> .nil
 | _,_,.cons h t=> .cons (RepD.given (g:=noGuest) h (fun b hb=>hb.elim) h2) (oF0 h2 t)
theorem ran10 {W:World}{cs cs':Array Value}{H:Type}{en:TypeId × Value→H}{fuel fuel':Nat}{x y:DataW H × List MemPlace} (hlaid:W.cell? ⟨dI0,0,none⟩=some lZ0)(h:DataW.trod en prog W 0 (fun _=>true) true fuel 24 cs.toList=some x)
  (h':DataW.trod en prog W 0 (fun _=>true) true fuel' 67 cs'.toList=some y) (hle:Rows.uptoBulk x.1≤1048576) (hle':Rows.uptoBulk y.1≤1048576) :
  Calls prog 10 #[.agg cs,.agg cs'] W fun e W'=>e = .returned (.bool true)∧(∀ b,b<W.heap.size→W'.heap[b]? = W.heap[b]?)∧∀ may,W.keptBut W' may:=by
 obtain⟨t,hrep,hlen,hds⟩:=readTb (N:=fun b=>b<W.heap.size) (fun b hb=>hb) h
 obtain⟨q,hrep',hl,ha,hb⟩:=uU1 (N:=fun b=>b<W.heap.size) (fun b hb=>hb) h'
 have g1:All2 (@RepD (gOld W) W (fun b=>b<W.heap.size)) cs.toList [(gB t).d]:=by
  have:=oF0 (N:=fun b=>b<W.heap.size) (N':=fun b=>b<W.heap.size) (g':=gOld W) (fun b hb=>hb) hrep
  rwa[List.map_cons,List.map_nil,uY1]at this
 have g2:All2 (@RepD (gOld W) W (fun b=>b<W.heap.size)) cs'.toList (askD (gA q)):=by
  have:=oF0 (N:=fun b=>b<W.heap.size) (N':=fun b=>b<W.heap.size) (g':=gOld W) (fun b hb=>hb) hrep'
  rwa[iH1]at this
 have e1:(gB t).ds=t.ds.map gD:=rfl
 have e2:(gA q).ls=q.ls.map gL:=rfl
 refine(own10 t q g1 g2 hlaid ⟨by rw[e1,List.length_map];omega,fun d hd=> ?_⟩ (fun d hd=> ?_) (by rw[e2,List.length_map];omega) (by show(gT q.a).sz<_;rw[kY0];omega) (by show(gT q.b).sz<_;rw[kY0];omega)).mono ?_
 ·rw[e1]at hd
  obtain⟨d,hd',rfl⟩:=List.mem_map.1 hd
  have:=hds d hd'
  refine⟨?_,?_,?_,?_,fun c hc=> ?_⟩
  ·show(gT d.type).sz<_;rw[kY0];have:=this.1;omega
  ·show(gT d.body).sz<_;rw[kY0];have:=this.2.1;omega
  ·show(gT d.param).sz<_;rw[kY0];have:=this.2.2.1;omega
  ·show(d.cons.map gC).length<_;rw[List.length_map];have:=this.2.2.2.1;omega
  ·obtain⟨c,hc',rfl⟩:=List.mem_map.1 (show c∈d.cons.map gC from hc)
   show(gT c.arg).sz<_;rw[kY0];have:=this.2.2.2.2 c hc';omega
 ·rw[e1]at hd
  obtain⟨d,hd',rfl⟩:=List.mem_map.1 hd
  have:=hds d hd'
  refine⟨?_,?_,?_,fun c hc=> ?_⟩
  ·show(gT d.type).sz<_;rw[kY0];have:=this.1;omega
  ·show(gT d.body).sz<_;rw[kY0];have:=this.2.1;omega
  ·show(gT d.param).sz<_;rw[kY0];have:=this.2.2.1;omega
  ·obtain⟨c,hc',rfl⟩:=List.mem_map.1 (show c∈d.cons.map gC from hc)
   show(gT c.arg).sz<_;rw[kY0];have:=this.2.2.2.2 c hc';omega
 ·rintro e W' ⟨he,hk,ho,hu⟩
  refine⟨he,hk,fun may=>⟨ho,hu,fun i hi=> ?_⟩⟩
  rw[hk i hi]
  cases hx:W.heap[i]? with
  | none=>trivial
  | some o=>cases o <;> simp
set_option maxRecDepth 100000 in
theorem cE1 (H:Type)(enc:TypeId × Value→H)(W:World)(base:Nat)(args:Array Value)(ds gs:List (DataW H))(before:List MemPlace)
  (hval:∀ (j:Nat) t v,f10.params[j]? = some t→args[j]? = some v→Value.okWide prog W .any base t v)
  (hW : DataW.Whole enc prog f10.params.toList Rows.tableOwnSpec.vars false W args.toList ds gs before) (hcond : Rows.uptoSmall H (ds ++ gs) = true) (hlaid : laidMetH prog [("errors.errorType", Rows.laid_errors_errorType)] W) :
  Calls prog 10 args W fun e W'=>∃ v,e = .returned v∧Rows.tableOwnSpec.post enc prog f10 false true false false W args v W':=by
 have hW':=hW
 obtain⟨p,q,hA0,hV,rfl,hfz,hnd⟩:=hW
 have hA:DataW.TrodAll enc prog W 0 (fun _=>true) true f10.params.toList args.toList ds p:=hA0
 rw[Tryz.params10]at hA
 have q0:f10.params[0]? = some 24:=by kernel_rfl
 have q1:f10.params[1]? = some 67:=by kernel_rfl
 obtain⟨v0,v1,d0,d1,p0,p1,rfl,rfl,rfl,t0,t1⟩:=trodAll_two hA
 obtain⟨rfl,rfl⟩:=trodVars_none hV
 have w0:=hval 0 24 v0 q0 (by simp)
 have w1:=hval 1 67 v1 q1 (by simp)
 clear hval
 obtain⟨cs,e0,_⟩:=okWide_struct Tryz.underlying24 w0
 subst e0
 obtain⟨cs',e1,_⟩:=okWide_struct Tryz.underlying67 w1
 subst e1
 obtain⟨fuel,ht⟩:=t0
 obtain⟨fuel',ht'⟩:=t1
 have hb:=of_decide_eq_true hcond
 simp only[List.cons_append,List.nil_append,List.append_nil,Rows.uptoBulkAll]at hb
 refine(ran10 (yE0 hlaid) ht ht' (show Rows.uptoBulk d0≤1048576 by omega) (show Rows.uptoBulk d1≤1048576 by omega)).mono fun e W' ⟨he,hk,hkept⟩=> ?_
 subst he
 refine⟨_,rfl,[d0,d1],[],_,[],p0++p1,[],hW',trodAll_mk1 (shut_bool Tryz.underlying4 _),?_,rfl,hkept _,fun h=>by cases h⟩
 refine trodAll_mk2 ⟨fuel,vY1 hk ht fun p hp=> ?_⟩ ⟨fuel',kF1 hk ht' fun p hp=> ?_⟩
 ·have hp':p∈(p0++p1)++([]:List MemPlace):=by simp only[List.append_nil,List.mem_append];exact .inl hp
  simpa using hW'.lt p hp'
 ·have hp':p∈(p0++p1)++([]:List MemPlace):=by simp only[List.append_nil,List.mem_append];exact .inr hp
  simpa using hW'.lt p hp'
end
end Go.Proofs.YteenjodhmppgjaaGreatDoor.Am
