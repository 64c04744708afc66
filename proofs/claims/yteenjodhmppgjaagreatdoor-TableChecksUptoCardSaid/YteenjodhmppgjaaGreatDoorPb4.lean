/- A part of the proof of a card. No conditions. -/
import Derived.Test.YteenjodhmppgjaaGreatDoorPa6
import Derived.WalkKit
import Derived.LaidEql
import Derived.Stop.Asserts
set_option linter.all false
set_option maxHeartbeats 16000000
set_option maxRecDepth 10000
namespace Go.Proofs.YteenjodhmppgjaaGreatDoor.Am
open Go.Proofs.Tryz
section
open Go Go.RowKit Go.Extern.Stop Go.Stop Go.Extern
theorem as_nil (t:Value)(w:World) :
  Calls prog 100 #[.nilIface,t] w fun e w'=>e = .returned (.bool false)∧w'=w:=by
 go_enter func100,Tryz.ntmps100
 go_wp2
 go_ret
 exact⟨rfl,rfl⟩
theorem zE0 (t:Addr)(w:World):(ReflectliteValue.unpack (.iface 130 (.pointer (some t)))).run prog w
  = .ok (.agg #[.pointer (some ⟨1,130,none⟩),.pointer (some ⟨w.heap.size,0,none⟩),.int .u64 150]) (w.alloc (.cells #[.pointer (some t)] 130)):=by kernel_rfl
theorem oH1 (a : Addr) (w : World) : (ReflectliteValue.methodAny (ReflectliteValue.valueError "reflectlite.Value.Type" 0) (fun t _ _ _ => ReflectliteType.toType t) #[.agg #[.pointer (some ⟨1, 130, none⟩), .pointer (some a), .int .u64 150]]).run prog w
  = .ok (.iface 203 (.agg #[.pointer (some ⟨1,130,none⟩)])) w:=by kernel_rfl
theorem zC0 (h : Value) (w : World) : (Go.method 396 203 (.agg #[h]) "Kind").run prog w = .ok (299, h) w := by kernel_rfl
theorem oF1 (w:World):((ReflectliteType.abiMethod fun t=>(fun a:Nat=>Value.int IntKind.u8 (a:Int)) <$> Rtype.kind t) #[.pointer (some ⟨1,130,none⟩)]).run prog w = .ok (.int .u8 22) w:=by kernel_rfl
theorem oE1 (w:World):((ReflectliteType.abiMethod fun t=>(fun a:Nat=>Value.int IntKind.u8 (a:Int)) <$> Rtype.kind t) #[.pointer (some ⟨1,128,none⟩)]).run prog w = .ok (.int .u8 25) w:=by kernel_rfl
theorem jL2 (z:Sem Value)(f:TypeId→Addr→Nat→Nat→Sem Value)(v:Value) :
  ReflectliteValue.method z f #[v]=(do match ← ReflectliteValue.parts v with | none=>z | some (t,a,fl)=>f t a fl (fl % 32)):=rfl
theorem uQ0 (a:Addr)(w:World):(ReflectliteValue.parts (.agg #[.pointer (some ⟨1,130,none⟩),.pointer (some a),.int .u64 150])).run prog w = .ok (some (130,a,150)) w:=by kernel_rfl
theorem hP1 (a p:Addr)(W:World)(ha:W.cell? a=some (.pointer (some p))) :
  (ReflectliteValue.method (ReflectliteValue.valueError "reflectlite.Value.IsNil" 0) ReflectliteValue.isNil #[.agg #[.pointer (some ⟨1, 130, none⟩), .pointer (some a), .int .u64 150]]).run prog W = .ok (.bool false) W := by
 rw[jL2]
 simp only[Sem.run_bind,uQ0,Result.andThen]
 simp[ReflectliteValue.isNil,loadVar,isAgg,underlying,Tryz.underlying130,ha,Result.andThen]
theorem zB0 (h : Value) (w : World) : (Go.method 396 203 (.agg #[h]) "Elem").run prog w = .ok (309, .agg #[h]) w := by kernel_rfl
theorem oH0 (h : Value) (w : World) : (Go.method 396 203 (.agg #[h]) "Implements").run prog w = .ok (310, .agg #[h]) w := by kernel_rfl
theorem lT0 (h : Value) (w : World) : (Go.method 396 203 (.agg #[h]) "AssignableTo").run prog w = .ok (307, .agg #[h]) w := by kernel_rfl
theorem oD1 (w:World):(ReflectliteType.method ReflectliteType.elem #[.agg #[.pointer (some ⟨1,130,none⟩)]]).run prog w = .ok (.iface 203 (.agg #[.pointer (some ⟨1,128,none⟩)])) w:=by kernel_rfl
theorem sE0 (w : World) : (ReflectliteType.relation "Implements" ReflectliteType.implements_ #[.agg #[.pointer (some ⟨1, 128, none⟩)], .iface 203 (.agg #[.pointer (some ⟨1, 85, none⟩)])]).run prog w = .ok (.bool true) w := by kernel_rfl
theorem cV1 (v:Value)(w:World):(ReflectliteType.typeOf #[.iface 128 v]).run prog w = .ok (.iface 203 (.agg #[.pointer (some ⟨1,128,none⟩)])) w:=by kernel_rfl
theorem sD0 (w : World) : (ReflectliteType.relation "AssignableTo" ReflectliteType.assignableTo #[.agg #[.pointer (some ⟨1, 128, none⟩)], .iface 203 (.agg #[.pointer (some ⟨1, 128, none⟩)])]).run prog w = .ok (.bool true) w := by kernel_rfl
theorem zD0 (c s:Value)(w:World):(ReflectliteValue.unpack (.iface 128 (.agg #[c,s]))).run prog w
  = .ok (.agg #[.pointer (some ⟨1,128,none⟩),.pointer (some ⟨w.heap.size,0,none⟩),.int .u64 153]) (w.alloc (.cells #[c,s] 128)):=by kernel_rfl
theorem cT1 (w:World):(Rtype.elem? 130).run prog w = .ok (some 128) w:=by kernel_rfl
theorem bQ2 (p:Addr)(w:World):(ReflectliteValue.mk 128 p ReflectliteValue.flagAddr).run prog w = .ok (.agg #[.pointer (some ⟨1,128,none⟩),.pointer (some p),.int .u64 409]) w:=by kernel_rfl
theorem hO1 (a p:Addr)(W:World)(ha:W.cell? a=some (.pointer (some p))) :
  (ReflectliteValue.method (ReflectliteValue.valueError "reflectlite.Value.Elem" 0) ReflectliteValue.elem #[.agg #[.pointer (some ⟨1, 130, none⟩), .pointer (some a), .int .u64 150]]).run prog W
   = .ok (.agg #[.pointer (some ⟨1,128,none⟩),.pointer (some p),.int .u64 409]) W:=by
 rw[jL2]
 simp only[Sem.run_bind,uQ0,Result.andThen]
 simp[ReflectliteValue.elem,loadVar,isAgg,underlying,Tryz.underlying130,ha,Result.andThen,cT1,bQ2]
theorem as_rls (v x:Value):ReflectliteValue.set #[v,x]=(do
  let (some (dst,a,fl),some (src,b,_)):=(← ReflectliteValue.parts v,← ReflectliteValue.parts x)
   | unsupported (.noEntry "extern/(internal/reflectlite.Value).Set.zeroValue")
  if fl / ReflectliteValue.flagAddr % 2 == 0 then unsupported (.noEntry "extern/(internal/reflectlite.Value).Set.unaddressable")
  let val ← loadVar src b
  if ← Rtype.directlyAssignable dst src then storeVar dst a val
  else if ← Rtype.implements dst src then
   if(← Rtype.kind src)==20 then
    match val with
    | .nilIface => unsupported (.noEntry "extern/reflectlite: a nil value of one interface type handed on as a value of another")
    | _=>storeVar dst a val
   else storeVar dst a (.iface src val)
  else panicString ("reflectlite.Set: value of type " ++ (← Rtype.spelt src) ++ " is not assignable to type " ++ (← Rtype.spelt dst))
  pure (.tuple #[])):=rfl
theorem cU1 (a:Addr)(w:World):(ReflectliteValue.parts (.agg #[.pointer (some ⟨1,128,none⟩),.pointer (some a),.int .u64 409])).run prog w = .ok (some (128,a,409)) w:=by kernel_rfl
theorem hQ1 (a:Addr)(w:World):(ReflectliteValue.parts (.agg #[.pointer (some ⟨1,128,none⟩),.pointer (some a),.int .u64 153])).run prog w = .ok (some (128,a,153)) w:=by kernel_rfl
theorem cS1 (w:World):(Rtype.directlyAssignable 128 128).run prog w = .ok true w:=by kernel_rfl
theorem oG1 (w:World):(sizeOf 128).run prog w = .ok 2 w:=by kernel_rfl
end
section
open Go Go.RowKit Go.Extern.Stop Go.Stop Go.Extern
theorem rR1 (t b:Nat)(c s c0 s0:Value)(hc:cellB c=true)(hs:cellB s=true)(W:World)(hb:W.heap[b]? = some (.cells #[c,s] 128 (0,0)))(ht:W.heap[t]? = some (.cells #[c0,s0] 128 (0,0))) :
  (ReflectliteValue.set #[.agg #[.pointer (some ⟨1,128,none⟩),.pointer (some ⟨t,0,none⟩),.int .u64 409],.agg #[.pointer (some ⟨1,128,none⟩),.pointer (some ⟨b,0,none⟩),.int .u64 153]]).run prog W
   = .ok (.tuple #[]) (W.setRow t #[c,s]):=by
 have ha:(isAgg 128).run prog W = .ok true W:=kH0 (by kernel_rfl) W
 have hz:(sizeOf 128).run prog W = .ok 2 W:=oG1 W
 have hl:(loadCells ⟨b,0,none⟩ 2).run prog W = .ok #[c,s] W:=lN0 (vals:=[c,s]) (At.of_block hb)
 have hv:(loadVar 128 ⟨b,0,none⟩).run prog W = .ok (.agg #[c,s]) W:=by simp[loadVar,ha,hz,hl,Sem.run_bind,Result.andThen]
 have hst:(storeVar 128 ⟨t,0,none⟩ (.agg #[c,s])).run prog W = .ok () (W.setRow t #[c,s]):=
  iU0 (n:=2) (by kernel_rfl) rfl ht (by simp) (by
    intro y hy;have:y=c∨y=s:=by simpa [Value.cells] using hy
    rcases this with rfl | rfl;exact hc;exact hs)
 rw[as_rls]
 simp only[Sem.run_bind,cU1,hQ1,Result.andThen]
 simp[ReflectliteValue.flagAddr,hv,Result.andThen,cS1,hst]
theorem kZ0 (w:World)(o:Obj)(i:Nat):(w.alloc o).heap[i]? = if i=w.heap.size then some o else w.heap[i]? := by
 show(w.heap.push o)[i]? = _
 rw[Array.getElem?_push]
def asW (t:Nat)(c s:Value)(w:World):World:=
 (((((w.alloc (.cells #[.pointer (some ⟨t,0,none⟩)] 130)).alloc (.cells #[.pointer (some ⟨1,130,none⟩),.pointer (some ⟨w.heap.size,0,none⟩),.int .u64 150] 168)).alloc (.cells #[.pointer (some ⟨1,130,none⟩),.pointer (some ⟨w.heap.size,0,none⟩),.int .u64 150] 168)).alloc (.cells #[c,s] 128))).setRow t #[c,s]
set_option maxHeartbeats 4000000 in
theorem as_hit (t:Nat)(c s c0 s0:Value)(hc:cellB c=true)(hs:cellB s=true)(w:World)(hg:w.cell? ⟨0,0,none⟩=some (.iface 203 (.agg #[.pointer (some ⟨1,85,none⟩)])))(ht0:w.heap[t]? = some (.cells #[c0,s0] 128 (0,0))) :
  Calls prog 100 #[.iface 128 (.agg #[c,s]),.iface 130 (.pointer (some ⟨t,0,none⟩))] w fun ev w'=>ev = .returned (.bool true)∧w'=asW t c s w:=by
 have h6:= @run_callFunc_extern prog 152 _ (fun args=>ReflectliteValue.unpack (args.getD 0 (.tuple #[]))) func152 (by kernel_rfl) (by kernel_rfl) (by kernel_rfl) (by kernel_rfl)
 have h7 := @run_callFunc_extern prog 153 _ (ReflectliteValue.methodAny (ReflectliteValue.valueError "reflectlite.Value.Type" 0) (fun t _ _ _ => ReflectliteType.toType t)) func153 (by kernel_rfl) (by kernel_rfl) (by kernel_rfl) (by kernel_rfl)
 have h8 := @run_callFunc_extern prog 154 _ (ReflectliteValue.method (ReflectliteValue.valueError "reflectlite.Value.IsNil" 0) ReflectliteValue.isNil) func154 (by kernel_rfl) (by kernel_rfl) (by kernel_rfl) (by kernel_rfl)
 have h27:= @run_callFunc_extern prog 299 _ (ReflectliteType.abiMethod fun t=>do pure (.int .u8 (← Rtype.kind t))) func299 (by kernel_rfl) (by kernel_rfl) (by kernel_rfl) (by kernel_rfl)
 have h37:= @run_callFunc_extern prog 309 _ (ReflectliteType.method ReflectliteType.elem) func309 (by kernel_rfl) (by kernel_rfl) (by kernel_rfl) (by kernel_rfl)
 have h38 := @run_callFunc_extern prog 310 _ (ReflectliteType.relation "Implements" ReflectliteType.implements_) func310 (by kernel_rfl) (by kernel_rfl) (by kernel_rfl) (by kernel_rfl)
 have h10:= @run_callFunc_extern prog 210 _ ReflectliteType.typeOf func210 (by kernel_rfl) (by kernel_rfl) (by kernel_rfl) (by kernel_rfl)
 have h35 := @run_callFunc_extern prog 307 _ (ReflectliteType.relation "AssignableTo" ReflectliteType.assignableTo) func307 (by kernel_rfl) (by kernel_rfl) (by kernel_rfl) (by kernel_rfl)
 have h11 := @run_callFunc_extern prog 211 _ (ReflectliteValue.method (ReflectliteValue.valueError "reflectlite.Value.Elem" 0) ReflectliteValue.elem) func211 (by kernel_rfl) (by kernel_rfl) (by kernel_rfl) (by kernel_rfl)
 have h12:= @run_callFunc_extern prog 212 _ ReflectliteValue.set func212 (by kernel_rfl) (by kernel_rfl) (by kernel_rfl) (by kernel_rfl)
 have tO:=cV1
 have mA:=lT0
 have a25:=sD0
 have v25:=zD0
 have f6:=zE0
 have f7:=oH1
 have mK:=zC0
 have mE:=zB0
 have mI:=oH0
 have k27:=oF1
 have k25:=oE1
 have e27:=oD1
 have i25:=sE0
 have n8:=hP1 ⟨w.heap.size,0,none⟩ ⟨t,0,none⟩ ((w.alloc (.cells #[.pointer (some ⟨t,0,none⟩)] 130)).alloc (.cells #[.pointer (some ⟨1,130,none⟩),.pointer (some ⟨w.heap.size,0,none⟩),.int .u64 150] 168)) (by simp)
 have hlt:0<w.heap.size:=by
  rcases Nat.eq_zero_or_pos w.heap.size with h0 | h
  ·simp[World.cell?,h0]at hg
  ·exact h
 have hg2:((w.alloc (.cells #[.pointer (some ⟨t,0,none⟩)] 130)).alloc (.cells #[.pointer (some ⟨1,130,none⟩),.pointer (some ⟨w.heap.size,0,none⟩),.int .u64 150] 168)).cell? ⟨0,0,none⟩=some (.iface 203 (.agg #[.pointer (some ⟨1,85,none⟩)])):=by
  rw[World.cell?_alloc_lt _ _ ⟨0,0,none⟩ (by simp),World.cell?_alloc_lt _ _ ⟨0,0,none⟩ hlt];exact hg
 have htl:t<w.heap.size:=by
  rcases Nat.lt_or_ge t w.heap.size with h | h
  ·exact h
  ·simp[Array.getElem?_eq_none h]at ht0
 have el:=hO1 ⟨w.heap.size,0,none⟩ ⟨t,0,none⟩ (((w.alloc (.cells #[.pointer (some ⟨t,0,none⟩)] 130)).alloc (.cells #[.pointer (some ⟨1,130,none⟩),.pointer (some ⟨w.heap.size,0,none⟩),.int .u64 150] 168)).alloc (.cells #[.pointer (some ⟨1,130,none⟩),.pointer (some ⟨w.heap.size,0,none⟩),.int .u64 150] 168)) (by rw[World.cell?_alloc_lt _ _ ⟨w.heap.size,0,none⟩ (by simp;omega)];simp)
 have st:=rR1 t (w.heap.size+1+1+1) c s c0 s0 hc hs ((((w.alloc (.cells #[.pointer (some ⟨t,0,none⟩)] 130)).alloc (.cells #[.pointer (some ⟨1,130,none⟩),.pointer (some ⟨w.heap.size,0,none⟩),.int .u64 150] 168)).alloc (.cells #[.pointer (some ⟨1,130,none⟩),.pointer (some ⟨w.heap.size,0,none⟩),.int .u64 150] 168)).alloc (.cells #[c,s] 128))
  (by rw[kZ0,if_pos (by simp)]) (by rw[kZ0,if_neg (by simp;omega),kZ0,if_neg (by simp;omega),kZ0,if_neg (by simp;omega),kZ0,if_neg (by omega)];exact ht0)
 go_enter func100,Tryz.ntmps100
 go_wp2
 refine wp_loop_rounds 1 ?_
 rw[rounds_succ]
 go_wp2
 go_ret
 exact⟨rfl,rfl⟩
end
section
open Go Go.RowKit Go.Extern.Stop Go.Stop Go.Extern
set_option maxHeartbeats 4000000 in
theorem uN1 (w:World):Calls prog 59 #[.nilIface] w fun ev w'=>ev = .returned (.agg #[.int .i64 0,.slice none 0 0])∧w'=(w.alloc (.cells #[.int .i64 0,.slice none 0 0] 45)).alloc (.cells #[.int .i64 0,.slice none 0 0] 128):=by
 go_enter func59,Tryz.ntmps59
 go_wp2_with (go_at_call 100;refine(as_nil _ _).mono ?_;rintro e w' ⟨rfl,rfl⟩)
 (try simp only[Exit.inBlock,Exit.then])
 refine bodyPost_ret (results_cell_row rfl _ _ w.heap.size 45 #[.int .i64 0,.slice none 0 0] (0,0) _ rfl ?_ Tryz.underlying45 rfl (by kernel_rfl)) rfl ?_
 ·rw[kZ0,if_neg (by simp),kZ0,if_pos rfl]
 ·exact⟨rfl,rfl⟩
structure Kept (w w':World):Prop where
 os:w'.os=w.os
 tape:w'.tape=w.tape
 output:w'.output=w.output
 size:w.heap.size≤w'.heap.size
 old:∀ b,b<w.heap.size→w'.heap[b]? = w.heap[b]?
theorem Kept.trans {w w' w'':World} (h:Kept w w')(k:Kept w' w''):Kept w w'':=
 ⟨k.os.trans h.os,k.tape.trans h.tape,k.output.trans h.output,Nat.le_trans h.size k.size,fun b hb=>(k.old b (Nat.lt_of_lt_of_le hb h.size)).trans (h.old b hb)⟩
theorem nI0 (w:World)(o:Obj):Kept w (w.alloc o):=⟨rfl,rfl,rfl,by simp,fun b hb=>by rw[kZ0,if_neg (Nat.ne_of_lt hb)]⟩
theorem kS1 (t:Nat)(c s:Value)(w:World)(b:Nat)(hb:b<w.heap.size)(hbt:b≠t):(asW t c s w).heap[b]? = w.heap[b]? := by
 unfold asW
 rw[hK0 _ _ _ _ hbt,kZ0,if_neg (by simp;omega),kZ0,if_neg (by simp;omega),kZ0,if_neg (by simp;omega),kZ0,if_neg (by omega)]
theorem asW_at {t:Nat}{c s c0 s0:Value}{w:World} (ht0:w.heap[t]? = some (.cells #[c0,s0] 128 (0,0))):(asW t c s w).heap[t]? = some (.cells #[c,s] 128 (0,0)):=by
 have htl:t<w.heap.size:=by
  rcases Nat.lt_or_ge t w.heap.size with h | h
  ·exact h
  ·simp[Array.getElem?_eq_none h]at ht0
 have:((((w.alloc (.cells #[.pointer (some ⟨t,0,none⟩)] 130)).alloc (.cells #[.pointer (some ⟨1,130,none⟩),.pointer (some ⟨w.heap.size,0,none⟩),.int .u64 150] 168)).alloc (.cells #[.pointer (some ⟨1,130,none⟩),.pointer (some ⟨w.heap.size,0,none⟩),.int .u64 150] 168)).alloc (.cells #[c,s] 128)).heap[t]? = some (.cells #[c0,s0] 128 (0,0)):=by
  rw[kZ0,if_neg (by simp;omega),kZ0,if_neg (by simp;omega),kZ0,if_neg (by simp;omega),kZ0,if_neg (by omega)];exact ht0
 unfold asW World.setRow
 rw[Array.getElem?_modify,if_pos rfl,this]
 rfl
set_option maxHeartbeats 4000000 in
theorem dR1 (c:Int)(A:Option Addr)(n cp:Nat)(w:World)(hg:w.cell? ⟨0,0,none⟩=some (.iface 203 (.agg #[.pointer (some ⟨1,85,none⟩)]))) :
  Calls prog 59 #[.iface 128 (.agg #[.int .i64 c,.slice A n cp])] w fun ev w'=>ev = .returned (.agg #[.int .i64 c,.slice A n cp])∧Kept w w':=by
 have hlt:0<w.heap.size:=by
  rcases Nat.eq_zero_or_pos w.heap.size with h0 | h
  ·simp[World.cell?,h0]at hg
  ·exact h
 have hgA:((w.alloc (.cells #[.int .i64 0,.slice none 0 0] 45)).alloc (.cells #[.int .i64 0,.slice none 0 0] 128)).cell? ⟨0,0,none⟩=some (.iface 203 (.agg #[.pointer (some ⟨1,85,none⟩)])):=by
  rw[World.cell?_alloc_lt _ _ ⟨0,0,none⟩ (by simp),World.cell?_alloc_lt _ _ ⟨0,0,none⟩ hlt];exact hg
 have htA:((w.alloc (.cells #[.int .i64 0,.slice none 0 0] 45)).alloc (.cells #[.int .i64 0,.slice none 0 0] 128)).heap[w.heap.size+1]? = some (.cells #[.int .i64 0,.slice none 0 0] 128 (0,0)):=by
  rw[kZ0,if_pos (by simp)]
 have h45:((w.alloc (.cells #[.int .i64 0,.slice none 0 0] 45)).alloc (.cells #[.int .i64 0,.slice none 0 0] 128)).heap[w.heap.size]? = some (.cells #[.int .i64 0,.slice none 0 0] 45 (0,0)):=by
  rw[kZ0,if_neg (by simp),kZ0,if_pos rfl]
 have k0:Kept w ((w.alloc (.cells #[.int .i64 0,.slice none 0 0] 45)).alloc (.cells #[.int .i64 0,.slice none 0 0] 128)):=(nI0 _ _).trans (nI0 _ _)
 have q1:(asW (w.heap.size+1) (.int .i64 c) (.slice A n cp) ((w.alloc (.cells #[.int .i64 0,.slice none 0 0] 45)).alloc (.cells #[.int .i64 0,.slice none 0 0] 128))).heap[w.heap.size+1]? = some (.cells #[.int .i64 c,.slice A n cp] 128 (0,0)):=asW_at htA
 have q2:(asW (w.heap.size+1) (.int .i64 c) (.slice A n cp) ((w.alloc (.cells #[.int .i64 0,.slice none 0 0] 45)).alloc (.cells #[.int .i64 0,.slice none 0 0] 128))).heap[w.heap.size]? = some (.cells #[.int .i64 0,.slice none 0 0] 45 (0,0)):=by rw[kS1 _ _ _ _ _ (by simp;omega) (by simp)];exact h45
 have q3:∀ b,b<w.heap.size→(asW (w.heap.size+1) (.int .i64 c) (.slice A n cp) ((w.alloc (.cells #[.int .i64 0,.slice none 0 0] 45)).alloc (.cells #[.int .i64 0,.slice none 0 0] 128))).heap[b]? = w.heap[b]? := fun b hb=>by
  rw[kS1 _ _ _ _ _ (by simp;omega) (by omega)];exact k0.old b hb
 have q4:w.heap.size≤(asW (w.heap.size+1) (.int .i64 c) (.slice A n cp) ((w.alloc (.cells #[.int .i64 0,.slice none 0 0] 45)).alloc (.cells #[.int .i64 0,.slice none 0 0] 128))).heap.size:=by
  unfold asW;rw[iV0];simp;omega
 have hit:=as_hit (w.heap.size+1) (.int .i64 c) (.slice A n cp) (.int .i64 0) (.slice none 0 0) rfl rfl ((w.alloc (.cells #[.int .i64 0,.slice none 0 0] 45)).alloc (.cells #[.int .i64 0,.slice none 0 0] 128)) hgA htA
 have o1:(asW (w.heap.size+1) (.int .i64 c) (.slice A n cp) ((w.alloc (.cells #[.int .i64 0,.slice none 0 0] 45)).alloc (.cells #[.int .i64 0,.slice none 0 0] 128))).os=w.os:=rfl
 have o2:(asW (w.heap.size+1) (.int .i64 c) (.slice A n cp) ((w.alloc (.cells #[.int .i64 0,.slice none 0 0] 45)).alloc (.cells #[.int .i64 0,.slice none 0 0] 128))).tape=w.tape:=rfl
 have o3:(asW (w.heap.size+1) (.int .i64 c) (.slice A n cp) ((w.alloc (.cells #[.int .i64 0,.slice none 0 0] 45)).alloc (.cells #[.int .i64 0,.slice none 0 0] 128))).output=w.output:=rfl
 generalize asW (w.heap.size+1) (.int .i64 c) (.slice A n cp) ((w.alloc (.cells #[.int .i64 0,.slice none 0 0] 45)).alloc (.cells #[.int .i64 0,.slice none 0 0] 128))=W at hit q1 q2 q3 q4 o1 o2 o3
 have c0:W.cell? ⟨w.heap.size+1,0,none⟩=some (.int .i64 c):=by simp[World.cell?,q1]
 have c1:W.cell? ⟨w.heap.size+1,1,none⟩=some (.slice A n cp):=by simp[World.cell?,q1]
 have d0:W.cell? ⟨w.heap.size,0,none⟩=some (.int .i64 0):=by simp[World.cell?,q2]
 have d1:W.cell? ⟨w.heap.size,1,none⟩=some (.slice none 0 0):=by simp[World.cell?,q2]
 have e0:W.frozen? ⟨w.heap.size,0,none⟩=false:=by simp[World.frozen?,q2]
 have e1:W.frozen? ⟨w.heap.size,1,none⟩=false:=by simp[World.frozen?,q2]
 go_enter func59,Tryz.ntmps59
 go_wp2_with (go_at_call 100;refine hit.mono ?_;rintro e w' ⟨rfl,rfl⟩)
 refine bodyPost_ret (results_cell_row rfl _ _ w.heap.size 45 #[.int .i64 c,.slice A n cp] (0,0) _ rfl ?_ Tryz.underlying45 rfl (by kernel_rfl)) rfl ⟨rfl,o1,o2,o3,?_,fun b hb=> ?_⟩
 ·simp[World.setCell,Array.getElem?_modify,q2]
 ·simp only[World.setCell,Array.size_modify];exact q4
 ·simp only[World.setCell,Array.getElem?_modify]
  rw[if_neg (by omega),if_neg (by omega)]
  exact q3 b hb
def g59 (args:List V)(objs:List O):Option Out:=
 match args,objs with
 | [.c (.d (.v .nilIface))],[]=>some (.ret [.agg [.d (.v (.int .i64 0)),.d (.v (.slice none 0 0))]] [])
 | [.c (.d (.v (.iface 128 (.agg ⟨[.int .i64 c,.slice none 0 0]⟩))))],[]=>some (.ret [.agg [.d (.v (.int .i64 c)),.d (.v (.slice none 0 0))]] [])
 | [.c (.d (.i 128 [.v (.int .i64 c),.s 1 els]))],[]=>some (.ret [.agg [.d (.v (.int .i64 c)),.d (.s 1 els)]] [])
 | _,_=>none
theorem cB2 : hT0 prog 59:=⟨f59,func59,by kernel_rfl⟩
theorem jA1 {w w':World}{F:Nat→Prop}{β:Int→Nat} (hS:Sim w F β (lk []))(hk:Kept w w'):Sim w' F β (lk [])∧St (fun _=>True) w β (lk []) w' β (lk []):=
 qX0 hS hk.os hk.tape hk.output hk.size hk.old
theorem lA2 {w:World}{N:Nat→Prop}{v x:Value} (h:RepD w N v (.v x)):v=x:=by cases h;rfl
theorem iface2 {w:World}{N:Nat→Prop}{β:Int→Nat}{sh:Nat→Option Sh}{v:Value}{c:Int}{x:D} (h:RV w N β sh v (.c (.d (.i 128 [.v (.int .i64 c),x])))):∃ s,v = .iface 128 (.agg #[.int .i64 c,s])∧RepD w N s x∧True:=by
 cases h with
 | @i _ a xs hn hr=>
  have h2:a.size=2:=hn
  have h0:=hr 0 a[0] _ (by simp[h2]) rfl
  have h1:=hr 1 a[1] _ (by simp[h2]) rfl
  have e0:a[0] = .int .i64 c:=lA2 h0
  refine⟨a[1],?_,h1,trivial⟩
  congr 2
  apply Array.ext
  ·simp[h2]
  ·intro i hi hi'
   have:i=0∨i=1:=by omega
   rcases this with rfl | rfl
   ·simpa using e0
   ·rfl
theorem call59 {args:List V}{objs:List O}{out:Out} (h:g59 args objs=some out):dZ0 prog 59 args objs out:=by
 unfold g59 at h
 split at h
 ·cases h
  intro w F β vals hS hargs
  cases hargs with
  | cons h1 h2=>
   cases h2
   obtain⟨rfl,_⟩:=rv_v h1
   refine(uN1 w).mono fun e w' ⟨he,hw⟩=> ?_
   obtain⟨g1,g2⟩:=jA1 hS (by rw[hw];exact(nI0 _ _).trans (nI0 _ _):Kept w w')
   exact⟨β,_,he,.inl ⟨_,rfl,_,rfl,.cons ⟨rfl,.v rfl⟩ (.cons ⟨rfl,.v rfl⟩ .nil)⟩,g1,g2.some⟩
 ·rename_i c
  cases h
  intro w F β vals hS hargs
  cases hargs with
  | cons h1 h2=>
   cases h2
   obtain⟨rfl,_⟩:=rv_v h1
   refine(dR1 c none 0 0 w hS.laid.1).mono fun e w' ⟨he,hw⟩=> ?_
   obtain⟨g1,g2⟩:=jA1 hS hw
   exact⟨β,_,he,.inl ⟨_,rfl,_,rfl,.cons ⟨rfl,.v rfl⟩ (.cons ⟨rfl,.v rfl⟩ .nil)⟩,g1,g2.some⟩
 ·rename_i c els
  cases h
  intro w F β vals hS hargs
  cases hargs with
  | cons h1 h2=>
   cases h2
   obtain⟨s,rfl,hs,e⟩:=iface2 h1
   have:∃ A n cp,s = .slice A n cp:=by cases hs <;> exact⟨_,_,_,rfl⟩
   obtain⟨A,n,cp,rfl⟩:=this
   refine(dR1 c A n cp w hS.laid.1).mono fun e w' ⟨he,hw⟩=> ?_
   obtain⟨g1,g2⟩:=jA1 hS hw
   exact⟨β,_,he,.inl ⟨_,rfl,_,rfl,.cons ⟨rfl,.v rfl⟩ (.cons ⟨rfl,RepD.mono g2.keep hs⟩ .nil)⟩,g1,g2.some⟩
 ·cases h
end
end Go.Proofs.YteenjodhmppgjaaGreatDoor.Am
