/- Part 5 of the proof of the card of EraseFuels, second form: no statement of its own; no conditions. -/
import Derived.Test.YtmjacokkgfophaaDoorPa4
import Derived.WalkKit
import Derived.Recover
set_option linter.unusedSimpArgs false
set_option linter.unusedVariables false
set_option linter.defProp false
section
/- head: the other cases. -/
namespace Go.Proofs.YtmjacokkgfophaaDoor.Am
open Go
variable (ext : Ext)
set_option maxHeartbeats 8000000
set_option maxRecDepth 10000
variable (nd cd : D) (F u r : Int)
theorem appP15 (u1 r1 k : Int) (c a : Cd) (hl0 : (0 : Int) < c.l.length) (ha : c.l[(0 : Int).toNat]? = some a) (ho : c.op = 3) (h25 : run Tryd.prog ext (.call 25 [cdV c, iV 0] []) = some (.ret [iV k] [])) (v : Value) (h24 : run Tryd.prog ext (.call 24 [.c (.ptr 0 0), cdV a, iV k] [M15 nd cd F u r]) = some (.pan v [M15 nd cd F u1 r1])) : H15 ext nd cd F u r c = some (.pan v [M15 nd cd F u1 r1]) := by
  unfold H15
  rw [show (It.code L15) = It.code (sub B15 [1, 0, 0]) from rfl]
  have z0 : (0 : Int) ≤ 0 := Int.le_refl _
  have z1 : (0 : Int) ≤ 1 := by decide
  simp only [M15, cdV, cdC, iV, lD_of_lt z0 hl0, ho] at h25 h24
  simp only [E15, M15, cdV, cdC, iV, zrow, List.map_cons, List.map_nil, lD_of_lt z0 hl0]
  simp only [B15, K15, sub, Option.getD_some, Tryd.f15, ↓reduceIte, Nat.one_ne_zero]
  simp (maxSteps := 3000000) only [zS, wantedA, opA, eff, boxA, cells, ev, gt, pt, putO, updO, setO, okC, loadA, cutC, fieldAddrA, fieldA, indexAddrA, indexA, builtinA, callOpA, callV, target, ptrV, lenS, binA, intOp, strOp, unA, num, lk, over, allocA, pickA, buildA, fillA, convertA, extractA, ofComp, nilCheckA, makeFuncA, ptrs, ofValue, cellB, Nat.reduceAdd, Nat.reduceSub, Nat.reduceMul, Nat.reduceLT, Nat.reduceLeDiff, Nat.reduceGT, ↓reduceIte, Nat.reduceEqDiff, Nat.reduceBEq, reduceCtorEq, Int.reduceBEq, Int.reduceBNe, Int.reduceLT, Int.reduceLE, Int.reduceGT, Int.reduceGE, aggT_25, sizeT_25, bytesT_25, fieldT_25_0, fieldT_25_1, fieldT_25_2, fieldT_25_3, placesT_25, zeroT_25, aggT_23, sizeT_23, bytesT_23, und_23, elemT_23, zero1_23, zeroT_23, aggT_3, sizeT_3, bytesT_3, und_3, zero1_3, zeroT_3, aggT_4, sizeT_4, bytesT_4, und_4, zero1_4, zeroT_4, drawA, holes_succ, holes_zero, Array.size, List.length, drawK_none, panK_some, panIx, drawP, befs, mask, ho, hl0, ha, z0, z1, mapd_enc, h25, callA_ptr, cpK_box, h24, callOut_pt, callOut_pp]
  (refine Eq.trans ?_ rfl; kernel_rfl)
theorem appBad15 (u1 r1 k : Int) (c a : Cd) (hl0 : (0 : Int) < c.l.length) (ha : c.l[(0 : Int).toNat]? = some a) (ho : c.op = 3) (h25 : run Tryd.prog ext (.call 25 [cdV c, iV 0] []) = some (.ret [iV k] [])) (f : Cd) (h24 : run Tryd.prog ext (.call 24 [.c (.ptr 0 0), cdV a, iV k] [M15 nd cd F u r]) = some (.ret [cdV f] [M15 nd cd F u1 r1])) (hf : ¬ f.op = 2) (hf7 : ¬ f.op = 7) : H15 ext nd cd F u r c = some (.pan (failedV 211) [M15 nd cd F u1 r1]) := by
  unfold H15
  rw [show (It.code L15) = It.code (sub B15 [1, 0, 0]) from rfl]
  have z0 : (0 : Int) ≤ 0 := Int.le_refl _
  have z1 : (0 : Int) ≤ 1 := by decide
  simp only [M15, cdV, cdC, iV, lD_of_lt z0 hl0, ho] at h25 h24
  simp only [E15, M15, cdV, cdC, iV, zrow, List.map_cons, List.map_nil, lD_of_lt z0 hl0]
  simp only [B15, K15, sub, Option.getD_some, Tryd.f15, ↓reduceIte, Nat.one_ne_zero]
  simp only [zS, wantedA, opA, eff, boxA, cells, ev, gt, pt, putO, updO, setO, okC, loadA, cutC, fieldAddrA, fieldA, indexAddrA, indexA, builtinA, callOpA, callV, target, ptrV, lenS, binA, intOp, strOp, unA, num, lk, over, allocA, pickA, buildA, fillA, convertA, extractA, ofComp, nilCheckA, makeFuncA, ptrs, ofValue, cellB, Nat.reduceAdd, Nat.reduceSub, Nat.reduceMul, Nat.reduceLT, Nat.reduceLeDiff, Nat.reduceGT, ↓reduceIte, Nat.reduceEqDiff, Nat.reduceBEq, reduceCtorEq, Int.reduceBEq, Int.reduceBNe, Int.reduceLT, Int.reduceLE, Int.reduceGT, Int.reduceGE, aggT_25, sizeT_25, bytesT_25, fieldT_25_0, fieldT_25_1, fieldT_25_2, fieldT_25_3, placesT_25, zeroT_25, aggT_23, sizeT_23, bytesT_23, und_23, elemT_23, zero1_23, zeroT_23, aggT_3, sizeT_3, bytesT_3, und_3, zero1_3, zeroT_3, aggT_4, sizeT_4, bytesT_4, und_4, zero1_4, zeroT_4, drawA, holes_succ, holes_zero, Array.size, List.length, ho, hl0, ha, z0, z1, mapd_enc, h25, callA_ptr, cpK_box, h24, callOut_pt]
  rw [afterDraw_some _ _ _ _ (by kernel_rfl)]
  simp only [zS, wantedA, opA, eff, boxA, cells, ev, gt, pt, putO, updO, setO, okC, loadA, cutC, fieldAddrA, fieldA, indexAddrA, indexA, builtinA, callOpA, callV, target, ptrV, lenS, binA, intOp, strOp, unA, num, lk, over, allocA, pickA, buildA, fillA, convertA, extractA, ofComp, nilCheckA, makeFuncA, ptrs, ofValue, cellB, Nat.reduceAdd, Nat.reduceSub, Nat.reduceMul, Nat.reduceLT, Nat.reduceLeDiff, Nat.reduceGT, ↓reduceIte, Nat.reduceEqDiff, Nat.reduceBEq, reduceCtorEq, Int.reduceBEq, Int.reduceBNe, Int.reduceLT, Int.reduceLE, Int.reduceGT, Int.reduceGE, aggT_25, sizeT_25, bytesT_25, fieldT_25_0, fieldT_25_1, fieldT_25_2, fieldT_25_3, placesT_25, zeroT_25, aggT_23, sizeT_23, bytesT_23, und_23, elemT_23, zero1_23, zeroT_23, aggT_3, sizeT_3, bytesT_3, und_3, zero1_3, zeroT_3, aggT_4, sizeT_4, bytesT_4, und_4, zero1_4, zeroT_4, aggT_53, sizeT_53, bytesT_53, fieldT_53_0, placesT_53, zeroT_53, ho, hf, hf7, mkI53, panicA_f]
  (refine Eq.trans ?_ rfl; kernel_rfl)
theorem appBox15 (u1 r1 k : Int) (c a : Cd) (hl0 : (0 : Int) < c.l.length) (ha : c.l[(0 : Int).toNat]? = some a) (ho : c.op = 3) (h25 : run Tryd.prog ext (.call 25 [cdV c, iV 0] []) = some (.ret [iV k] [])) (u2 r2 : Int) (h28 : ext 28 = none) (f : Cd) (out : Option Out) (h24 : run Tryd.prog ext (.call 24 [.c (.ptr 0 0), cdV a, iV k] [M15 nd cd F u r]) = some (.ret [cdV f] [M15 nd cd F u1 r1])) (hf : f.op = 7) (h26 : run Tryd.prog ext (.call 26 [.c (.ptr 0 0), cdV bx] [M15 nd cd F u1 r1]) = some (.ret [cdV bx] [M15 nd cd F u2 r2])) (h : H15 ext nd cd F u2 r2 bx = out) : H15 ext nd cd F u r c = out := by
  have hbx := box28 ext h28
  rw [cdV_box] at hbx
  rw [show cdV bx = _ from cdV_box] at h26
  unfold H15 at h ⊢
  rw [show (It.code L15) = It.code (sub B15 [1, 0, 0]) from rfl]
  have z0 : (0 : Int) ≤ 0 := Int.le_refl _
  have z1 : (0 : Int) ≤ 1 := by decide
  simp only [M15, cdV, cdC, iV, lD_of_lt z0 hl0, ho, hf] at h25 h24 h26
  simp only [E15, M15, cdV, cdC, iV, zrow, List.map_cons, List.map_nil, lD_of_lt z0 hl0]
  simp only [B15, K15, sub, Option.getD_some, Tryd.f15, ↓reduceIte, Nat.one_ne_zero]
  simp only [zS, wantedA, opA, eff, boxA, cells, ev, gt, pt, putO, updO, setO, okC, loadA, cutC, fieldAddrA, fieldA, indexAddrA, indexA, builtinA, callOpA, callV, target, ptrV, lenS, binA, intOp, strOp, unA, num, lk, over, allocA, pickA, buildA, fillA, convertA, extractA, ofComp, nilCheckA, makeFuncA, ptrs, ofValue, cellB, Nat.reduceAdd, Nat.reduceSub, Nat.reduceMul, Nat.reduceLT, Nat.reduceLeDiff, Nat.reduceGT, ↓reduceIte, Nat.reduceEqDiff, Nat.reduceBEq, reduceCtorEq, Int.reduceBEq, Int.reduceBNe, Int.reduceLT, Int.reduceLE, Int.reduceGT, Int.reduceGE, aggT_25, sizeT_25, bytesT_25, fieldT_25_0, fieldT_25_1, fieldT_25_2, fieldT_25_3, placesT_25, zeroT_25, aggT_23, sizeT_23, bytesT_23, und_23, elemT_23, zero1_23, zeroT_23, aggT_3, sizeT_3, bytesT_3, und_3, zero1_3, zeroT_3, aggT_4, sizeT_4, bytesT_4, und_4, zero1_4, zeroT_4, drawA, holes_succ, holes_zero, Array.size, List.length, ho, hl0, ha, z0, z1, mapd_enc, h25, callA_ptr, cpK_box, h24, callOut_pt]
  rw [afterDraw_some _ _ _ _ (by kernel_rfl)]
  simp only [zS, wantedA, opA, eff, boxA, cells, ev, gt, pt, putO, updO, setO, okC, loadA, cutC, fieldAddrA, fieldA, indexAddrA, indexA, builtinA, callOpA, callV, target, ptrV, lenS, binA, intOp, strOp, unA, num, lk, over, allocA, pickA, buildA, fillA, convertA, extractA, ofComp, nilCheckA, makeFuncA, ptrs, ofValue, cellB, Nat.reduceAdd, Nat.reduceSub, Nat.reduceMul, Nat.reduceLT, Nat.reduceLeDiff, Nat.reduceGT, ↓reduceIte, Nat.reduceEqDiff, Nat.reduceBEq, reduceCtorEq, Int.reduceBEq, Int.reduceBNe, Int.reduceLT, Int.reduceLE, Int.reduceGT, Int.reduceGE, aggT_25, sizeT_25, bytesT_25, fieldT_25_0, fieldT_25_1, fieldT_25_2, fieldT_25_3, placesT_25, zeroT_25, aggT_23, sizeT_23, bytesT_23, und_23, elemT_23, zero1_23, zeroT_23, aggT_3, sizeT_3, bytesT_3, und_3, zero1_3, zeroT_3, aggT_4, sizeT_4, bytesT_4, und_4, zero1_4, zeroT_4, ho, hf, callA_nil, hbx, callA_ptr, cpK_box, h26, callOut_pt]
  refine (r_inLoop_some ?_).trans h
  kernel_rfl
theorem appBoxP15 (u1 r1 k : Int) (c a : Cd) (hl0 : (0 : Int) < c.l.length) (ha : c.l[(0 : Int).toNat]? = some a) (ho : c.op = 3) (h25 : run Tryd.prog ext (.call 25 [cdV c, iV 0] []) = some (.ret [iV k] [])) (h28 : ext 28 = none) (f : Cd) (v : Value) (h24 : run Tryd.prog ext (.call 24 [.c (.ptr 0 0), cdV a, iV k] [M15 nd cd F u r]) = some (.ret [cdV f] [M15 nd cd F u1 r1])) (hf : f.op = 7) (h26 : run Tryd.prog ext (.call 26 [.c (.ptr 0 0), cdV bx] [M15 nd cd F u1 r1]) = some (.pan v [M15 nd cd F u1 r1])) : H15 ext nd cd F u r c = some (.pan v [M15 nd cd F u1 r1]) := by
  have hbx := box28 ext h28
  rw [cdV_box] at hbx
  rw [show cdV bx = _ from cdV_box] at h26
  unfold H15
  rw [show (It.code L15) = It.code (sub B15 [1, 0, 0]) from rfl]
  have z0 : (0 : Int) ≤ 0 := Int.le_refl _
  have z1 : (0 : Int) ≤ 1 := by decide
  simp only [M15, cdV, cdC, iV, lD_of_lt z0 hl0, ho, hf] at h25 h24 h26
  simp only [E15, M15, cdV, cdC, iV, zrow, List.map_cons, List.map_nil, lD_of_lt z0 hl0]
  simp only [B15, K15, sub, Option.getD_some, Tryd.f15, ↓reduceIte, Nat.one_ne_zero]
  simp only [zS, wantedA, opA, eff, boxA, cells, ev, gt, pt, putO, updO, setO, okC, loadA, cutC, fieldAddrA, fieldA, indexAddrA, indexA, builtinA, callOpA, callV, target, ptrV, lenS, binA, intOp, strOp, unA, num, lk, over, allocA, pickA, buildA, fillA, convertA, extractA, ofComp, nilCheckA, makeFuncA, ptrs, ofValue, cellB, Nat.reduceAdd, Nat.reduceSub, Nat.reduceMul, Nat.reduceLT, Nat.reduceLeDiff, Nat.reduceGT, ↓reduceIte, Nat.reduceEqDiff, Nat.reduceBEq, reduceCtorEq, Int.reduceBEq, Int.reduceBNe, Int.reduceLT, Int.reduceLE, Int.reduceGT, Int.reduceGE, aggT_25, sizeT_25, bytesT_25, fieldT_25_0, fieldT_25_1, fieldT_25_2, fieldT_25_3, placesT_25, zeroT_25, aggT_23, sizeT_23, bytesT_23, und_23, elemT_23, zero1_23, zeroT_23, aggT_3, sizeT_3, bytesT_3, und_3, zero1_3, zeroT_3, aggT_4, sizeT_4, bytesT_4, und_4, zero1_4, zeroT_4, drawA, holes_succ, holes_zero, Array.size, List.length, ho, hl0, ha, z0, z1, mapd_enc, h25, callA_ptr, cpK_box, h24, callOut_pt]
  rw [afterDraw_some _ _ _ _ (by kernel_rfl)]
  simp only [zS, wantedA, opA, eff, boxA, cells, ev, gt, pt, putO, updO, setO, okC, loadA, cutC, fieldAddrA, fieldA, indexAddrA, indexA, builtinA, callOpA, callV, target, ptrV, lenS, binA, intOp, strOp, unA, num, lk, over, allocA, pickA, buildA, fillA, convertA, extractA, ofComp, nilCheckA, makeFuncA, ptrs, ofValue, cellB, Nat.reduceAdd, Nat.reduceSub, Nat.reduceMul, Nat.reduceLT, Nat.reduceLeDiff, Nat.reduceGT, ↓reduceIte, Nat.reduceEqDiff, Nat.reduceBEq, reduceCtorEq, Int.reduceBEq, Int.reduceBNe, Int.reduceLT, Int.reduceLE, Int.reduceGT, Int.reduceGE, aggT_25, sizeT_25, bytesT_25, fieldT_25_0, fieldT_25_1, fieldT_25_2, fieldT_25_3, placesT_25, zeroT_25, aggT_23, sizeT_23, bytesT_23, und_23, elemT_23, zero1_23, zeroT_23, aggT_3, sizeT_3, bytesT_3, und_3, zero1_3, zeroT_3, aggT_4, sizeT_4, bytesT_4, und_4, zero1_4, zeroT_4, ho, hf, callA_nil, hbx, callA_ptr, cpK_box, h26, callOut_pp]
  (refine Eq.trans ?_ rfl; kernel_rfl)
theorem appLamP15 (u1 r1 k : Int) (c a b f g t : Cd) (v : Value) (ho : c.op = 3) (hl0 : (0 : Int) < c.l.length) (hl1 : (1 : Int) < c.l.length) (ha : c.l[(0 : Int).toNat]? = some a) (hb : c.l[(1 : Int).toNat]? = some b) (h25 : run Tryd.prog ext (.call 25 [cdV c, iV 0] []) = some (.ret [iV k] [])) (h24 : run Tryd.prog ext (.call 24 [.c (.ptr 0 0), cdV a, iV k] [M15 nd cd F u r]) = some (.ret [cdV f] [M15 nd cd F u1 r1])) (hf : f.op = 2) (hfl : (0 : Int) < f.l.length) (hg : f.l[(0 : Int).toNat]? = some g) (h27 : run Tryd.prog ext (.call 27 [cdV g, cdV b, iV 0] []) = some (.ret [cdV t] [])) (h26 : run Tryd.prog ext (.call 26 [.c (.ptr 0 0), cdV t] [M15 nd cd F u1 r1]) = some (.pan v [M15 nd cd F u1 r1])) : H15 ext nd cd F u r c = some (.pan v [M15 nd cd F u1 r1]) := by
  unfold H15
  rw [show (It.code L15) = It.code (sub B15 [1, 0, 0]) from rfl]
  have z0 : (0 : Int) ≤ 0 := Int.le_refl _
  have z1 : (0 : Int) ≤ 1 := by decide
  simp only [M15, cdV, cdC, iV, lD_of_lt z0 hl0, lD_of_lt z0 hfl, ho, hf] at h25 h24 h27 h26
  simp only [E15, M15, cdV, cdC, iV, zrow, List.map_cons, List.map_nil, lD_of_lt z0 hl0]
  simp only [B15, K15, sub, Option.getD_some, Tryd.f15, ↓reduceIte, Nat.one_ne_zero]
  simp only [zS, wantedA, opA, eff, boxA, cells, ev, gt, pt, putO, updO, setO, okC, loadA, cutC, fieldAddrA, fieldA, indexAddrA, indexA, builtinA, callOpA, callV, target, ptrV, lenS, binA, intOp, strOp, unA, num, lk, over, allocA, pickA, buildA, fillA, convertA, extractA, ofComp, nilCheckA, makeFuncA, ptrs, ofValue, cellB, Nat.reduceAdd, Nat.reduceSub, Nat.reduceMul, Nat.reduceLT, Nat.reduceLeDiff, Nat.reduceGT, ↓reduceIte, Nat.reduceEqDiff, Nat.reduceBEq, reduceCtorEq, Int.reduceBEq, Int.reduceBNe, Int.reduceLT, Int.reduceLE, Int.reduceGT, Int.reduceGE, aggT_25, sizeT_25, bytesT_25, fieldT_25_0, fieldT_25_1, fieldT_25_2, fieldT_25_3, placesT_25, zeroT_25, aggT_23, sizeT_23, bytesT_23, und_23, elemT_23, zero1_23, zeroT_23, aggT_3, sizeT_3, bytesT_3, und_3, zero1_3, zeroT_3, aggT_4, sizeT_4, bytesT_4, und_4, zero1_4, zeroT_4, drawA, holes_succ, holes_zero, Array.size, List.length, ho, hl1, hb, hl0, ha, z0, z1, mapd_enc, h25, callA_ptr, cpK_box, h24, callOut_pt]
  rw [afterDraw_some _ _ _ _ (by kernel_rfl)]
  simp (maxSteps := 3000000) only [zS, wantedA, opA, eff, boxA, cells, ev, gt, pt, putO, updO, setO, okC, loadA, cutC, fieldAddrA, fieldA, indexAddrA, indexA, builtinA, callOpA, callV, target, ptrV, lenS, binA, intOp, strOp, unA, num, lk, over, allocA, pickA, buildA, fillA, convertA, extractA, ofComp, nilCheckA, makeFuncA, ptrs, ofValue, cellB, Nat.reduceAdd, Nat.reduceSub, Nat.reduceMul, Nat.reduceLT, Nat.reduceLeDiff, Nat.reduceGT, ↓reduceIte, Nat.reduceEqDiff, Nat.reduceBEq, reduceCtorEq, Int.reduceBEq, Int.reduceBNe, Int.reduceLT, Int.reduceLE, Int.reduceGT, Int.reduceGE, aggT_25, sizeT_25, bytesT_25, fieldT_25_0, fieldT_25_1, fieldT_25_2, fieldT_25_3, placesT_25, zeroT_25, aggT_23, sizeT_23, bytesT_23, und_23, elemT_23, zero1_23, zeroT_23, aggT_3, sizeT_3, bytesT_3, und_3, zero1_3, zeroT_3, aggT_4, sizeT_4, bytesT_4, und_4, zero1_4, zeroT_4, drawA, holes_succ, holes_zero, Array.size, List.length, drawK_none, panK_some, panIx, drawP, befs, mask, ho, hf, hl0, hl1, ha, hb, hfl, hg, z0, z1, mapd_enc, h27, callA_ptr, cpK_box, h26, callOut_pp]
  (refine Eq.trans ?_ rfl; kernel_rfl)
theorem fstP15 (u1 r1 : Int) (c a : Cd) (hl0 : (0 : Int) < c.l.length) (ha : c.l[(0 : Int).toNat]? = some a) (ho : c.op = 5) (v : Value) (h24 : run Tryd.prog ext (.call 24 [.c (.ptr 0 0), cdV a, iV 1] [M15 nd cd F u r]) = some (.pan v [M15 nd cd F u1 r1])) : H15 ext nd cd F u r c = some (.pan v [M15 nd cd F u1 r1]) := by
  unfold H15
  rw [show (It.code L15) = It.code (sub B15 [1, 0, 0]) from rfl]
  have z0 : (0 : Int) ≤ 0 := Int.le_refl _
  have z1 : (0 : Int) ≤ 1 := by decide
  simp only [M15, cdV, cdC, iV, lD_of_lt z0 hl0, ho] at h24
  simp only [E15, M15, cdV, cdC, iV, zrow, List.map_cons, List.map_nil, lD_of_lt z0 hl0]
  simp only [B15, K15, sub, Option.getD_some, Tryd.f15, ↓reduceIte, Nat.one_ne_zero]
  simp only [zS, wantedA, opA, eff, boxA, cells, ev, gt, pt, putO, updO, setO, okC, loadA, cutC, fieldAddrA, fieldA, indexAddrA, indexA, builtinA, callOpA, callV, target, ptrV, lenS, binA, intOp, strOp, unA, num, lk, over, allocA, pickA, buildA, fillA, convertA, extractA, ofComp, nilCheckA, makeFuncA, ptrs, ofValue, cellB, Nat.reduceAdd, Nat.reduceSub, Nat.reduceMul, Nat.reduceLT, Nat.reduceLeDiff, Nat.reduceGT, ↓reduceIte, Nat.reduceEqDiff, Nat.reduceBEq, reduceCtorEq, Int.reduceBEq, Int.reduceBNe, Int.reduceLT, Int.reduceLE, Int.reduceGT, Int.reduceGE, aggT_25, sizeT_25, bytesT_25, fieldT_25_0, fieldT_25_1, fieldT_25_2, fieldT_25_3, placesT_25, zeroT_25, aggT_23, sizeT_23, bytesT_23, und_23, elemT_23, zero1_23, zeroT_23, aggT_3, sizeT_3, bytesT_3, und_3, zero1_3, zeroT_3, aggT_4, sizeT_4, bytesT_4, und_4, zero1_4, zeroT_4, ho, hl0, ha, z0, z1, mapd_enc, callA_ptr, cpK_box, h24, callOut_pp]
  (refine Eq.trans ?_ rfl; kernel_rfl)
theorem fstBad15 (u1 r1 : Int) (c a : Cd) (hl0 : (0 : Int) < c.l.length) (ha : c.l[(0 : Int).toNat]? = some a) (ho : c.op = 5) (f : Cd) (h24 : run Tryd.prog ext (.call 24 [.c (.ptr 0 0), cdV a, iV 1] [M15 nd cd F u r]) = some (.ret [cdV f] [M15 nd cd F u1 r1])) (hf : ¬ f.op = 4) (hf7 : ¬ f.op = 7) : H15 ext nd cd F u r c = some (.pan (failedV 211) [M15 nd cd F u1 r1]) := by
  unfold H15
  rw [show (It.code L15) = It.code (sub B15 [1, 0, 0]) from rfl]
  have z0 : (0 : Int) ≤ 0 := Int.le_refl _
  have z1 : (0 : Int) ≤ 1 := by decide
  simp only [M15, cdV, cdC, iV, lD_of_lt z0 hl0, ho] at h24
  simp only [E15, M15, cdV, cdC, iV, zrow, List.map_cons, List.map_nil, lD_of_lt z0 hl0]
  simp only [B15, K15, sub, Option.getD_some, Tryd.f15, ↓reduceIte, Nat.one_ne_zero]
  simp only [zS, wantedA, opA, eff, boxA, cells, ev, gt, pt, putO, updO, setO, okC, loadA, cutC, fieldAddrA, fieldA, indexAddrA, indexA, builtinA, callOpA, callV, target, ptrV, lenS, binA, intOp, strOp, unA, num, lk, over, allocA, pickA, buildA, fillA, convertA, extractA, ofComp, nilCheckA, makeFuncA, ptrs, ofValue, cellB, Nat.reduceAdd, Nat.reduceSub, Nat.reduceMul, Nat.reduceLT, Nat.reduceLeDiff, Nat.reduceGT, ↓reduceIte, Nat.reduceEqDiff, Nat.reduceBEq, reduceCtorEq, Int.reduceBEq, Int.reduceBNe, Int.reduceLT, Int.reduceLE, Int.reduceGT, Int.reduceGE, aggT_25, sizeT_25, bytesT_25, fieldT_25_0, fieldT_25_1, fieldT_25_2, fieldT_25_3, placesT_25, zeroT_25, aggT_23, sizeT_23, bytesT_23, und_23, elemT_23, zero1_23, zeroT_23, aggT_3, sizeT_3, bytesT_3, und_3, zero1_3, zeroT_3, aggT_4, sizeT_4, bytesT_4, und_4, zero1_4, zeroT_4, aggT_53, sizeT_53, bytesT_53, fieldT_53_0, placesT_53, zeroT_53, ho, hl0, ha, z0, z1, mapd_enc, callA_ptr, cpK_box, h24, callOut_pt, hf, hf7, mkI53, panicA_f]
  (refine Eq.trans ?_ rfl; kernel_rfl)
theorem fstBox15 (u1 r1 : Int) (c a : Cd) (hl0 : (0 : Int) < c.l.length) (ha : c.l[(0 : Int).toNat]? = some a) (ho : c.op = 5) (u2 r2 : Int) (h28 : ext 28 = none) (f : Cd) (out : Option Out) (h24 : run Tryd.prog ext (.call 24 [.c (.ptr 0 0), cdV a, iV 1] [M15 nd cd F u r]) = some (.ret [cdV f] [M15 nd cd F u1 r1])) (hf : f.op = 7) (h26 : run Tryd.prog ext (.call 26 [.c (.ptr 0 0), cdV bx] [M15 nd cd F u1 r1]) = some (.ret [cdV bx] [M15 nd cd F u2 r2])) (h : H15 ext nd cd F u2 r2 bx = out) : H15 ext nd cd F u r c = out := by
  have hbx := box28 ext h28
  rw [cdV_box] at hbx
  rw [show cdV bx = _ from cdV_box] at h26
  unfold H15 at h ⊢
  rw [show (It.code L15) = It.code (sub B15 [1, 0, 0]) from rfl]
  have z0 : (0 : Int) ≤ 0 := Int.le_refl _
  have z1 : (0 : Int) ≤ 1 := by decide
  simp only [M15, cdV, cdC, iV, lD_of_lt z0 hl0, ho, hf] at h24 h26
  simp only [E15, M15, cdV, cdC, iV, zrow, List.map_cons, List.map_nil, lD_of_lt z0 hl0]
  simp only [B15, K15, sub, Option.getD_some, Tryd.f15, ↓reduceIte, Nat.one_ne_zero]
  simp only [zS, wantedA, opA, eff, boxA, cells, ev, gt, pt, putO, updO, setO, okC, loadA, cutC, fieldAddrA, fieldA, indexAddrA, indexA, builtinA, callOpA, callV, target, ptrV, lenS, binA, intOp, strOp, unA, num, lk, over, allocA, pickA, buildA, fillA, convertA, extractA, ofComp, nilCheckA, makeFuncA, ptrs, ofValue, cellB, Nat.reduceAdd, Nat.reduceSub, Nat.reduceMul, Nat.reduceLT, Nat.reduceLeDiff, Nat.reduceGT, ↓reduceIte, Nat.reduceEqDiff, Nat.reduceBEq, reduceCtorEq, Int.reduceBEq, Int.reduceBNe, Int.reduceLT, Int.reduceLE, Int.reduceGT, Int.reduceGE, aggT_25, sizeT_25, bytesT_25, fieldT_25_0, fieldT_25_1, fieldT_25_2, fieldT_25_3, placesT_25, zeroT_25, aggT_23, sizeT_23, bytesT_23, und_23, elemT_23, zero1_23, zeroT_23, aggT_3, sizeT_3, bytesT_3, und_3, zero1_3, zeroT_3, aggT_4, sizeT_4, bytesT_4, und_4, zero1_4, zeroT_4, ho, hl0, ha, z0, z1, mapd_enc, callA_ptr, cpK_box, h24, callOut_pt, hf, callA_nil, hbx, h26]
  refine (r_inLoop_some ?_).trans h
  kernel_rfl
theorem fstBoxP15 (u1 r1 : Int) (c a : Cd) (hl0 : (0 : Int) < c.l.length) (ha : c.l[(0 : Int).toNat]? = some a) (ho : c.op = 5) (h28 : ext 28 = none) (f : Cd) (v : Value) (h24 : run Tryd.prog ext (.call 24 [.c (.ptr 0 0), cdV a, iV 1] [M15 nd cd F u r]) = some (.ret [cdV f] [M15 nd cd F u1 r1])) (hf : f.op = 7) (h26 : run Tryd.prog ext (.call 26 [.c (.ptr 0 0), cdV bx] [M15 nd cd F u1 r1]) = some (.pan v [M15 nd cd F u1 r1])) : H15 ext nd cd F u r c = some (.pan v [M15 nd cd F u1 r1]) := by
  have hbx := box28 ext h28
  rw [cdV_box] at hbx
  rw [show cdV bx = _ from cdV_box] at h26
  unfold H15
  rw [show (It.code L15) = It.code (sub B15 [1, 0, 0]) from rfl]
  have z0 : (0 : Int) ≤ 0 := Int.le_refl _
  have z1 : (0 : Int) ≤ 1 := by decide
  simp only [M15, cdV, cdC, iV, lD_of_lt z0 hl0, ho, hf] at h24 h26
  simp only [E15, M15, cdV, cdC, iV, zrow, List.map_cons, List.map_nil, lD_of_lt z0 hl0]
  simp only [B15, K15, sub, Option.getD_some, Tryd.f15, ↓reduceIte, Nat.one_ne_zero]
  simp only [zS, wantedA, opA, eff, boxA, cells, ev, gt, pt, putO, updO, setO, okC, loadA, cutC, fieldAddrA, fieldA, indexAddrA, indexA, builtinA, callOpA, callV, target, ptrV, lenS, binA, intOp, strOp, unA, num, lk, over, allocA, pickA, buildA, fillA, convertA, extractA, ofComp, nilCheckA, makeFuncA, ptrs, ofValue, cellB, Nat.reduceAdd, Nat.reduceSub, Nat.reduceMul, Nat.reduceLT, Nat.reduceLeDiff, Nat.reduceGT, ↓reduceIte, Nat.reduceEqDiff, Nat.reduceBEq, reduceCtorEq, Int.reduceBEq, Int.reduceBNe, Int.reduceLT, Int.reduceLE, Int.reduceGT, Int.reduceGE, aggT_25, sizeT_25, bytesT_25, fieldT_25_0, fieldT_25_1, fieldT_25_2, fieldT_25_3, placesT_25, zeroT_25, aggT_23, sizeT_23, bytesT_23, und_23, elemT_23, zero1_23, zeroT_23, aggT_3, sizeT_3, bytesT_3, und_3, zero1_3, zeroT_3, aggT_4, sizeT_4, bytesT_4, und_4, zero1_4, zeroT_4, ho, hl0, ha, z0, z1, mapd_enc, callA_ptr, cpK_box, h24, callOut_pt, callOut_pp, hf, callA_nil, hbx, h26]
  (refine Eq.trans ?_ rfl; kernel_rfl)
theorem fstPair15 (u1 r1 : Int) (c a : Cd) (hl0 : (0 : Int) < c.l.length) (ha : c.l[(0 : Int).toNat]? = some a) (ho : c.op = 5) (u2 r2 : Int) (f t : Cd) (out : Option Out) (h24 : run Tryd.prog ext (.call 24 [.c (.ptr 0 0), cdV a, iV 1] [M15 nd cd F u r]) = some (.ret [cdV f] [M15 nd cd F u1 r1])) (hf : f.op = 4) (hfl : (0 : Int) < f.l.length) (ht : f.l[(0 : Int).toNat]? = some t) (hw : wr (5 - 5) = 0) (h26 : run Tryd.prog ext (.call 26 [.c (.ptr 0 0), cdV t] [M15 nd cd F u1 r1]) = some (.ret [cdV t] [M15 nd cd F u2 r2])) (h : H15 ext nd cd F u2 r2 t = out) : H15 ext nd cd F u r c = out := by
  unfold H15 at h ⊢
  rw [show (It.code L15) = It.code (sub B15 [1, 0, 0]) from rfl]
  have z0 : (0 : Int) ≤ 0 := Int.le_refl _
  have z1 : (0 : Int) ≤ 1 := by decide
  simp only [M15, cdV, cdC, iV, lD_of_lt z0 hl0, lD_of_lt z0 hfl, ho, hf] at h24 h26
  simp only [E15, M15, cdV, cdC, iV, zrow, List.map_cons, List.map_nil, lD_of_lt z0 hl0]
  simp only [B15, K15, sub, Option.getD_some, Tryd.f15, ↓reduceIte, Nat.one_ne_zero]
  simp only [zS, wantedA, opA, eff, boxA, cells, ev, gt, pt, putO, updO, setO, okC, loadA, cutC, fieldAddrA, fieldA, indexAddrA, indexA, builtinA, callOpA, callV, target, ptrV, lenS, binA, intOp, strOp, unA, num, lk, over, allocA, pickA, buildA, fillA, convertA, extractA, ofComp, nilCheckA, makeFuncA, ptrs, ofValue, cellB, Nat.reduceAdd, Nat.reduceSub, Nat.reduceMul, Nat.reduceLT, Nat.reduceLeDiff, Nat.reduceGT, ↓reduceIte, Nat.reduceEqDiff, Nat.reduceBEq, reduceCtorEq, Int.reduceBEq, Int.reduceBNe, Int.reduceLT, Int.reduceLE, Int.reduceGT, Int.reduceGE, aggT_25, sizeT_25, bytesT_25, fieldT_25_0, fieldT_25_1, fieldT_25_2, fieldT_25_3, placesT_25, zeroT_25, aggT_23, sizeT_23, bytesT_23, und_23, elemT_23, zero1_23, zeroT_23, aggT_3, sizeT_3, bytesT_3, und_3, zero1_3, zeroT_3, aggT_4, sizeT_4, bytesT_4, und_4, zero1_4, zeroT_4, ho, hl0, ha, z0, z1, mapd_enc, callA_ptr, cpK_box, h24, callOut_pt, hf, hfl, ht, hw, h26]
  refine (r_inLoop_some ?_).trans h
  kernel_rfl
theorem fstPairP15 (u1 r1 : Int) (c a : Cd) (hl0 : (0 : Int) < c.l.length) (ha : c.l[(0 : Int).toNat]? = some a) (ho : c.op = 5) (f t : Cd) (v : Value) (h24 : run Tryd.prog ext (.call 24 [.c (.ptr 0 0), cdV a, iV 1] [M15 nd cd F u r]) = some (.ret [cdV f] [M15 nd cd F u1 r1])) (hf : f.op = 4) (hfl : (0 : Int) < f.l.length) (ht : f.l[(0 : Int).toNat]? = some t) (hw : wr (5 - 5) = 0) (h26 : run Tryd.prog ext (.call 26 [.c (.ptr 0 0), cdV t] [M15 nd cd F u1 r1]) = some (.pan v [M15 nd cd F u1 r1])) : H15 ext nd cd F u r c = some (.pan v [M15 nd cd F u1 r1]) := by
  unfold H15
  rw [show (It.code L15) = It.code (sub B15 [1, 0, 0]) from rfl]
  have z0 : (0 : Int) ≤ 0 := Int.le_refl _
  have z1 : (0 : Int) ≤ 1 := by decide
  simp only [M15, cdV, cdC, iV, lD_of_lt z0 hl0, lD_of_lt z0 hfl, ho, hf] at h24 h26
  simp only [E15, M15, cdV, cdC, iV, zrow, List.map_cons, List.map_nil, lD_of_lt z0 hl0]
  simp only [B15, K15, sub, Option.getD_some, Tryd.f15, ↓reduceIte, Nat.one_ne_zero]
  simp only [zS, wantedA, opA, eff, boxA, cells, ev, gt, pt, putO, updO, setO, okC, loadA, cutC, fieldAddrA, fieldA, indexAddrA, indexA, builtinA, callOpA, callV, target, ptrV, lenS, binA, intOp, strOp, unA, num, lk, over, allocA, pickA, buildA, fillA, convertA, extractA, ofComp, nilCheckA, makeFuncA, ptrs, ofValue, cellB, Nat.reduceAdd, Nat.reduceSub, Nat.reduceMul, Nat.reduceLT, Nat.reduceLeDiff, Nat.reduceGT, ↓reduceIte, Nat.reduceEqDiff, Nat.reduceBEq, reduceCtorEq, Int.reduceBEq, Int.reduceBNe, Int.reduceLT, Int.reduceLE, Int.reduceGT, Int.reduceGE, aggT_25, sizeT_25, bytesT_25, fieldT_25_0, fieldT_25_1, fieldT_25_2, fieldT_25_3, placesT_25, zeroT_25, aggT_23, sizeT_23, bytesT_23, und_23, elemT_23, zero1_23, zeroT_23, aggT_3, sizeT_3, bytesT_3, und_3, zero1_3, zeroT_3, aggT_4, sizeT_4, bytesT_4, und_4, zero1_4, zeroT_4, ho, hl0, ha, z0, z1, mapd_enc, callA_ptr, cpK_box, h24, callOut_pt, callOut_pp, hf, hfl, ht, hw, h26]
  (refine Eq.trans ?_ rfl; kernel_rfl)
theorem sndP15 (u1 r1 : Int) (c a : Cd) (hl0 : (0 : Int) < c.l.length) (ha : c.l[(0 : Int).toNat]? = some a) (ho : c.op = 6) (v : Value) (h24 : run Tryd.prog ext (.call 24 [.c (.ptr 0 0), cdV a, iV 1] [M15 nd cd F u r]) = some (.pan v [M15 nd cd F u1 r1])) : H15 ext nd cd F u r c = some (.pan v [M15 nd cd F u1 r1]) := by
  unfold H15
  rw [show (It.code L15) = It.code (sub B15 [1, 0, 0]) from rfl]
  have z0 : (0 : Int) ≤ 0 := Int.le_refl _
  have z1 : (0 : Int) ≤ 1 := by decide
  simp only [M15, cdV, cdC, iV, lD_of_lt z0 hl0, ho] at h24
  simp only [E15, M15, cdV, cdC, iV, zrow, List.map_cons, List.map_nil, lD_of_lt z0 hl0]
  simp only [B15, K15, sub, Option.getD_some, Tryd.f15, ↓reduceIte, Nat.one_ne_zero]
  simp only [zS, wantedA, opA, eff, boxA, cells, ev, gt, pt, putO, updO, setO, okC, loadA, cutC, fieldAddrA, fieldA, indexAddrA, indexA, builtinA, callOpA, callV, target, ptrV, lenS, binA, intOp, strOp, unA, num, lk, over, allocA, pickA, buildA, fillA, convertA, extractA, ofComp, nilCheckA, makeFuncA, ptrs, ofValue, cellB, Nat.reduceAdd, Nat.reduceSub, Nat.reduceMul, Nat.reduceLT, Nat.reduceLeDiff, Nat.reduceGT, ↓reduceIte, Nat.reduceEqDiff, Nat.reduceBEq, reduceCtorEq, Int.reduceBEq, Int.reduceBNe, Int.reduceLT, Int.reduceLE, Int.reduceGT, Int.reduceGE, aggT_25, sizeT_25, bytesT_25, fieldT_25_0, fieldT_25_1, fieldT_25_2, fieldT_25_3, placesT_25, zeroT_25, aggT_23, sizeT_23, bytesT_23, und_23, elemT_23, zero1_23, zeroT_23, aggT_3, sizeT_3, bytesT_3, und_3, zero1_3, zeroT_3, aggT_4, sizeT_4, bytesT_4, und_4, zero1_4, zeroT_4, ho, hl0, ha, z0, z1, mapd_enc, callA_ptr, cpK_box, h24, callOut_pp]
  (refine Eq.trans ?_ rfl; kernel_rfl)
theorem sndBad15 (u1 r1 : Int) (c a : Cd) (hl0 : (0 : Int) < c.l.length) (ha : c.l[(0 : Int).toNat]? = some a) (ho : c.op = 6) (f : Cd) (h24 : run Tryd.prog ext (.call 24 [.c (.ptr 0 0), cdV a, iV 1] [M15 nd cd F u r]) = some (.ret [cdV f] [M15 nd cd F u1 r1])) (hf : ¬ f.op = 4) (hf7 : ¬ f.op = 7) : H15 ext nd cd F u r c = some (.pan (failedV 211) [M15 nd cd F u1 r1]) := by
  unfold H15
  rw [show (It.code L15) = It.code (sub B15 [1, 0, 0]) from rfl]
  have z0 : (0 : Int) ≤ 0 := Int.le_refl _
  have z1 : (0 : Int) ≤ 1 := by decide
  simp only [M15, cdV, cdC, iV, lD_of_lt z0 hl0, ho] at h24
  simp only [E15, M15, cdV, cdC, iV, zrow, List.map_cons, List.map_nil, lD_of_lt z0 hl0]
  simp only [B15, K15, sub, Option.getD_some, Tryd.f15, ↓reduceIte, Nat.one_ne_zero]
  simp only [zS, wantedA, opA, eff, boxA, cells, ev, gt, pt, putO, updO, setO, okC, loadA, cutC, fieldAddrA, fieldA, indexAddrA, indexA, builtinA, callOpA, callV, target, ptrV, lenS, binA, intOp, strOp, unA, num, lk, over, allocA, pickA, buildA, fillA, convertA, extractA, ofComp, nilCheckA, makeFuncA, ptrs, ofValue, cellB, Nat.reduceAdd, Nat.reduceSub, Nat.reduceMul, Nat.reduceLT, Nat.reduceLeDiff, Nat.reduceGT, ↓reduceIte, Nat.reduceEqDiff, Nat.reduceBEq, reduceCtorEq, Int.reduceBEq, Int.reduceBNe, Int.reduceLT, Int.reduceLE, Int.reduceGT, Int.reduceGE, aggT_25, sizeT_25, bytesT_25, fieldT_25_0, fieldT_25_1, fieldT_25_2, fieldT_25_3, placesT_25, zeroT_25, aggT_23, sizeT_23, bytesT_23, und_23, elemT_23, zero1_23, zeroT_23, aggT_3, sizeT_3, bytesT_3, und_3, zero1_3, zeroT_3, aggT_4, sizeT_4, bytesT_4, und_4, zero1_4, zeroT_4, aggT_53, sizeT_53, bytesT_53, fieldT_53_0, placesT_53, zeroT_53, ho, hl0, ha, z0, z1, mapd_enc, callA_ptr, cpK_box, h24, callOut_pt, hf, hf7, mkI53, panicA_f]
  (refine Eq.trans ?_ rfl; kernel_rfl)
theorem sndBox15 (u1 r1 : Int) (c a : Cd) (hl0 : (0 : Int) < c.l.length) (ha : c.l[(0 : Int).toNat]? = some a) (ho : c.op = 6) (u2 r2 : Int) (h28 : ext 28 = none) (f : Cd) (out : Option Out) (h24 : run Tryd.prog ext (.call 24 [.c (.ptr 0 0), cdV a, iV 1] [M15 nd cd F u r]) = some (.ret [cdV f] [M15 nd cd F u1 r1])) (hf : f.op = 7) (h26 : run Tryd.prog ext (.call 26 [.c (.ptr 0 0), cdV bx] [M15 nd cd F u1 r1]) = some (.ret [cdV bx] [M15 nd cd F u2 r2])) (h : H15 ext nd cd F u2 r2 bx = out) : H15 ext nd cd F u r c = out := by
  have hbx := box28 ext h28
  rw [cdV_box] at hbx
  rw [show cdV bx = _ from cdV_box] at h26
  unfold H15 at h ⊢
  rw [show (It.code L15) = It.code (sub B15 [1, 0, 0]) from rfl]
  have z0 : (0 : Int) ≤ 0 := Int.le_refl _
  have z1 : (0 : Int) ≤ 1 := by decide
  simp only [M15, cdV, cdC, iV, lD_of_lt z0 hl0, ho, hf] at h24 h26
  simp only [E15, M15, cdV, cdC, iV, zrow, List.map_cons, List.map_nil, lD_of_lt z0 hl0]
  simp only [B15, K15, sub, Option.getD_some, Tryd.f15, ↓reduceIte, Nat.one_ne_zero]
  simp only [zS, wantedA, opA, eff, boxA, cells, ev, gt, pt, putO, updO, setO, okC, loadA, cutC, fieldAddrA, fieldA, indexAddrA, indexA, builtinA, callOpA, callV, target, ptrV, lenS, binA, intOp, strOp, unA, num, lk, over, allocA, pickA, buildA, fillA, convertA, extractA, ofComp, nilCheckA, makeFuncA, ptrs, ofValue, cellB, Nat.reduceAdd, Nat.reduceSub, Nat.reduceMul, Nat.reduceLT, Nat.reduceLeDiff, Nat.reduceGT, ↓reduceIte, Nat.reduceEqDiff, Nat.reduceBEq, reduceCtorEq, Int.reduceBEq, Int.reduceBNe, Int.reduceLT, Int.reduceLE, Int.reduceGT, Int.reduceGE, aggT_25, sizeT_25, bytesT_25, fieldT_25_0, fieldT_25_1, fieldT_25_2, fieldT_25_3, placesT_25, zeroT_25, aggT_23, sizeT_23, bytesT_23, und_23, elemT_23, zero1_23, zeroT_23, aggT_3, sizeT_3, bytesT_3, und_3, zero1_3, zeroT_3, aggT_4, sizeT_4, bytesT_4, und_4, zero1_4, zeroT_4, ho, hl0, ha, z0, z1, mapd_enc, callA_ptr, cpK_box, h24, callOut_pt, hf, callA_nil, hbx, h26]
  refine (r_inLoop_some ?_).trans h
  kernel_rfl
theorem sndBoxP15 (u1 r1 : Int) (c a : Cd) (hl0 : (0 : Int) < c.l.length) (ha : c.l[(0 : Int).toNat]? = some a) (ho : c.op = 6) (h28 : ext 28 = none) (f : Cd) (v : Value) (h24 : run Tryd.prog ext (.call 24 [.c (.ptr 0 0), cdV a, iV 1] [M15 nd cd F u r]) = some (.ret [cdV f] [M15 nd cd F u1 r1])) (hf : f.op = 7) (h26 : run Tryd.prog ext (.call 26 [.c (.ptr 0 0), cdV bx] [M15 nd cd F u1 r1]) = some (.pan v [M15 nd cd F u1 r1])) : H15 ext nd cd F u r c = some (.pan v [M15 nd cd F u1 r1]) := by
  have hbx := box28 ext h28
  rw [cdV_box] at hbx
  rw [show cdV bx = _ from cdV_box] at h26
  unfold H15
  rw [show (It.code L15) = It.code (sub B15 [1, 0, 0]) from rfl]
  have z0 : (0 : Int) ≤ 0 := Int.le_refl _
  have z1 : (0 : Int) ≤ 1 := by decide
  simp only [M15, cdV, cdC, iV, lD_of_lt z0 hl0, ho, hf] at h24 h26
  simp only [E15, M15, cdV, cdC, iV, zrow, List.map_cons, List.map_nil, lD_of_lt z0 hl0]
  simp only [B15, K15, sub, Option.getD_some, Tryd.f15, ↓reduceIte, Nat.one_ne_zero]
  simp only [zS, wantedA, opA, eff, boxA, cells, ev, gt, pt, putO, updO, setO, okC, loadA, cutC, fieldAddrA, fieldA, indexAddrA, indexA, builtinA, callOpA, callV, target, ptrV, lenS, binA, intOp, strOp, unA, num, lk, over, allocA, pickA, buildA, fillA, convertA, extractA, ofComp, nilCheckA, makeFuncA, ptrs, ofValue, cellB, Nat.reduceAdd, Nat.reduceSub, Nat.reduceMul, Nat.reduceLT, Nat.reduceLeDiff, Nat.reduceGT, ↓reduceIte, Nat.reduceEqDiff, Nat.reduceBEq, reduceCtorEq, Int.reduceBEq, Int.reduceBNe, Int.reduceLT, Int.reduceLE, Int.reduceGT, Int.reduceGE, aggT_25, sizeT_25, bytesT_25, fieldT_25_0, fieldT_25_1, fieldT_25_2, fieldT_25_3, placesT_25, zeroT_25, aggT_23, sizeT_23, bytesT_23, und_23, elemT_23, zero1_23, zeroT_23, aggT_3, sizeT_3, bytesT_3, und_3, zero1_3, zeroT_3, aggT_4, sizeT_4, bytesT_4, und_4, zero1_4, zeroT_4, ho, hl0, ha, z0, z1, mapd_enc, callA_ptr, cpK_box, h24, callOut_pt, callOut_pp, hf, callA_nil, hbx, h26]
  (refine Eq.trans ?_ rfl; kernel_rfl)
theorem sndPair15 (u1 r1 : Int) (c a : Cd) (hl0 : (0 : Int) < c.l.length) (ha : c.l[(0 : Int).toNat]? = some a) (ho : c.op = 6) (u2 r2 : Int) (f t : Cd) (out : Option Out) (h24 : run Tryd.prog ext (.call 24 [.c (.ptr 0 0), cdV a, iV 1] [M15 nd cd F u r]) = some (.ret [cdV f] [M15 nd cd F u1 r1])) (hf : f.op = 4) (hfl : (1 : Int) < f.l.length) (ht : f.l[(1 : Int).toNat]? = some t) (hw : wr (6 - 5) = 1) (h26 : run Tryd.prog ext (.call 26 [.c (.ptr 0 0), cdV t] [M15 nd cd F u1 r1]) = some (.ret [cdV t] [M15 nd cd F u2 r2])) (h : H15 ext nd cd F u2 r2 t = out) : H15 ext nd cd F u r c = out := by
  unfold H15 at h ⊢
  rw [show (It.code L15) = It.code (sub B15 [1, 0, 0]) from rfl]
  have z0 : (0 : Int) ≤ 0 := Int.le_refl _
  have z1 : (0 : Int) ≤ 1 := by decide
  simp only [M15, cdV, cdC, iV, lD_of_lt z0 hl0, lD_of_lt z1 hfl, ho, hf] at h24 h26
  simp only [E15, M15, cdV, cdC, iV, zrow, List.map_cons, List.map_nil, lD_of_lt z0 hl0]
  simp only [B15, K15, sub, Option.getD_some, Tryd.f15, ↓reduceIte, Nat.one_ne_zero]
  simp only [zS, wantedA, opA, eff, boxA, cells, ev, gt, pt, putO, updO, setO, okC, loadA, cutC, fieldAddrA, fieldA, indexAddrA, indexA, builtinA, callOpA, callV, target, ptrV, lenS, binA, intOp, strOp, unA, num, lk, over, allocA, pickA, buildA, fillA, convertA, extractA, ofComp, nilCheckA, makeFuncA, ptrs, ofValue, cellB, Nat.reduceAdd, Nat.reduceSub, Nat.reduceMul, Nat.reduceLT, Nat.reduceLeDiff, Nat.reduceGT, ↓reduceIte, Nat.reduceEqDiff, Nat.reduceBEq, reduceCtorEq, Int.reduceBEq, Int.reduceBNe, Int.reduceLT, Int.reduceLE, Int.reduceGT, Int.reduceGE, aggT_25, sizeT_25, bytesT_25, fieldT_25_0, fieldT_25_1, fieldT_25_2, fieldT_25_3, placesT_25, zeroT_25, aggT_23, sizeT_23, bytesT_23, und_23, elemT_23, zero1_23, zeroT_23, aggT_3, sizeT_3, bytesT_3, und_3, zero1_3, zeroT_3, aggT_4, sizeT_4, bytesT_4, und_4, zero1_4, zeroT_4, ho, hl0, ha, z0, z1, mapd_enc, callA_ptr, cpK_box, h24, callOut_pt, hf, hfl, ht, hw, h26]
  refine (r_inLoop_some ?_).trans h
  kernel_rfl
theorem sndPairP15 (u1 r1 : Int) (c a : Cd) (hl0 : (0 : Int) < c.l.length) (ha : c.l[(0 : Int).toNat]? = some a) (ho : c.op = 6) (f t : Cd) (v : Value) (h24 : run Tryd.prog ext (.call 24 [.c (.ptr 0 0), cdV a, iV 1] [M15 nd cd F u r]) = some (.ret [cdV f] [M15 nd cd F u1 r1])) (hf : f.op = 4) (hfl : (1 : Int) < f.l.length) (ht : f.l[(1 : Int).toNat]? = some t) (hw : wr (6 - 5) = 1) (h26 : run Tryd.prog ext (.call 26 [.c (.ptr 0 0), cdV t] [M15 nd cd F u1 r1]) = some (.pan v [M15 nd cd F u1 r1])) : H15 ext nd cd F u r c = some (.pan v [M15 nd cd F u1 r1]) := by
  unfold H15
  rw [show (It.code L15) = It.code (sub B15 [1, 0, 0]) from rfl]
  have z0 : (0 : Int) ≤ 0 := Int.le_refl _
  have z1 : (0 : Int) ≤ 1 := by decide
  simp only [M15, cdV, cdC, iV, lD_of_lt z0 hl0, lD_of_lt z1 hfl, ho, hf] at h24 h26
  simp only [E15, M15, cdV, cdC, iV, zrow, List.map_cons, List.map_nil, lD_of_lt z0 hl0]
  simp only [B15, K15, sub, Option.getD_some, Tryd.f15, ↓reduceIte, Nat.one_ne_zero]
  simp only [zS, wantedA, opA, eff, boxA, cells, ev, gt, pt, putO, updO, setO, okC, loadA, cutC, fieldAddrA, fieldA, indexAddrA, indexA, builtinA, callOpA, callV, target, ptrV, lenS, binA, intOp, strOp, unA, num, lk, over, allocA, pickA, buildA, fillA, convertA, extractA, ofComp, nilCheckA, makeFuncA, ptrs, ofValue, cellB, Nat.reduceAdd, Nat.reduceSub, Nat.reduceMul, Nat.reduceLT, Nat.reduceLeDiff, Nat.reduceGT, ↓reduceIte, Nat.reduceEqDiff, Nat.reduceBEq, reduceCtorEq, Int.reduceBEq, Int.reduceBNe, Int.reduceLT, Int.reduceLE, Int.reduceGT, Int.reduceGE, aggT_25, sizeT_25, bytesT_25, fieldT_25_0, fieldT_25_1, fieldT_25_2, fieldT_25_3, placesT_25, zeroT_25, aggT_23, sizeT_23, bytesT_23, und_23, elemT_23, zero1_23, zeroT_23, aggT_3, sizeT_3, bytesT_3, und_3, zero1_3, zeroT_3, aggT_4, sizeT_4, bytesT_4, und_4, zero1_4, zeroT_4, ho, hl0, ha, z0, z1, mapd_enc, callA_ptr, cpK_box, h24, callOut_pt, callOut_pp, hf, hfl, ht, hw, h26]
  (refine Eq.trans ?_ rfl; kernel_rfl)
end Go.Proofs.YtmjacokkgfophaaDoor.Am
end
section
/- head: names, cases and recursion. -/
namespace Go.Proofs.YtmjacokkgfophaaDoor.Am
open Go
variable (ext : Ext)
set_option maxHeartbeats 8000000
set_option maxRecDepth 10000
variable (nd cd : D) (F u r : Int)
theorem globBad15 (c : Cd) (ho : c.op = 10) (i : Int) (h29 : run Tryd.prog ext (.call 29 [.c (.d nd), sV c.s] []) = some (.ret [iV i] [])) (hi : i < 0) : H15 ext nd cd F u r c = some (.pan (failedV 211) [M15 nd cd F u r]) := by
  unfold H15
  rw [show (It.code L15) = It.code (sub B15 [1, 0, 0]) from rfl]
  have z0 : (0 : Int) ≤ 0 := Int.le_refl _
  simp only [M15, cdV, cdC, iV, sV] at h29
  simp only [E15, M15, cdV, cdC, iV, sV, zrow, List.map_cons, List.map_nil]
  simp only [B15, K15, sub, Option.getD_some, Tryd.f15, ↓reduceIte, Nat.one_ne_zero]
  simp only [zS, wantedA, opA, eff, boxA, cells, ev, gt, pt, putO, updO, setO, okC, loadA, cutC, fieldAddrA, fieldA, indexAddrA, indexA, builtinA, callOpA, callV, target, ptrV, lenS, binA, intOp, strOp, unA, num, lk, over, allocA, pickA, buildA, fillA, convertA, extractA, ofComp, nilCheckA, makeFuncA, ptrs, ofValue, cellB, Nat.reduceAdd, Nat.reduceSub, Nat.reduceMul, Nat.reduceLT, Nat.reduceLeDiff, Nat.reduceGT, ↓reduceIte, Nat.reduceEqDiff, Nat.reduceBEq, reduceCtorEq, Int.reduceBEq, Int.reduceBNe, Int.reduceLT, Int.reduceLE, Int.reduceGT, Int.reduceGE, aggT_25, sizeT_25, bytesT_25, fieldT_25_0, fieldT_25_1, fieldT_25_2, fieldT_25_3, placesT_25, zeroT_25, aggT_23, sizeT_23, bytesT_23, und_23, elemT_23, zero1_23, zeroT_23, aggT_3, sizeT_3, bytesT_3, und_3, zero1_3, zeroT_3, aggT_4, sizeT_4, bytesT_4, und_4, zero1_4, zeroT_4, aggT_22, sizeT_22, bytesT_22, und_22, elemT_22, zero1_22, zeroT_22, aggT_9, sizeT_9, bytesT_9, und_9, zero1_9, zeroT_9, aggT_44, sizeT_44, bytesT_44, fieldT_44_0, fieldT_44_1, fieldT_44_2, fieldT_44_3, fieldT_44_4, placesT_44, zeroT_44, drawA, holes_succ, holes_zero, Array.size, List.length, ho, h29]
  rw [afterDraw_some _ _ _ _ (by kernel_rfl)]
  simp only [zS, wantedA, opA, eff, boxA, cells, ev, gt, pt, putO, updO, setO, okC, loadA, cutC, fieldAddrA, fieldA, indexAddrA, indexA, builtinA, callOpA, callV, target, ptrV, lenS, binA, intOp, strOp, unA, num, lk, over, allocA, pickA, buildA, fillA, convertA, extractA, ofComp, nilCheckA, makeFuncA, ptrs, ofValue, cellB, Nat.reduceAdd, Nat.reduceSub, Nat.reduceMul, Nat.reduceLT, Nat.reduceLeDiff, Nat.reduceGT, ↓reduceIte, Nat.reduceEqDiff, Nat.reduceBEq, reduceCtorEq, Int.reduceBEq, Int.reduceBNe, Int.reduceLT, Int.reduceLE, Int.reduceGT, Int.reduceGE, aggT_25, sizeT_25, bytesT_25, fieldT_25_0, fieldT_25_1, fieldT_25_2, fieldT_25_3, placesT_25, zeroT_25, aggT_23, sizeT_23, bytesT_23, und_23, elemT_23, zero1_23, zeroT_23, aggT_3, sizeT_3, bytesT_3, und_3, zero1_3, zeroT_3, aggT_4, sizeT_4, bytesT_4, und_4, zero1_4, zeroT_4, aggT_22, sizeT_22, bytesT_22, und_22, elemT_22, zero1_22, zeroT_22, aggT_9, sizeT_9, bytesT_9, und_9, zero1_9, zeroT_9, aggT_44, sizeT_44, bytesT_44, fieldT_44_0, fieldT_44_1, fieldT_44_2, fieldT_44_3, fieldT_44_4, placesT_44, zeroT_44, aggT_53, sizeT_53, bytesT_53, fieldT_53_0, placesT_53, zeroT_53, hi, mkI53, panicA_f]
  (refine Eq.trans ?_ rfl; kernel_rfl)
theorem glob15 (u2 r2 : Int) (c : Cd) (ho : c.op = 10) (i : Int) (h29 : run Tryd.prog ext (.call 29 [.c (.d nd), sV c.s] []) = some (.ret [iV i] [])) (t : Cd) (codes : List Cd) (hcd : cd = .s 4 (codes.map encCd)) (hi : ¬ i < 0) (h0 : 0 ≤ i) (hil : i < codes.length) (ht : codes[i.toNat]? = some t) (out : Option Out) (h26 : run Tryd.prog ext (.call 26 [.c (.ptr 0 0), cdV t] [M15 nd cd F u r]) = some (.ret [cdV t] [M15 nd cd F u2 r2])) (h : H15 ext nd cd F u2 r2 t = out) : H15 ext nd cd F u r c = out := by
  subst hcd
  unfold H15 at h ⊢
  rw [show (It.code L15) = It.code (sub B15 [1, 0, 0]) from rfl]
  have z0 : (0 : Int) ≤ 0 := Int.le_refl _
  simp only [M15, cdV, cdC, iV, sV] at h29 h26
  simp only [E15, M15, cdV, cdC, iV, sV, zrow, List.map_cons, List.map_nil]
  simp only [B15, K15, sub, Option.getD_some, Tryd.f15, ↓reduceIte, Nat.one_ne_zero]
  simp only [zS, wantedA, opA, eff, boxA, cells, ev, gt, pt, putO, updO, setO, okC, loadA, cutC, fieldAddrA, fieldA, indexAddrA, indexA, builtinA, callOpA, callV, target, ptrV, lenS, binA, intOp, strOp, unA, num, lk, over, allocA, pickA, buildA, fillA, convertA, extractA, ofComp, nilCheckA, makeFuncA, ptrs, ofValue, cellB, Nat.reduceAdd, Nat.reduceSub, Nat.reduceMul, Nat.reduceLT, Nat.reduceLeDiff, Nat.reduceGT, ↓reduceIte, Nat.reduceEqDiff, Nat.reduceBEq, reduceCtorEq, Int.reduceBEq, Int.reduceBNe, Int.reduceLT, Int.reduceLE, Int.reduceGT, Int.reduceGE, aggT_25, sizeT_25, bytesT_25, fieldT_25_0, fieldT_25_1, fieldT_25_2, fieldT_25_3, placesT_25, zeroT_25, aggT_23, sizeT_23, bytesT_23, und_23, elemT_23, zero1_23, zeroT_23, aggT_3, sizeT_3, bytesT_3, und_3, zero1_3, zeroT_3, aggT_4, sizeT_4, bytesT_4, und_4, zero1_4, zeroT_4, aggT_22, sizeT_22, bytesT_22, und_22, elemT_22, zero1_22, zeroT_22, aggT_9, sizeT_9, bytesT_9, und_9, zero1_9, zeroT_9, aggT_44, sizeT_44, bytesT_44, fieldT_44_0, fieldT_44_1, fieldT_44_2, fieldT_44_3, fieldT_44_4, placesT_44, zeroT_44, drawA, holes_succ, holes_zero, Array.size, List.length, ho, h29]
  rw [afterDraw_some _ _ _ _ (by kernel_rfl)]
  simp only [zS, wantedA, opA, eff, boxA, cells, ev, gt, pt, putO, updO, setO, okC, loadA, cutC, fieldAddrA, fieldA, indexAddrA, indexA, builtinA, callOpA, callV, target, ptrV, lenS, binA, intOp, strOp, unA, num, lk, over, allocA, pickA, buildA, fillA, convertA, extractA, ofComp, nilCheckA, makeFuncA, ptrs, ofValue, cellB, Nat.reduceAdd, Nat.reduceSub, Nat.reduceMul, Nat.reduceLT, Nat.reduceLeDiff, Nat.reduceGT, ↓reduceIte, Nat.reduceEqDiff, Nat.reduceBEq, reduceCtorEq, Int.reduceBEq, Int.reduceBNe, Int.reduceLT, Int.reduceLE, Int.reduceGT, Int.reduceGE, aggT_25, sizeT_25, bytesT_25, fieldT_25_0, fieldT_25_1, fieldT_25_2, fieldT_25_3, placesT_25, zeroT_25, aggT_23, sizeT_23, bytesT_23, und_23, elemT_23, zero1_23, zeroT_23, aggT_3, sizeT_3, bytesT_3, und_3, zero1_3, zeroT_3, aggT_4, sizeT_4, bytesT_4, und_4, zero1_4, zeroT_4, aggT_22, sizeT_22, bytesT_22, und_22, elemT_22, zero1_22, zeroT_22, aggT_9, sizeT_9, bytesT_9, und_9, zero1_9, zeroT_9, aggT_44, sizeT_44, bytesT_44, fieldT_44_0, fieldT_44_1, fieldT_44_2, fieldT_44_3, fieldT_44_4, placesT_44, zeroT_44, hi, h0, hil, ht, mapd_enc, callA_ptr, cpK_box, h26, callOut_pt]
  refine (r_inLoop_some ?_).trans h
  kernel_rfl
theorem globP15 (u1 r1 : Int) (v : Value) (c : Cd) (ho : c.op = 10) (i : Int) (h29 : run Tryd.prog ext (.call 29 [.c (.d nd), sV c.s] []) = some (.ret [iV i] [])) (t : Cd) (codes : List Cd) (hcd : cd = .s 4 (codes.map encCd)) (hi : ¬ i < 0) (h0 : 0 ≤ i) (hil : i < codes.length) (ht : codes[i.toNat]? = some t) (h26 : run Tryd.prog ext (.call 26 [.c (.ptr 0 0), cdV t] [M15 nd cd F u r]) = some (.pan v [M15 nd cd F u1 r1])) : H15 ext nd cd F u r c = some (.pan v [M15 nd cd F u1 r1]) := by
  subst hcd
  unfold H15
  rw [show (It.code L15) = It.code (sub B15 [1, 0, 0]) from rfl]
  have z0 : (0 : Int) ≤ 0 := Int.le_refl _
  simp only [M15, cdV, cdC, iV, sV] at h29 h26
  simp only [E15, M15, cdV, cdC, iV, sV, zrow, List.map_cons, List.map_nil]
  simp only [B15, K15, sub, Option.getD_some, Tryd.f15, ↓reduceIte, Nat.one_ne_zero]
  simp only [zS, wantedA, opA, eff, boxA, cells, ev, gt, pt, putO, updO, setO, okC, loadA, cutC, fieldAddrA, fieldA, indexAddrA, indexA, builtinA, callOpA, callV, target, ptrV, lenS, binA, intOp, strOp, unA, num, lk, over, allocA, pickA, buildA, fillA, convertA, extractA, ofComp, nilCheckA, makeFuncA, ptrs, ofValue, cellB, Nat.reduceAdd, Nat.reduceSub, Nat.reduceMul, Nat.reduceLT, Nat.reduceLeDiff, Nat.reduceGT, ↓reduceIte, Nat.reduceEqDiff, Nat.reduceBEq, reduceCtorEq, Int.reduceBEq, Int.reduceBNe, Int.reduceLT, Int.reduceLE, Int.reduceGT, Int.reduceGE, aggT_25, sizeT_25, bytesT_25, fieldT_25_0, fieldT_25_1, fieldT_25_2, fieldT_25_3, placesT_25, zeroT_25, aggT_23, sizeT_23, bytesT_23, und_23, elemT_23, zero1_23, zeroT_23, aggT_3, sizeT_3, bytesT_3, und_3, zero1_3, zeroT_3, aggT_4, sizeT_4, bytesT_4, und_4, zero1_4, zeroT_4, aggT_22, sizeT_22, bytesT_22, und_22, elemT_22, zero1_22, zeroT_22, aggT_9, sizeT_9, bytesT_9, und_9, zero1_9, zeroT_9, aggT_44, sizeT_44, bytesT_44, fieldT_44_0, fieldT_44_1, fieldT_44_2, fieldT_44_3, fieldT_44_4, placesT_44, zeroT_44, drawA, holes_succ, holes_zero, Array.size, List.length, ho, h29]
  rw [afterDraw_some _ _ _ _ (by kernel_rfl)]
  simp only [zS, wantedA, opA, eff, boxA, cells, ev, gt, pt, putO, updO, setO, okC, loadA, cutC, fieldAddrA, fieldA, indexAddrA, indexA, builtinA, callOpA, callV, target, ptrV, lenS, binA, intOp, strOp, unA, num, lk, over, allocA, pickA, buildA, fillA, convertA, extractA, ofComp, nilCheckA, makeFuncA, ptrs, ofValue, cellB, Nat.reduceAdd, Nat.reduceSub, Nat.reduceMul, Nat.reduceLT, Nat.reduceLeDiff, Nat.reduceGT, ↓reduceIte, Nat.reduceEqDiff, Nat.reduceBEq, reduceCtorEq, Int.reduceBEq, Int.reduceBNe, Int.reduceLT, Int.reduceLE, Int.reduceGT, Int.reduceGE, aggT_25, sizeT_25, bytesT_25, fieldT_25_0, fieldT_25_1, fieldT_25_2, fieldT_25_3, placesT_25, zeroT_25, aggT_23, sizeT_23, bytesT_23, und_23, elemT_23, zero1_23, zeroT_23, aggT_3, sizeT_3, bytesT_3, und_3, zero1_3, zeroT_3, aggT_4, sizeT_4, bytesT_4, und_4, zero1_4, zeroT_4, aggT_22, sizeT_22, bytesT_22, und_22, elemT_22, zero1_22, zeroT_22, aggT_9, sizeT_9, bytesT_9, und_9, zero1_9, zeroT_9, aggT_44, sizeT_44, bytesT_44, fieldT_44_0, fieldT_44_1, fieldT_44_2, fieldT_44_3, fieldT_44_4, placesT_44, zeroT_44, hi, h0, hil, ht, mapd_enc, callA_ptr, cpK_box, h26, callOut_pp]
  (refine Eq.trans ?_ rfl; kernel_rfl)
theorem caseP15 (u1 r1 k : Int) (c a : Cd) (hl0 : (0 : Int) < c.l.length) (ha : c.l[(0 : Int).toNat]? = some a) (ho : c.op = 9) (h25 : run Tryd.prog ext (.call 25 [cdV c, iV 0] []) = some (.ret [iV k] [])) (v : Value) (h24 : run Tryd.prog ext (.call 24 [.c (.ptr 0 0), cdV a, iV k] [M15 nd cd F u r]) = some (.pan v [M15 nd cd F u1 r1])) : H15 ext nd cd F u r c = some (.pan v [M15 nd cd F u1 r1]) := by
  unfold H15
  rw [show (It.code L15) = It.code (sub B15 [1, 0, 0]) from rfl]
  have z0 : (0 : Int) ≤ 0 := Int.le_refl _
  have z1 : (0 : Int) ≤ 1 := by decide
  simp only [M15, cdV, cdC, iV, lD_of_lt z0 hl0, ho] at h25 h24
  simp only [E15, M15, cdV, cdC, iV, zrow, List.map_cons, List.map_nil, lD_of_lt z0 hl0]
  simp only [B15, K15, sub, Option.getD_some, Tryd.f15, ↓reduceIte, Nat.one_ne_zero]
  simp (maxSteps := 3000000) only [zS, wantedA, opA, eff, boxA, cells, ev, gt, pt, putO, updO, setO, okC, loadA, cutC, fieldAddrA, fieldA, indexAddrA, indexA, builtinA, callOpA, callV, target, ptrV, lenS, binA, intOp, strOp, unA, num, lk, over, allocA, pickA, buildA, fillA, convertA, extractA, ofComp, nilCheckA, makeFuncA, ptrs, ofValue, cellB, Nat.reduceAdd, Nat.reduceSub, Nat.reduceMul, Nat.reduceLT, Nat.reduceLeDiff, Nat.reduceGT, ↓reduceIte, Nat.reduceEqDiff, Nat.reduceBEq, reduceCtorEq, Int.reduceBEq, Int.reduceBNe, Int.reduceLT, Int.reduceLE, Int.reduceGT, Int.reduceGE, aggT_25, sizeT_25, bytesT_25, fieldT_25_0, fieldT_25_1, fieldT_25_2, fieldT_25_3, placesT_25, zeroT_25, aggT_23, sizeT_23, bytesT_23, und_23, elemT_23, zero1_23, zeroT_23, aggT_3, sizeT_3, bytesT_3, und_3, zero1_3, zeroT_3, aggT_4, sizeT_4, bytesT_4, und_4, zero1_4, zeroT_4, drawA, holes_succ, holes_zero, Array.size, List.length, drawK_none, panK_some, panIx, drawP, befs, mask, ho, hl0, ha, z0, z1, mapd_enc, h25, callA_ptr, cpK_box, h24, callOut_pt, callOut_pp]
  (refine Eq.trans ?_ rfl; kernel_rfl)
theorem caseBad15 (u1 r1 k : Int) (c a : Cd) (hl0 : (0 : Int) < c.l.length) (ha : c.l[(0 : Int).toNat]? = some a) (ho : c.op = 9) (h25 : run Tryd.prog ext (.call 25 [cdV c, iV 0] []) = some (.ret [iV k] [])) (f : Cd) (h24 : run Tryd.prog ext (.call 24 [.c (.ptr 0 0), cdV a, iV k] [M15 nd cd F u r]) = some (.ret [cdV f] [M15 nd cd F u1 r1])) (hf : ¬ f.op = 8) : H15 ext nd cd F u r c = some (.pan (failedV 211) [M15 nd cd F u1 r1]) := by
  unfold H15
  rw [show (It.code L15) = It.code (sub B15 [1, 0, 0]) from rfl]
  have z0 : (0 : Int) ≤ 0 := Int.le_refl _
  have z1 : (0 : Int) ≤ 1 := by decide
  simp only [M15, cdV, cdC, iV, lD_of_lt z0 hl0, ho] at h25 h24
  simp only [E15, M15, cdV, cdC, iV, zrow, List.map_cons, List.map_nil, lD_of_lt z0 hl0]
  simp only [B15, K15, sub, Option.getD_some, Tryd.f15, ↓reduceIte, Nat.one_ne_zero]
  simp only [zS, wantedA, opA, eff, boxA, cells, ev, gt, pt, putO, updO, setO, okC, loadA, cutC, fieldAddrA, fieldA, indexAddrA, indexA, builtinA, callOpA, callV, target, ptrV, lenS, binA, intOp, strOp, unA, num, lk, over, allocA, pickA, buildA, fillA, convertA, extractA, ofComp, nilCheckA, makeFuncA, ptrs, ofValue, cellB, Nat.reduceAdd, Nat.reduceSub, Nat.reduceMul, Nat.reduceLT, Nat.reduceLeDiff, Nat.reduceGT, ↓reduceIte, Nat.reduceEqDiff, Nat.reduceBEq, reduceCtorEq, Int.reduceBEq, Int.reduceBNe, Int.reduceLT, Int.reduceLE, Int.reduceGT, Int.reduceGE, aggT_25, sizeT_25, bytesT_25, fieldT_25_0, fieldT_25_1, fieldT_25_2, fieldT_25_3, placesT_25, zeroT_25, aggT_23, sizeT_23, bytesT_23, und_23, elemT_23, zero1_23, zeroT_23, aggT_3, sizeT_3, bytesT_3, und_3, zero1_3, zeroT_3, aggT_4, sizeT_4, bytesT_4, und_4, zero1_4, zeroT_4, drawA, holes_succ, holes_zero, Array.size, List.length, ho, hl0, ha, z0, z1, mapd_enc, h25, callA_ptr, cpK_box, h24, callOut_pt]
  rw [afterDraw_some _ _ _ _ (by kernel_rfl)]
  simp only [zS, wantedA, opA, eff, boxA, cells, ev, gt, pt, putO, updO, setO, okC, loadA, cutC, fieldAddrA, fieldA, indexAddrA, indexA, builtinA, callOpA, callV, target, ptrV, lenS, binA, intOp, strOp, unA, num, lk, over, allocA, pickA, buildA, fillA, convertA, extractA, ofComp, nilCheckA, makeFuncA, ptrs, ofValue, cellB, Nat.reduceAdd, Nat.reduceSub, Nat.reduceMul, Nat.reduceLT, Nat.reduceLeDiff, Nat.reduceGT, ↓reduceIte, Nat.reduceEqDiff, Nat.reduceBEq, reduceCtorEq, Int.reduceBEq, Int.reduceBNe, Int.reduceLT, Int.reduceLE, Int.reduceGT, Int.reduceGE, aggT_25, sizeT_25, bytesT_25, fieldT_25_0, fieldT_25_1, fieldT_25_2, fieldT_25_3, placesT_25, zeroT_25, aggT_23, sizeT_23, bytesT_23, und_23, elemT_23, zero1_23, zeroT_23, aggT_3, sizeT_3, bytesT_3, und_3, zero1_3, zeroT_3, aggT_4, sizeT_4, bytesT_4, und_4, zero1_4, zeroT_4, aggT_53, sizeT_53, bytesT_53, fieldT_53_0, placesT_53, zeroT_53, ho, hf, mkI53, panicA_f]
  (refine Eq.trans ?_ rfl; kernel_rfl)
theorem caseBad2_15 (u1 r1 k : Int) (c a : Cd) (hl0 : (0 : Int) < c.l.length) (ha : c.l[(0 : Int).toNat]? = some a) (ho : c.op = 9) (h25 : run Tryd.prog ext (.call 25 [cdV c, iV 0] []) = some (.ret [iV k] [])) (f : Cd) (h24 : run Tryd.prog ext (.call 24 [.c (.ptr 0 0), cdV a, iV k] [M15 nd cd F u r]) = some (.ret [cdV f] [M15 nd cd F u1 r1])) (hf : f.op = 8) (hn : f.n ≥ wr ((c.l.length : Int) - 1)) : H15 ext nd cd F u r c = some (.pan (failedV 211) [M15 nd cd F u1 r1]) := by
  unfold H15
  rw [show (It.code L15) = It.code (sub B15 [1, 0, 0]) from rfl]
  have z0 : (0 : Int) ≤ 0 := Int.le_refl _
  have z1 : (0 : Int) ≤ 1 := by decide
  simp only [M15, cdV, cdC, iV, lD_of_lt z0 hl0, ho, hf] at h25 h24
  simp only [E15, M15, cdV, cdC, iV, zrow, List.map_cons, List.map_nil, lD_of_lt z0 hl0]
  simp only [B15, K15, sub, Option.getD_some, Tryd.f15, ↓reduceIte, Nat.one_ne_zero]
  simp only [zS, wantedA, opA, eff, boxA, cells, ev, gt, pt, putO, updO, setO, okC, loadA, cutC, fieldAddrA, fieldA, indexAddrA, indexA, builtinA, callOpA, callV, target, ptrV, lenS, binA, intOp, strOp, unA, num, lk, over, allocA, pickA, buildA, fillA, convertA, extractA, ofComp, nilCheckA, makeFuncA, ptrs, ofValue, cellB, Nat.reduceAdd, Nat.reduceSub, Nat.reduceMul, Nat.reduceLT, Nat.reduceLeDiff, Nat.reduceGT, ↓reduceIte, Nat.reduceEqDiff, Nat.reduceBEq, reduceCtorEq, Int.reduceBEq, Int.reduceBNe, Int.reduceLT, Int.reduceLE, Int.reduceGT, Int.reduceGE, aggT_25, sizeT_25, bytesT_25, fieldT_25_0, fieldT_25_1, fieldT_25_2, fieldT_25_3, placesT_25, zeroT_25, aggT_23, sizeT_23, bytesT_23, und_23, elemT_23, zero1_23, zeroT_23, aggT_3, sizeT_3, bytesT_3, und_3, zero1_3, zeroT_3, aggT_4, sizeT_4, bytesT_4, und_4, zero1_4, zeroT_4, drawA, holes_succ, holes_zero, Array.size, List.length, ho, hl0, ha, z0, z1, mapd_enc, h25, callA_ptr, cpK_box, h24, callOut_pt]
  rw [afterDraw_some _ _ _ _ (by kernel_rfl)]
  simp only [zS, wantedA, opA, eff, boxA, cells, ev, gt, pt, putO, updO, setO, okC, loadA, cutC, fieldAddrA, fieldA, indexAddrA, indexA, builtinA, callOpA, callV, target, ptrV, lenS, binA, intOp, strOp, unA, num, lk, over, allocA, pickA, buildA, fillA, convertA, extractA, ofComp, nilCheckA, makeFuncA, ptrs, ofValue, cellB, Nat.reduceAdd, Nat.reduceSub, Nat.reduceMul, Nat.reduceLT, Nat.reduceLeDiff, Nat.reduceGT, ↓reduceIte, Nat.reduceEqDiff, Nat.reduceBEq, reduceCtorEq, Int.reduceBEq, Int.reduceBNe, Int.reduceLT, Int.reduceLE, Int.reduceGT, Int.reduceGE, aggT_25, sizeT_25, bytesT_25, fieldT_25_0, fieldT_25_1, fieldT_25_2, fieldT_25_3, placesT_25, zeroT_25, aggT_23, sizeT_23, bytesT_23, und_23, elemT_23, zero1_23, zeroT_23, aggT_3, sizeT_3, bytesT_3, und_3, zero1_3, zeroT_3, aggT_4, sizeT_4, bytesT_4, und_4, zero1_4, zeroT_4, aggT_53, sizeT_53, bytesT_53, fieldT_53_0, placesT_53, zeroT_53, ho, hf, hn, mkI53, panicA_f]
  (refine Eq.trans ?_ rfl; kernel_rfl)
theorem case15 (u1 r1 k : Int) (c a : Cd) (hl0 : (0 : Int) < c.l.length) (ha : c.l[(0 : Int).toNat]? = some a) (ho : c.op = 9) (h25 : run Tryd.prog ext (.call 25 [cdV c, iV 0] []) = some (.ret [iV k] [])) (u2 r2 : Int) (out : Option Out) (f t : Cd) (h24 : run Tryd.prog ext (.call 24 [.c (.ptr 0 0), cdV a, iV k] [M15 nd cd F u r]) = some (.ret [cdV f] [M15 nd cd F u1 r1])) (hf : f.op = 8) (hn : ¬ f.n ≥ wr ((c.l.length : Int) - 1)) (h30 : run Tryd.prog ext (.call 30 [cdV c, cdV f] []) = some (.ret [cdV t] [])) (h26 : run Tryd.prog ext (.call 26 [.c (.ptr 0 0), cdV t] [M15 nd cd F u1 r1]) = some (.ret [cdV t] [M15 nd cd F u2 r2])) (h : H15 ext nd cd F u2 r2 t = out) : H15 ext nd cd F u r c = out := by
  unfold H15 at h ⊢
  rw [show (It.code L15) = It.code (sub B15 [1, 0, 0]) from rfl]
  have z0 : (0 : Int) ≤ 0 := Int.le_refl _
  have z1 : (0 : Int) ≤ 1 := by decide
  simp only [M15, cdV, cdC, iV, lD_of_lt z0 hl0, ho, hf] at h25 h24 h30 h26
  simp only [E15, M15, cdV, cdC, iV, zrow, List.map_cons, List.map_nil, lD_of_lt z0 hl0]
  simp only [B15, K15, sub, Option.getD_some, Tryd.f15, ↓reduceIte, Nat.one_ne_zero]
  simp only [zS, wantedA, opA, eff, boxA, cells, ev, gt, pt, putO, updO, setO, okC, loadA, cutC, fieldAddrA, fieldA, indexAddrA, indexA, builtinA, callOpA, callV, target, ptrV, lenS, binA, intOp, strOp, unA, num, lk, over, allocA, pickA, buildA, fillA, convertA, extractA, ofComp, nilCheckA, makeFuncA, ptrs, ofValue, cellB, Nat.reduceAdd, Nat.reduceSub, Nat.reduceMul, Nat.reduceLT, Nat.reduceLeDiff, Nat.reduceGT, ↓reduceIte, Nat.reduceEqDiff, Nat.reduceBEq, reduceCtorEq, Int.reduceBEq, Int.reduceBNe, Int.reduceLT, Int.reduceLE, Int.reduceGT, Int.reduceGE, aggT_25, sizeT_25, bytesT_25, fieldT_25_0, fieldT_25_1, fieldT_25_2, fieldT_25_3, placesT_25, zeroT_25, aggT_23, sizeT_23, bytesT_23, und_23, elemT_23, zero1_23, zeroT_23, aggT_3, sizeT_3, bytesT_3, und_3, zero1_3, zeroT_3, aggT_4, sizeT_4, bytesT_4, und_4, zero1_4, zeroT_4, drawA, holes_succ, holes_zero, Array.size, List.length, ho, hl0, ha, z0, z1, mapd_enc, h25, callA_ptr, cpK_box, h24, callOut_pt]
  rw [afterDraw_some _ _ _ _ (by kernel_rfl)]
  simp only [zS, wantedA, opA, eff, boxA, cells, ev, gt, pt, putO, updO, setO, okC, loadA, cutC, fieldAddrA, fieldA, indexAddrA, indexA, builtinA, callOpA, callV, target, ptrV, lenS, binA, intOp, strOp, unA, num, lk, over, allocA, pickA, buildA, fillA, convertA, extractA, ofComp, nilCheckA, makeFuncA, ptrs, ofValue, cellB, Nat.reduceAdd, Nat.reduceSub, Nat.reduceMul, Nat.reduceLT, Nat.reduceLeDiff, Nat.reduceGT, ↓reduceIte, Nat.reduceEqDiff, Nat.reduceBEq, reduceCtorEq, Int.reduceBEq, Int.reduceBNe, Int.reduceLT, Int.reduceLE, Int.reduceGT, Int.reduceGE, aggT_25, sizeT_25, bytesT_25, fieldT_25_0, fieldT_25_1, fieldT_25_2, fieldT_25_3, placesT_25, zeroT_25, aggT_23, sizeT_23, bytesT_23, und_23, elemT_23, zero1_23, zeroT_23, aggT_3, sizeT_3, bytesT_3, und_3, zero1_3, zeroT_3, aggT_4, sizeT_4, bytesT_4, und_4, zero1_4, zeroT_4, ho, hf, hn, h30, callA_ptr, cpK_box, h26, callOut_pt]
  refine (r_inLoop_some ?_).trans h
  kernel_rfl
theorem caseSP15 (u1 r1 k : Int) (c a : Cd) (hl0 : (0 : Int) < c.l.length) (ha : c.l[(0 : Int).toNat]? = some a) (ho : c.op = 9) (h25 : run Tryd.prog ext (.call 25 [cdV c, iV 0] []) = some (.ret [iV k] [])) (v : Value) (f t : Cd) (h24 : run Tryd.prog ext (.call 24 [.c (.ptr 0 0), cdV a, iV k] [M15 nd cd F u r]) = some (.ret [cdV f] [M15 nd cd F u1 r1])) (hf : f.op = 8) (hn : ¬ f.n ≥ wr ((c.l.length : Int) - 1)) (h30 : run Tryd.prog ext (.call 30 [cdV c, cdV f] []) = some (.ret [cdV t] [])) (h26 : run Tryd.prog ext (.call 26 [.c (.ptr 0 0), cdV t] [M15 nd cd F u1 r1]) = some (.pan v [M15 nd cd F u1 r1])) : H15 ext nd cd F u r c = some (.pan v [M15 nd cd F u1 r1]) := by
  unfold H15
  rw [show (It.code L15) = It.code (sub B15 [1, 0, 0]) from rfl]
  have z0 : (0 : Int) ≤ 0 := Int.le_refl _
  have z1 : (0 : Int) ≤ 1 := by decide
  simp only [M15, cdV, cdC, iV, lD_of_lt z0 hl0, ho, hf] at h25 h24 h30 h26
  simp only [E15, M15, cdV, cdC, iV, zrow, List.map_cons, List.map_nil, lD_of_lt z0 hl0]
  simp only [B15, K15, sub, Option.getD_some, Tryd.f15, ↓reduceIte, Nat.one_ne_zero]
  simp only [zS, wantedA, opA, eff, boxA, cells, ev, gt, pt, putO, updO, setO, okC, loadA, cutC, fieldAddrA, fieldA, indexAddrA, indexA, builtinA, callOpA, callV, target, ptrV, lenS, binA, intOp, strOp, unA, num, lk, over, allocA, pickA, buildA, fillA, convertA, extractA, ofComp, nilCheckA, makeFuncA, ptrs, ofValue, cellB, Nat.reduceAdd, Nat.reduceSub, Nat.reduceMul, Nat.reduceLT, Nat.reduceLeDiff, Nat.reduceGT, ↓reduceIte, Nat.reduceEqDiff, Nat.reduceBEq, reduceCtorEq, Int.reduceBEq, Int.reduceBNe, Int.reduceLT, Int.reduceLE, Int.reduceGT, Int.reduceGE, aggT_25, sizeT_25, bytesT_25, fieldT_25_0, fieldT_25_1, fieldT_25_2, fieldT_25_3, placesT_25, zeroT_25, aggT_23, sizeT_23, bytesT_23, und_23, elemT_23, zero1_23, zeroT_23, aggT_3, sizeT_3, bytesT_3, und_3, zero1_3, zeroT_3, aggT_4, sizeT_4, bytesT_4, und_4, zero1_4, zeroT_4, drawA, holes_succ, holes_zero, Array.size, List.length, ho, hl0, ha, z0, z1, mapd_enc, h25, callA_ptr, cpK_box, h24, callOut_pt]
  rw [afterDraw_some _ _ _ _ (by kernel_rfl)]
  simp only [zS, wantedA, opA, eff, boxA, cells, ev, gt, pt, putO, updO, setO, okC, loadA, cutC, fieldAddrA, fieldA, indexAddrA, indexA, builtinA, callOpA, callV, target, ptrV, lenS, binA, intOp, strOp, unA, num, lk, over, allocA, pickA, buildA, fillA, convertA, extractA, ofComp, nilCheckA, makeFuncA, ptrs, ofValue, cellB, Nat.reduceAdd, Nat.reduceSub, Nat.reduceMul, Nat.reduceLT, Nat.reduceLeDiff, Nat.reduceGT, ↓reduceIte, Nat.reduceEqDiff, Nat.reduceBEq, reduceCtorEq, Int.reduceBEq, Int.reduceBNe, Int.reduceLT, Int.reduceLE, Int.reduceGT, Int.reduceGE, aggT_25, sizeT_25, bytesT_25, fieldT_25_0, fieldT_25_1, fieldT_25_2, fieldT_25_3, placesT_25, zeroT_25, aggT_23, sizeT_23, bytesT_23, und_23, elemT_23, zero1_23, zeroT_23, aggT_3, sizeT_3, bytesT_3, und_3, zero1_3, zeroT_3, aggT_4, sizeT_4, bytesT_4, und_4, zero1_4, zeroT_4, ho, hf, hn, h30, callA_ptr, cpK_box, h26, callOut_pp]
  (refine Eq.trans ?_ rfl; kernel_rfl)
theorem fixP15 (u1 r1 k : Int) (c a : Cd) (hl0 : (0 : Int) < c.l.length) (ha : c.l[(0 : Int).toNat]? = some a) (ho : c.op = 11) (h25 : run Tryd.prog ext (.call 25 [cdV c, iV 0] []) = some (.ret [iV k] [])) (v : Value) (h24 : run Tryd.prog ext (.call 24 [.c (.ptr 0 0), cdV a, iV k] [M15 nd cd F u r]) = some (.pan v [M15 nd cd F u1 r1])) : H15 ext nd cd F u r c = some (.pan v [M15 nd cd F u1 r1]) := by
  unfold H15
  rw [show (It.code L15) = It.code (sub B15 [1, 0, 0]) from rfl]
  have z0 : (0 : Int) ≤ 0 := Int.le_refl _
  have z1 : (0 : Int) ≤ 1 := by decide
  simp only [M15, cdV, cdC, iV, lD_of_lt z0 hl0, ho] at h25 h24
  simp only [E15, M15, cdV, cdC, iV, zrow, List.map_cons, List.map_nil, lD_of_lt z0 hl0]
  simp only [B15, K15, sub, Option.getD_some, Tryd.f15, ↓reduceIte, Nat.one_ne_zero]
  simp (maxSteps := 3000000) only [zS, wantedA, opA, eff, boxA, cells, ev, gt, pt, putO, updO, setO, okC, loadA, cutC, fieldAddrA, fieldA, indexAddrA, indexA, builtinA, callOpA, callV, target, ptrV, lenS, binA, intOp, strOp, unA, num, lk, over, allocA, pickA, buildA, fillA, convertA, extractA, ofComp, nilCheckA, makeFuncA, ptrs, ofValue, cellB, Nat.reduceAdd, Nat.reduceSub, Nat.reduceMul, Nat.reduceLT, Nat.reduceLeDiff, Nat.reduceGT, ↓reduceIte, Nat.reduceEqDiff, Nat.reduceBEq, reduceCtorEq, Int.reduceBEq, Int.reduceBNe, Int.reduceLT, Int.reduceLE, Int.reduceGT, Int.reduceGE, aggT_25, sizeT_25, bytesT_25, fieldT_25_0, fieldT_25_1, fieldT_25_2, fieldT_25_3, placesT_25, zeroT_25, aggT_23, sizeT_23, bytesT_23, und_23, elemT_23, zero1_23, zeroT_23, aggT_3, sizeT_3, bytesT_3, und_3, zero1_3, zeroT_3, aggT_4, sizeT_4, bytesT_4, und_4, zero1_4, zeroT_4, drawA, holes_succ, holes_zero, Array.size, List.length, drawK_none, panK_some, panIx, drawP, befs, mask, ho, hl0, ha, z0, z1, mapd_enc, h25, callA_ptr, cpK_box, h24, callOut_pt, callOut_pp]
  (refine Eq.trans ?_ rfl; kernel_rfl)
theorem fixBad15 (u1 r1 k : Int) (c a : Cd) (hl0 : (0 : Int) < c.l.length) (ha : c.l[(0 : Int).toNat]? = some a) (ho : c.op = 11) (h25 : run Tryd.prog ext (.call 25 [cdV c, iV 0] []) = some (.ret [iV k] [])) (f : Cd) (h24 : run Tryd.prog ext (.call 24 [.c (.ptr 0 0), cdV a, iV k] [M15 nd cd F u r]) = some (.ret [cdV f] [M15 nd cd F u1 r1])) (hf : ¬ f.op = 8) : H15 ext nd cd F u r c = some (.pan (failedV 211) [M15 nd cd F u1 r1]) := by
  unfold H15
  rw [show (It.code L15) = It.code (sub B15 [1, 0, 0]) from rfl]
  have z0 : (0 : Int) ≤ 0 := Int.le_refl _
  have z1 : (0 : Int) ≤ 1 := by decide
  simp only [M15, cdV, cdC, iV, lD_of_lt z0 hl0, ho] at h25 h24
  simp only [E15, M15, cdV, cdC, iV, zrow, List.map_cons, List.map_nil, lD_of_lt z0 hl0]
  simp only [B15, K15, sub, Option.getD_some, Tryd.f15, ↓reduceIte, Nat.one_ne_zero]
  simp only [zS, wantedA, opA, eff, boxA, cells, ev, gt, pt, putO, updO, setO, okC, loadA, cutC, fieldAddrA, fieldA, indexAddrA, indexA, builtinA, callOpA, callV, target, ptrV, lenS, binA, intOp, strOp, unA, num, lk, over, allocA, pickA, buildA, fillA, convertA, extractA, ofComp, nilCheckA, makeFuncA, ptrs, ofValue, cellB, Nat.reduceAdd, Nat.reduceSub, Nat.reduceMul, Nat.reduceLT, Nat.reduceLeDiff, Nat.reduceGT, ↓reduceIte, Nat.reduceEqDiff, Nat.reduceBEq, reduceCtorEq, Int.reduceBEq, Int.reduceBNe, Int.reduceLT, Int.reduceLE, Int.reduceGT, Int.reduceGE, aggT_25, sizeT_25, bytesT_25, fieldT_25_0, fieldT_25_1, fieldT_25_2, fieldT_25_3, placesT_25, zeroT_25, aggT_23, sizeT_23, bytesT_23, und_23, elemT_23, zero1_23, zeroT_23, aggT_3, sizeT_3, bytesT_3, und_3, zero1_3, zeroT_3, aggT_4, sizeT_4, bytesT_4, und_4, zero1_4, zeroT_4, drawA, holes_succ, holes_zero, Array.size, List.length, ho, hl0, ha, z0, z1, mapd_enc, h25, callA_ptr, cpK_box, h24, callOut_pt]
  rw [afterDraw_some _ _ _ _ (by kernel_rfl)]
  simp only [zS, wantedA, opA, eff, boxA, cells, ev, gt, pt, putO, updO, setO, okC, loadA, cutC, fieldAddrA, fieldA, indexAddrA, indexA, builtinA, callOpA, callV, target, ptrV, lenS, binA, intOp, strOp, unA, num, lk, over, allocA, pickA, buildA, fillA, convertA, extractA, ofComp, nilCheckA, makeFuncA, ptrs, ofValue, cellB, Nat.reduceAdd, Nat.reduceSub, Nat.reduceMul, Nat.reduceLT, Nat.reduceLeDiff, Nat.reduceGT, ↓reduceIte, Nat.reduceEqDiff, Nat.reduceBEq, reduceCtorEq, Int.reduceBEq, Int.reduceBNe, Int.reduceLT, Int.reduceLE, Int.reduceGT, Int.reduceGE, aggT_25, sizeT_25, bytesT_25, fieldT_25_0, fieldT_25_1, fieldT_25_2, fieldT_25_3, placesT_25, zeroT_25, aggT_23, sizeT_23, bytesT_23, und_23, elemT_23, zero1_23, zeroT_23, aggT_3, sizeT_3, bytesT_3, und_3, zero1_3, zeroT_3, aggT_4, sizeT_4, bytesT_4, und_4, zero1_4, zeroT_4, aggT_53, sizeT_53, bytesT_53, fieldT_53_0, placesT_53, zeroT_53, ho, hf, mkI53, panicA_f]
  (refine Eq.trans ?_ rfl; kernel_rfl)
theorem fixBad2_15 (u1 r1 k : Int) (c a : Cd) (hl0 : (0 : Int) < c.l.length) (ha : c.l[(0 : Int).toNat]? = some a) (ho : c.op = 11) (h25 : run Tryd.prog ext (.call 25 [cdV c, iV 0] []) = some (.ret [iV k] [])) (f : Cd) (h24 : run Tryd.prog ext (.call 24 [.c (.ptr 0 0), cdV a, iV k] [M15 nd cd F u r]) = some (.ret [cdV f] [M15 nd cd F u1 r1])) (hf : f.op = 8) (hn : f.n ≥ wr ((c.l.length : Int) - 1)) : H15 ext nd cd F u r c = some (.pan (failedV 211) [M15 nd cd F u1 r1]) := by
  unfold H15
  rw [show (It.code L15) = It.code (sub B15 [1, 0, 0]) from rfl]
  have z0 : (0 : Int) ≤ 0 := Int.le_refl _
  have z1 : (0 : Int) ≤ 1 := by decide
  simp only [M15, cdV, cdC, iV, lD_of_lt z0 hl0, ho, hf] at h25 h24
  simp only [E15, M15, cdV, cdC, iV, zrow, List.map_cons, List.map_nil, lD_of_lt z0 hl0]
  simp only [B15, K15, sub, Option.getD_some, Tryd.f15, ↓reduceIte, Nat.one_ne_zero]
  simp only [zS, wantedA, opA, eff, boxA, cells, ev, gt, pt, putO, updO, setO, okC, loadA, cutC, fieldAddrA, fieldA, indexAddrA, indexA, builtinA, callOpA, callV, target, ptrV, lenS, binA, intOp, strOp, unA, num, lk, over, allocA, pickA, buildA, fillA, convertA, extractA, ofComp, nilCheckA, makeFuncA, ptrs, ofValue, cellB, Nat.reduceAdd, Nat.reduceSub, Nat.reduceMul, Nat.reduceLT, Nat.reduceLeDiff, Nat.reduceGT, ↓reduceIte, Nat.reduceEqDiff, Nat.reduceBEq, reduceCtorEq, Int.reduceBEq, Int.reduceBNe, Int.reduceLT, Int.reduceLE, Int.reduceGT, Int.reduceGE, aggT_25, sizeT_25, bytesT_25, fieldT_25_0, fieldT_25_1, fieldT_25_2, fieldT_25_3, placesT_25, zeroT_25, aggT_23, sizeT_23, bytesT_23, und_23, elemT_23, zero1_23, zeroT_23, aggT_3, sizeT_3, bytesT_3, und_3, zero1_3, zeroT_3, aggT_4, sizeT_4, bytesT_4, und_4, zero1_4, zeroT_4, drawA, holes_succ, holes_zero, Array.size, List.length, ho, hl0, ha, z0, z1, mapd_enc, h25, callA_ptr, cpK_box, h24, callOut_pt]
  rw [afterDraw_some _ _ _ _ (by kernel_rfl)]
  simp only [zS, wantedA, opA, eff, boxA, cells, ev, gt, pt, putO, updO, setO, okC, loadA, cutC, fieldAddrA, fieldA, indexAddrA, indexA, builtinA, callOpA, callV, target, ptrV, lenS, binA, intOp, strOp, unA, num, lk, over, allocA, pickA, buildA, fillA, convertA, extractA, ofComp, nilCheckA, makeFuncA, ptrs, ofValue, cellB, Nat.reduceAdd, Nat.reduceSub, Nat.reduceMul, Nat.reduceLT, Nat.reduceLeDiff, Nat.reduceGT, ↓reduceIte, Nat.reduceEqDiff, Nat.reduceBEq, reduceCtorEq, Int.reduceBEq, Int.reduceBNe, Int.reduceLT, Int.reduceLE, Int.reduceGT, Int.reduceGE, aggT_25, sizeT_25, bytesT_25, fieldT_25_0, fieldT_25_1, fieldT_25_2, fieldT_25_3, placesT_25, zeroT_25, aggT_23, sizeT_23, bytesT_23, und_23, elemT_23, zero1_23, zeroT_23, aggT_3, sizeT_3, bytesT_3, und_3, zero1_3, zeroT_3, aggT_4, sizeT_4, bytesT_4, und_4, zero1_4, zeroT_4, aggT_53, sizeT_53, bytesT_53, fieldT_53_0, placesT_53, zeroT_53, ho, hf, hn, mkI53, panicA_f]
  (refine Eq.trans ?_ rfl; kernel_rfl)
theorem fix15 (u1 r1 k : Int) (c a : Cd) (hl0 : (0 : Int) < c.l.length) (ha : c.l[(0 : Int).toNat]? = some a) (ho : c.op = 11) (h25 : run Tryd.prog ext (.call 25 [cdV c, iV 0] []) = some (.ret [iV k] [])) (u2 r2 : Int) (out : Option Out) (f t : Cd) (h24 : run Tryd.prog ext (.call 24 [.c (.ptr 0 0), cdV a, iV k] [M15 nd cd F u r]) = some (.ret [cdV f] [M15 nd cd F u1 r1])) (hf : f.op = 8) (hn : ¬ f.n ≥ wr ((c.l.length : Int) - 1)) (h30 : run Tryd.prog ext (.call 30 [cdV c, cdV f] []) = some (.ret [cdV t] [])) (h26 : run Tryd.prog ext (.call 26 [.c (.ptr 0 0), cdV t] [M15 nd cd F u1 r1]) = some (.ret [cdV t] [M15 nd cd F u2 r2])) (h : H15 ext nd cd F u2 r2 t = out) : H15 ext nd cd F u r c = out := by
  unfold H15 at h ⊢
  rw [show (It.code L15) = It.code (sub B15 [1, 0, 0]) from rfl]
  have z0 : (0 : Int) ≤ 0 := Int.le_refl _
  have z1 : (0 : Int) ≤ 1 := by decide
  simp only [M15, cdV, cdC, iV, lD_of_lt z0 hl0, ho, hf] at h25 h24 h30 h26
  simp only [E15, M15, cdV, cdC, iV, zrow, List.map_cons, List.map_nil, lD_of_lt z0 hl0]
  simp only [B15, K15, sub, Option.getD_some, Tryd.f15, ↓reduceIte, Nat.one_ne_zero]
  simp only [zS, wantedA, opA, eff, boxA, cells, ev, gt, pt, putO, updO, setO, okC, loadA, cutC, fieldAddrA, fieldA, indexAddrA, indexA, builtinA, callOpA, callV, target, ptrV, lenS, binA, intOp, strOp, unA, num, lk, over, allocA, pickA, buildA, fillA, convertA, extractA, ofComp, nilCheckA, makeFuncA, ptrs, ofValue, cellB, Nat.reduceAdd, Nat.reduceSub, Nat.reduceMul, Nat.reduceLT, Nat.reduceLeDiff, Nat.reduceGT, ↓reduceIte, Nat.reduceEqDiff, Nat.reduceBEq, reduceCtorEq, Int.reduceBEq, Int.reduceBNe, Int.reduceLT, Int.reduceLE, Int.reduceGT, Int.reduceGE, aggT_25, sizeT_25, bytesT_25, fieldT_25_0, fieldT_25_1, fieldT_25_2, fieldT_25_3, placesT_25, zeroT_25, aggT_23, sizeT_23, bytesT_23, und_23, elemT_23, zero1_23, zeroT_23, aggT_3, sizeT_3, bytesT_3, und_3, zero1_3, zeroT_3, aggT_4, sizeT_4, bytesT_4, und_4, zero1_4, zeroT_4, drawA, holes_succ, holes_zero, Array.size, List.length, ho, hl0, ha, z0, z1, mapd_enc, h25, callA_ptr, cpK_box, h24, callOut_pt]
  rw [afterDraw_some _ _ _ _ (by kernel_rfl)]
  simp only [zS, wantedA, opA, eff, boxA, cells, ev, gt, pt, putO, updO, setO, okC, loadA, cutC, fieldAddrA, fieldA, indexAddrA, indexA, builtinA, callOpA, callV, target, ptrV, lenS, binA, intOp, strOp, unA, num, lk, over, allocA, pickA, buildA, fillA, convertA, extractA, ofComp, nilCheckA, makeFuncA, ptrs, ofValue, cellB, Nat.reduceAdd, Nat.reduceSub, Nat.reduceMul, Nat.reduceLT, Nat.reduceLeDiff, Nat.reduceGT, ↓reduceIte, Nat.reduceEqDiff, Nat.reduceBEq, reduceCtorEq, Int.reduceBEq, Int.reduceBNe, Int.reduceLT, Int.reduceLE, Int.reduceGT, Int.reduceGE, aggT_25, sizeT_25, bytesT_25, fieldT_25_0, fieldT_25_1, fieldT_25_2, fieldT_25_3, placesT_25, zeroT_25, aggT_23, sizeT_23, bytesT_23, und_23, elemT_23, zero1_23, zeroT_23, aggT_3, sizeT_3, bytesT_3, und_3, zero1_3, zeroT_3, aggT_4, sizeT_4, bytesT_4, und_4, zero1_4, zeroT_4, ho, hf, hn, h30, callA_ptr, cpK_box, h26, callOut_pt]
  refine (r_inLoop_some ?_).trans h
  kernel_rfl
theorem fixSP15 (u1 r1 k : Int) (c a : Cd) (hl0 : (0 : Int) < c.l.length) (ha : c.l[(0 : Int).toNat]? = some a) (ho : c.op = 11) (h25 : run Tryd.prog ext (.call 25 [cdV c, iV 0] []) = some (.ret [iV k] [])) (v : Value) (f t : Cd) (h24 : run Tryd.prog ext (.call 24 [.c (.ptr 0 0), cdV a, iV k] [M15 nd cd F u r]) = some (.ret [cdV f] [M15 nd cd F u1 r1])) (hf : f.op = 8) (hn : ¬ f.n ≥ wr ((c.l.length : Int) - 1)) (h30 : run Tryd.prog ext (.call 30 [cdV c, cdV f] []) = some (.ret [cdV t] [])) (h26 : run Tryd.prog ext (.call 26 [.c (.ptr 0 0), cdV t] [M15 nd cd F u1 r1]) = some (.pan v [M15 nd cd F u1 r1])) : H15 ext nd cd F u r c = some (.pan v [M15 nd cd F u1 r1]) := by
  unfold H15
  rw [show (It.code L15) = It.code (sub B15 [1, 0, 0]) from rfl]
  have z0 : (0 : Int) ≤ 0 := Int.le_refl _
  have z1 : (0 : Int) ≤ 1 := by decide
  simp only [M15, cdV, cdC, iV, lD_of_lt z0 hl0, ho, hf] at h25 h24 h30 h26
  simp only [E15, M15, cdV, cdC, iV, zrow, List.map_cons, List.map_nil, lD_of_lt z0 hl0]
  simp only [B15, K15, sub, Option.getD_some, Tryd.f15, ↓reduceIte, Nat.one_ne_zero]
  simp only [zS, wantedA, opA, eff, boxA, cells, ev, gt, pt, putO, updO, setO, okC, loadA, cutC, fieldAddrA, fieldA, indexAddrA, indexA, builtinA, callOpA, callV, target, ptrV, lenS, binA, intOp, strOp, unA, num, lk, over, allocA, pickA, buildA, fillA, convertA, extractA, ofComp, nilCheckA, makeFuncA, ptrs, ofValue, cellB, Nat.reduceAdd, Nat.reduceSub, Nat.reduceMul, Nat.reduceLT, Nat.reduceLeDiff, Nat.reduceGT, ↓reduceIte, Nat.reduceEqDiff, Nat.reduceBEq, reduceCtorEq, Int.reduceBEq, Int.reduceBNe, Int.reduceLT, Int.reduceLE, Int.reduceGT, Int.reduceGE, aggT_25, sizeT_25, bytesT_25, fieldT_25_0, fieldT_25_1, fieldT_25_2, fieldT_25_3, placesT_25, zeroT_25, aggT_23, sizeT_23, bytesT_23, und_23, elemT_23, zero1_23, zeroT_23, aggT_3, sizeT_3, bytesT_3, und_3, zero1_3, zeroT_3, aggT_4, sizeT_4, bytesT_4, und_4, zero1_4, zeroT_4, drawA, holes_succ, holes_zero, Array.size, List.length, ho, hl0, ha, z0, z1, mapd_enc, h25, callA_ptr, cpK_box, h24, callOut_pt]
  rw [afterDraw_some _ _ _ _ (by kernel_rfl)]
  simp only [zS, wantedA, opA, eff, boxA, cells, ev, gt, pt, putO, updO, setO, okC, loadA, cutC, fieldAddrA, fieldA, indexAddrA, indexA, builtinA, callOpA, callV, target, ptrV, lenS, binA, intOp, strOp, unA, num, lk, over, allocA, pickA, buildA, fillA, convertA, extractA, ofComp, nilCheckA, makeFuncA, ptrs, ofValue, cellB, Nat.reduceAdd, Nat.reduceSub, Nat.reduceMul, Nat.reduceLT, Nat.reduceLeDiff, Nat.reduceGT, ↓reduceIte, Nat.reduceEqDiff, Nat.reduceBEq, reduceCtorEq, Int.reduceBEq, Int.reduceBNe, Int.reduceLT, Int.reduceLE, Int.reduceGT, Int.reduceGE, aggT_25, sizeT_25, bytesT_25, fieldT_25_0, fieldT_25_1, fieldT_25_2, fieldT_25_3, placesT_25, zeroT_25, aggT_23, sizeT_23, bytesT_23, und_23, elemT_23, zero1_23, zeroT_23, aggT_3, sizeT_3, bytesT_3, und_3, zero1_3, zeroT_3, aggT_4, sizeT_4, bytesT_4, und_4, zero1_4, zeroT_4, ho, hf, hn, h30, callA_ptr, cpK_box, h26, callOut_pp]
  (refine Eq.trans ?_ rfl; kernel_rfl)
end Go.Proofs.YtmjacokkgfophaaDoor.Am
end
section
/- The head machine: it comes to an end, and more fuel changes nothing but that it is too little. -/
namespace Go.Proofs.YtmjacokkgfophaaDoor.Am
open Go
/-- What the functions that are replaced are. -/
structure Ex (ext : Ext) : Prop where
  no : ∀ f, f ≠ 13 → f ≠ 80 → f ≠ 87 → ext f = none
  h80 : ext 80 = some nat80
  h87 : ext 87 = some nat87
theorem Ex.at {ext : Ext} (h : Ex ext) (f : Nat) (h1 : (f != 13 && f != 80 && f != 87) = true) : ext f = none := by
  simp at h1
  exact h.no f h1.1.1 h1.1.2 h1.2
theorem Ex.plain {ext : Ext} (h : Ex ext) : Plain ext := ⟨h.at 28 rfl, h.at 44 rfl, h.at 45 rfl, h.at 46 rfl, h.at 47 rfl⟩
inductive Res where
  | ok (y : Cd) (u : Nat)
  | err (e : Int) (u r : Nat)
def notFuel : Res → Prop
  | .ok _ _ => True
  | .err e _ _ => e ≠ 5
section
variable (ext : Ext) (nd cd : D)
noncomputable def Runs15 (F u r : Nat) (c : Cd) : Res → Prop
  | .ok y u' => H15 ext nd cd F u r c = some (.ret [cdV y] [M15 nd cd F u' r])
  | .err e u' r' => H15 ext nd cd F u r c = some (.pan (failedV e) [M15 nd cd F u' r'])
def Good15 (F u r : Nat) : Res → Prop
  | .ok y u' => u ≤ u' ∧ u' ≤ F ∧ WF ext y ∧ y.size + r ≤ 1048576
  | .err _ u' _ => u' ≤ F
def C15 (F u r : Nat) (c : Cd) : Prop :=
  ∃ o, Runs15 ext nd cd F u r c o ∧ Good15 ext F u r o ∧ (notFuel o → ∀ F', F ≤ F' → F' ≤ 200000 → Runs15 ext nd cd F' u r c o)
variable {ext nd cd}
theorem in24_ok (hE : Ex ext) {F u r k u' : Nat} {a y : Cd} (h : H15 ext nd cd F u (r + k : Nat) a = some (.ret [cdV y] [M15 nd cd F u' (r + k : Nat)])) (hb : r + k < 2 ^ 60) :
    run Tryd.prog ext (.call 24 [.c (.ptr 0 0), cdV a, iV k] [M15 nd cd F u r]) = some (.ret [cdV y] [M15 nd cd F u' r]) := by
  have e : wr ((r : Int) + k) = (r + k : Nat) := by rw [wr_id (by omega) (by omega)]; omega
  have h1 := enter15 ext nd cd F u (r + k : Nat) (hE.at 15 rfl) a _ h
  have h2 := ok24 ext (hE.at 24 rfl) nd cd F u r k u' (r + k : Nat) a y (by rw [e]; exact h1)
  rw [show wr (((r + k : Nat) : Int) - k) = r by rw [wr_id (by omega) (by omega)]; omega] at h2
  exact h2
theorem in24_pan (hE : Ex ext) {F u r k u' r' : Nat} {a : Cd} {v : Value} (h : H15 ext nd cd F u (r + k : Nat) a = some (.pan v [M15 nd cd F u' r'])) (hb : r + k < 2 ^ 60) :
    run Tryd.prog ext (.call 24 [.c (.ptr 0 0), cdV a, iV k] [M15 nd cd F u r]) = some (.pan v [M15 nd cd F u' r']) := by
  have e : wr ((r : Int) + k) = (r + k : Nat) := by rw [wr_id (by omega) (by omega)]; omega
  have h1 := enter15 ext nd cd F u (r + k : Nat) (hE.at 15 rfl) a _ h
  exact pan24 ext (hE.at 24 rfl) nd cd F u r k u' r' a v (by rw [e]; exact h1)
/-- Where a step to t leads. -/
def Next (ext : Ext) (nd cd : D) (F u r : Nat) (c : Cd) (u1 : Nat) (t : Cd) : Prop :=
  (∀ (u2 r2 : Int) (out : Option Out), run Tryd.prog ext (.call 26 [.c (.ptr 0 0), cdV t] [M15 nd cd F u1 r]) = some (.ret [cdV t] [M15 nd cd F u2 r2]) → H15 ext nd cd F u2 r2 t = out → H15 ext nd cd F u r c = out) ∧
  (∀ v, run Tryd.prog ext (.call 26 [.c (.ptr 0 0), cdV t] [M15 nd cd F u1 r]) = some (.pan v [M15 nd cd F u1 r]) → H15 ext nd cd F u r c = some (.pan v [M15 nd cd F u1 r]))
theorem go15 (hE : Ex ext) {F u r u1 : Nat} {c t : Cd} (hF : F ≤ 200000) (hr : r ≤ 1048576) (hu : u ≤ u1) (hu1 : u1 ≤ F) (hw : WF ext t) (hs : t.size < 2 ^ 60)
    (hn : ∀ F', F ≤ F' → F' ≤ 200000 → Next ext nd cd F' u r c u1 t) (ih : u1 < F → t.size + r ≤ 1048576 → t.size ≤ 200000 → C15 ext nd cd F (u1 + 1) r t) : C15 ext nd cd F u r c := by
  by_cases h1 : u1 < F
  · obtain ⟨b, g1, g2⟩ := few43 ext (hE.at 43 rfl) (hE.at 56 rfl) (hE.at 57 rfl) (hE.at 38 rfl) (hE.at 54 rfl) t (wr (200000 - r)) (by omega)
    cases b with
    | false =>
      have := big26 ext (hE.at 26 rfl) nd cd F u1 r t (by omega) g1
      exact ⟨.err 5 u1 r, (hn F (Nat.le_refl _) hF).2 _ this, hu1, fun h => absurd rfl h⟩
    | true =>
      have hsz := g2 rfl
      rw [wr_id (by omega) (by omega)] at hsz
      have hst : ∀ F' : Nat, F ≤ F' → F' ≤ 200000 → run Tryd.prog ext (.call 26 [.c (.ptr 0 0), cdV t] [M15 nd cd F' u1 r]) = some (.ret [cdV t] [M15 nd cd F' (u1 + 1 : Nat) r]) := by
        intro F' h2 h3
        have := ok26 ext (hE.at 26 rfl) nd cd F' u1 r t (by omega) g1
        rw [wr_id (by omega) (by omega)] at this
        exact this
      obtain ⟨o, k1, k2, k3⟩ := ih h1 (by omega) (by omega)
      refine ⟨o, ?_, ?_, fun hnf F' h2 h3 => ?_⟩
      · cases o with
        | ok y u' => exact (hn F (Nat.le_refl _) hF).1 _ _ _ (hst F (Nat.le_refl _) hF) k1
        | err e u' r' => exact (hn F (Nat.le_refl _) hF).1 _ _ _ (hst F (Nat.le_refl _) hF) k1
      · cases o with
        | ok y u' => obtain ⟨a1, a2, a3, a4⟩ := k2; exact ⟨by omega, a2, a3, a4⟩
        | err e u' r' => exact k2
      · cases o with
        | ok y u' => exact (hn F' h2 h3).1 _ _ _ (hst F' h2 h3) (k3 hnf F' h2 h3)
        | err e u' r' => exact (hn F' h2 h3).1 _ _ _ (hst F' h2 h3) (k3 hnf F' h2 h3)
  · have := fuel26 ext (hE.at 26 rfl) nd cd F u1 r t (by omega)
    exact ⟨.err 5 u1 r, (hn F (Nat.le_refl _) hF).2 _ this, hu1, fun h => absurd rfl h⟩
/-- Where a part is brought to its head first. -/
theorem inner15 (hE : Ex ext) {F u r k : Nat} {c a : Cd} (hF : F ≤ 200000) (hb : r + k < 2 ^ 60) (ih : C15 ext nd cd F u (r + k) a)
    (hp : ∀ (F' u1 r1 : Nat) (v : Value), run Tryd.prog ext (.call 24 [.c (.ptr 0 0), cdV a, iV k] [M15 nd cd F' u r]) = some (.pan v [M15 nd cd F' u1 r1]) → H15 ext nd cd F' u r c = some (.pan v [M15 nd cd F' u1 r1]))
    (hg : ∀ (y : Cd) (u1 : Nat), u ≤ u1 → u1 ≤ F → WF ext y → y.size + (r + k) ≤ 1048576 → (∀ F', F ≤ F' → F' ≤ 200000 → run Tryd.prog ext (.call 24 [.c (.ptr 0 0), cdV a, iV k] [M15 nd cd F' u r]) = some (.ret [cdV y] [M15 nd cd F' u1 r])) → C15 ext nd cd F u r c) : C15 ext nd cd F u r c := by
  obtain ⟨o, h1, h2, h3⟩ := ih
  cases o with
  | err e u' r' => exact ⟨.err e u' r', hp F u' r' _ (in24_pan hE h1 hb), h2, fun hnf F' h4 h5 => hp F' u' r' _ (in24_pan hE (h3 hnf F' h4 h5) hb)⟩
  | ok y u' =>
    obtain ⟨a1, a2, a3, a4⟩ := h2
    exact hg y u' a1 a2 a3 a4 fun F' h4 h5 => in24_ok hE (h3 trivial F' h4 h5) hb
theorem bad_of {F u r u1 : Nat} {c : Cd} (hF : F ≤ 200000) (hu1 : u1 ≤ F) (h : ∀ F', F ≤ F' → F' ≤ 200000 → H15 ext nd cd F' u r c = some (.pan (failedV 211) [M15 nd cd F' u1 r])) : C15 ext nd cd F u r c :=
  ⟨.err 211 u1 r, h F (Nat.le_refl _) hF, hu1, fun _ F' h1 h2 => h F' h1 h2⟩
end
end Go.Proofs.YtmjacokkgfophaaDoor.Am
end
section
/- The head machine: the induction. -/
namespace Go.Proofs.YtmjacokkgfophaaDoor.Am
open Go
theorem others_from {l : List Cd} : ∀ k : Nat, 1 ≤ k → othersSum l k 0 = (l.map Cd.size).sum := by
  induction l with
  | nil => intro k _; rfl
  | cons a r ih =>
    intro k hk
    simp only [othersSum, List.map_cons, List.sum_cons]
    rw [if_neg (by omega), ih (k + 1) (by omega)]
theorem others_head {x a : Cd} {l : List Cd} (h : x.l = a :: l) : 1 + othersSum x.l 0 0 + a.size = x.size := by
  rw [x.size_eq, h]
  simp only [othersSum, List.map_cons, List.sum_cons]
  rw [if_pos (by omega), others_from 1 (by omega)]
  omega
section
variable {ext : Ext}
set_option maxRecDepth 10000
set_option maxHeartbeats 4000000
theorem main15 (hE : Ex ext) (zn zc : Bool) (names : List ByteArray) (codes : List Cd) (hlen : names.length = codes.length) (hl : names.length < 2 ^ 60) (hcs : ∀ t ∈ codes, WF ext t ∧ t.size ≤ 1048576) :
    ∀ (m F u r : Nat) (c : Cd), 2097152 * (F - u) + c.size ≤ m → u ≤ F → F ≤ 200000 → WF ext c → c.size + r ≤ 1048576 → C15 ext (listS zn names) (listD zc (codes.map encCd)) F u r c := by
  intro m
  induction m with
  | zero => intro F u r c hm; have := c.size_pos; omega
  | succ m ih =>
    intro F u r c hm hu hF hw hs
    have hp := c.size_pos
    have next : ∀ (u1 : Nat) (t : Cd), u ≤ u1 → WF ext t → u1 < F → t.size + r ≤ 1048576 → t.size ≤ 200000 → C15 ext (listS zn names) (listD zc (codes.map encCd)) F (u1 + 1) r t :=
      fun u1 t h1 h2 h3 h4 h5 => ih F (u1 + 1) r t (by omega) (by omega) hF h2 h4
    have one : ∀ l : List Cd, l.length = 1 → ∃ a, l = [a] := by
      intro l h
      cases l with
      | nil => cases h
      | cons a l => cases l with
        | nil => exact ⟨a, rfl⟩
        | cons b l => simp at h
    have z0 : (0 : Int).toNat = 0 := rfl
    have z1 : (1 : Int).toNat = 1 := rfl
    have b26 : ∀ (F' u1 : Nat), True := fun _ _ => trivial
    have sbx : bx.size = 1 := by unfold bx; rw [size_mk]; rfl
    by_cases hv : c.op = 2 ∨ c.op = 4 ∨ c.op = 7 ∨ c.op = 8
    · exact ⟨.ok c u, val15 ext _ _ F u r c hv, ⟨Nat.le_refl _, hu, hw, hs⟩, fun _ F' _ _ => val15 ext _ _ F' u r c hv⟩
    have n2 : ¬ c.op = 2 := fun h => hv (.inl h)
    have n4 : ¬ c.op = 4 := fun h => hv (.inr (.inl h))
    have n7 : ¬ c.op = 7 := fun h => hv (.inr (.inr (.inl h)))
    have n8 : ¬ c.op = 8 := fun h => hv (.inr (.inr (.inr h)))
    by_cases h3 : c.op = 3
    · have hl2 := hw.ok.app h3
      obtain ⟨a, b, hab⟩ : ∃ a b, c.l = [a, b] := by
        cases hc : c.l with
        | nil => rw [hc] at hl2; cases hl2
        | cons a l => cases l with
          | nil => rw [hc] at hl2; cases hl2
          | cons b l => cases l with
            | nil => exact ⟨a, b, rfl⟩
            | cons d l => rw [hc] at hl2; simp at hl2
      have ha : c.l[(0 : Int).toNat]? = some a := by rw [hab]; rfl
      have hb : c.l[(1 : Int).toNat]? = some b := by rw [hab]; rfl
      have hl0 : (0 : Int) < c.l.length := by omega
      have hl1 : (1 : Int) < c.l.length := by omega
      have hma : a ∈ c.l := by rw [hab]; simp
      have hmb : b ∈ c.l := by rw [hab]; simp
      have hsa := Cd.size_lt hma
      have hsb := Cd.size_lt hmb
      have h25 := others25 ext (hE.at 25 rfl) (hE.at 42 rfl) c 0 (by omega)
      have hoh := others_head hab
      generalize hk : 1 + othersSum c.l 0 0 = k at h25 hoh
      refine inner15 hE (k := k) hF (by omega) (ih F u (r + k) a (by omega) hu hF (hw.part hma) (by omega)) (fun F' u1 r1 v h24 => appP15 ext _ _ F' u r u1 r1 k c a hl0 ha h3 h25 v h24) fun y u1 k1 k2 k3 k4 h24 => ?_
      by_cases y2 : y.op = 2
      · obtain ⟨g, hg⟩ := one y.l (k3.ok.lam y2)
        have hgm : g ∈ y.l := by rw [hg]; simp
        have hgs := Cd.size_lt hgm
        have h27 := subst27 ext (hE.at 27 rfl) (hE.at 44 rfl) b (by omega) g.size g 0 (Nat.le_refl _) (by omega)
        have hts := size_subst b g.size g 0 (Nat.le_refl _)
        have htb : g.size * b.size ≤ 1048576 * 1048576 := Nat.mul_le_mul (by omega) (by omega)
        have htw := WF.subst (hw.part hmb) g.size g 0 (Nat.le_refl _) (k3.part hgm)
        refine go15 hE (u1 := u1) (t := Cd.subst b g 0) hF (by omega) k1 k2 htw (by omega) (fun F' g1 g2 => ⟨fun u2 r2 out h26 h => ?_, fun v h26 => ?_⟩) (fun g1 g2 g3 => next u1 _ k1 htw g1 g2 g3)
        · exact appLam15 ext _ _ F' u r u1 r u2 r2 k c a b y g _ out h3 hl0 hl1 ha hb h25 (h24 F' g1 g2) y2 (by rw [hg]; simp) (by rw [hg]; rfl) h27 h26 h
        · exact appLamP15 ext _ _ F' u r u1 r k c a b y g _ v h3 hl0 hl1 ha hb h25 (h24 F' g1 g2) y2 (by rw [hg]; simp) (by rw [hg]; rfl) h27 h26
      by_cases y7 : y.op = 7
      · refine go15 hE (u1 := u1) (t := bx) hF (by omega) k1 k2 WF.box (by omega) (fun F' g1 g2 => ⟨fun u2 r2 out h26 h => ?_, fun v h26 => ?_⟩) (fun g1 g2 g3 => next u1 _ k1 WF.box g1 g2 g3)
        · exact appBox15 ext _ _ F' u r u1 r k c a hl0 ha h3 h25 u2 r2 (hE.at 28 rfl) y out (h24 F' g1 g2) y7 h26 h
        · exact appBoxP15 ext _ _ F' u r u1 r k c a hl0 ha h3 h25 (hE.at 28 rfl) y v (h24 F' g1 g2) y7 h26
      · exact bad_of hF k2 fun F' g1 g2 => appBad15 ext _ _ F' u r u1 r k c a hl0 ha h3 h25 y (h24 F' g1 g2) y2 y7
    by_cases h5 : c.op = 5
    · obtain ⟨a, ha0⟩ := one c.l (hw.ok.fst h5)
      have hma : a ∈ c.l := by rw [ha0]; simp
      have hsa := Cd.size_lt hma
      have ha : c.l[(0 : Int).toNat]? = some a := by rw [ha0]; rfl
      have hl0 : (0 : Int) < c.l.length := by rw [ha0]; simp
      refine inner15 hE (k := 1) hF (by omega) (ih F u (r + 1) a (by omega) hu hF (hw.part hma) (by omega)) (fun F' u1 r1 v h24 => fstP15 ext _ _ F' u r u1 r1 c a hl0 ha h5 v h24) fun y u1 k1 k2 k3 k4 h24 => ?_
      by_cases y4 : y.op = 4
      · have yl := k3.ok.pair y4
        have hlt : 0 < y.l.length := by omega
        have htm := List.getElem_mem hlt
        have hts := Cd.size_lt htm
        refine go15 hE (u1 := u1) (t := y.l[0]) hF (by omega) k1 k2 (k3.part htm) (by omega) (fun F' g1 g2 => ⟨fun u2 r2 out h26 h => ?_, fun v h26 => ?_⟩) (fun g1 g2 g3 => next u1 _ k1 (k3.part htm) g1 g2 g3)
        · exact fstPair15 ext _ _ F' u r u1 r c a hl0 ha h5 u2 r2 y _ out (h24 F' g1 g2) y4 (by omega) (by rw [z0]; simp [hlt]) (by rw [wr_id (by omega) (by omega)]; rfl) h26 h
        · exact fstPairP15 ext _ _ F' u r u1 r c a hl0 ha h5 y _ v (h24 F' g1 g2) y4 (by omega) (by rw [z0]; simp [hlt]) (by rw [wr_id (by omega) (by omega)]; rfl) h26
      by_cases y7 : y.op = 7
      · refine go15 hE (u1 := u1) (t := bx) hF (by omega) k1 k2 WF.box (by omega) (fun F' g1 g2 => ⟨fun u2 r2 out h26 h => ?_, fun v h26 => ?_⟩) (fun g1 g2 g3 => next u1 _ k1 WF.box g1 g2 g3)
        · exact fstBox15 ext _ _ F' u r u1 r c a hl0 ha h5 u2 r2 (hE.at 28 rfl) y out (h24 F' g1 g2) y7 h26 h
        · exact fstBoxP15 ext _ _ F' u r u1 r c a hl0 ha h5 (hE.at 28 rfl) y v (h24 F' g1 g2) y7 h26
      · exact bad_of hF k2 fun F' g1 g2 => fstBad15 ext _ _ F' u r u1 r c a hl0 ha h5 y (h24 F' g1 g2) y4 y7
    by_cases h6 : c.op = 6
    · obtain ⟨a, ha0⟩ := one c.l (hw.ok.snd h6)
      have hma : a ∈ c.l := by rw [ha0]; simp
      have hsa := Cd.size_lt hma
      have ha : c.l[(0 : Int).toNat]? = some a := by rw [ha0]; rfl
      have hl0 : (0 : Int) < c.l.length := by rw [ha0]; simp
      refine inner15 hE (k := 1) hF (by omega) (ih F u (r + 1) a (by omega) hu hF (hw.part hma) (by omega)) (fun F' u1 r1 v h24 => sndP15 ext _ _ F' u r u1 r1 c a hl0 ha h6 v h24) fun y u1 k1 k2 k3 k4 h24 => ?_
      by_cases y4 : y.op = 4
      · have yl := k3.ok.pair y4
        have hlt : 1 < y.l.length := by omega
        have htm := List.getElem_mem hlt
        have hts := Cd.size_lt htm
        refine go15 hE (u1 := u1) (t := y.l[1]) hF (by omega) k1 k2 (k3.part htm) (by omega) (fun F' g1 g2 => ⟨fun u2 r2 out h26 h => ?_, fun v h26 => ?_⟩) (fun g1 g2 g3 => next u1 _ k1 (k3.part htm) g1 g2 g3)
        · exact sndPair15 ext _ _ F' u r u1 r c a hl0 ha h6 u2 r2 y _ out (h24 F' g1 g2) y4 (by omega) (by rw [z1]; simp [hlt]) (by rw [wr_id (by omega) (by omega)]; rfl) h26 h
        · exact sndPairP15 ext _ _ F' u r u1 r c a hl0 ha h6 y _ v (h24 F' g1 g2) y4 (by omega) (by rw [z1]; simp [hlt]) (by rw [wr_id (by omega) (by omega)]; rfl) h26
      by_cases y7 : y.op = 7
      · refine go15 hE (u1 := u1) (t := bx) hF (by omega) k1 k2 WF.box (by omega) (fun F' g1 g2 => ⟨fun u2 r2 out h26 h => ?_, fun v h26 => ?_⟩) (fun g1 g2 g3 => next u1 _ k1 WF.box g1 g2 g3)
        · exact sndBox15 ext _ _ F' u r u1 r c a hl0 ha h6 u2 r2 (hE.at 28 rfl) y out (h24 F' g1 g2) y7 h26 h
        · exact sndBoxP15 ext _ _ F' u r u1 r c a hl0 ha h6 (hE.at 28 rfl) y v (h24 F' g1 g2) y7 h26
      · exact bad_of hF k2 fun F' g1 g2 => sndBad15 ext _ _ F' u r u1 r c a hl0 ha h6 y (h24 F' g1 g2) y4 y7
    by_cases h10 : c.op = 10
    · obtain ⟨i, h29, hi⟩ := index29 ext (hE.at 29 rfl) zn names c.s (by omega)
      by_cases hneg : i < 0
      · exact bad_of hF hu fun F' g1 g2 => globBad15 ext _ _ F' u r c h10 i h29 hneg
      · obtain ⟨k, rfl⟩ := Int.eq_ofNat_of_zero_le (by omega : 0 ≤ i)
        have hkl : k < codes.length := by omega
        have hkm := List.getElem_mem hkl
        obtain ⟨w1, w2⟩ := hcs _ hkm
        have hcd : listD zc (codes.map encCd) = .s 4 (codes.map encCd) := listD_of_lt (b := k) (by omega) (by omega)
        refine go15 hE (u1 := u) (t := codes[k]) hF (by omega) (Nat.le_refl _) hu w1 (by omega) (fun F' g1 g2 => ⟨fun u2 r2 out h26 h => ?_, fun v h26 => ?_⟩) (fun g1 g2 g3 => next u _ (Nat.le_refl _) w1 g1 g2 g3)
        · exact glob15 ext _ _ F' u r u2 r2 c h10 k h29 _ codes hcd hneg (by omega) (by omega) (by simp [hkl]) out h26 h
        · exact globP15 ext _ _ F' u r u r v c h10 k h29 _ codes hcd hneg (by omega) (by omega) (by simp [hkl]) h26
    have both : ∀ (ho : c.op = 9 ∨ c.op = 11) (h1 : 1 ≤ c.l.length), ∃ a l, c.l = a :: l := by
      intro ho h1
      cases hc : c.l with
      | nil => rw [hc] at h1; cases h1
      | cons a l => exact ⟨a, l, rfl⟩
    by_cases h9 : c.op = 9
    · have h1 := hw.ok.case h9
      obtain ⟨a, l, hal⟩ := both (.inl h9) h1
      have hma : a ∈ c.l := by rw [hal]; simp
      have hsa := Cd.size_lt hma
      have ha : c.l[(0 : Int).toNat]? = some a := by rw [hal]; rfl
      have hl0 : (0 : Int) < c.l.length := by omega
      have h25 := others25 ext (hE.at 25 rfl) (hE.at 42 rfl) c 0 (by omega)
      have hoh := others_head hal
      have hll := c.len_lt
      generalize hk : 1 + othersSum c.l 0 0 = k at h25 hoh
      refine inner15 hE (k := k) hF (by omega) (ih F u (r + k) a (by omega) hu hF (hw.part hma) (by omega)) (fun F' u1 r1 v h24 => caseP15 ext _ _ F' u r u1 r1 k c a hl0 ha h9 h25 v h24) fun y u1 k1 k2 k3 k4 h24 => ?_
      by_cases y8 : y.op = 8
      · by_cases hn : y.n ≥ wr ((c.l.length : Int) - 1)
        · exact bad_of hF k2 fun F' g1 g2 => caseBad2_15 ext _ _ F' u r u1 r k c a hl0 ha h9 h25 y (h24 F' g1 g2) y8 hn
        · have hn' := hn
          rw [wr_id (by omega) (by omega)] at hn'
          obtain ⟨t, h30, tw, ts⟩ := chosen30 ext (hE.at 30 rfl) hE.plain c y hw k3 (.inl h9) y8 (by omega) (by omega) (by omega)
          refine go15 hE (u1 := u1) (t := t) hF (by omega) k1 k2 tw ts (fun F' g1 g2 => ⟨fun u2 r2 out h26 h => ?_, fun v h26 => ?_⟩) (fun g1 g2 g3 => next u1 _ k1 tw g1 g2 g3)
          · exact case15 ext _ _ F' u r u1 r k c a hl0 ha h9 h25 u2 r2 out y t (h24 F' g1 g2) y8 hn h30 h26 h
          · exact caseSP15 ext _ _ F' u r u1 r k c a hl0 ha h9 h25 v y t (h24 F' g1 g2) y8 hn h30 h26
      · exact bad_of hF k2 fun F' g1 g2 => caseBad15 ext _ _ F' u r u1 r k c a hl0 ha h9 h25 y (h24 F' g1 g2) y8
    by_cases h11 : c.op = 11
    · have h1 := (hw.ok.fix h11).1
      obtain ⟨a, l, hal⟩ := both (.inr h11) h1
      have hma : a ∈ c.l := by rw [hal]; simp
      have hsa := Cd.size_lt hma
      have ha : c.l[(0 : Int).toNat]? = some a := by rw [hal]; rfl
      have hl0 : (0 : Int) < c.l.length := by omega
      have h25 := others25 ext (hE.at 25 rfl) (hE.at 42 rfl) c 0 (by omega)
      have hoh := others_head hal
      have hll := c.len_lt
      generalize hk : 1 + othersSum c.l 0 0 = k at h25 hoh
      refine inner15 hE (k := k) hF (by omega) (ih F u (r + k) a (by omega) hu hF (hw.part hma) (by omega)) (fun F' u1 r1 v h24 => fixP15 ext _ _ F' u r u1 r1 k c a hl0 ha h11 h25 v h24) fun y u1 k1 k2 k3 k4 h24 => ?_
      by_cases y8 : y.op = 8
      · by_cases hn : y.n ≥ wr ((c.l.length : Int) - 1)
        · exact bad_of hF k2 fun F' g1 g2 => fixBad2_15 ext _ _ F' u r u1 r k c a hl0 ha h11 h25 y (h24 F' g1 g2) y8 hn
        · have hn' := hn
          rw [wr_id (by omega) (by omega)] at hn'
          obtain ⟨t, h30, tw, ts⟩ := chosen30 ext (hE.at 30 rfl) hE.plain c y hw k3 (.inr h11) y8 (by omega) (by omega) (by omega)
          refine go15 hE (u1 := u1) (t := t) hF (by omega) k1 k2 tw ts (fun F' g1 g2 => ⟨fun u2 r2 out h26 h => ?_, fun v h26 => ?_⟩) (fun g1 g2 g3 => next u1 _ k1 tw g1 g2 g3)
          · exact fix15 ext _ _ F' u r u1 r k c a hl0 ha h11 h25 u2 r2 out y t (h24 F' g1 g2) y8 hn h30 h26 h
          · exact fixSP15 ext _ _ F' u r u1 r k c a hl0 ha h11 h25 v y t (h24 F' g1 g2) y8 hn h30 h26
      · exact bad_of hF k2 fun F' g1 g2 => fixBad15 ext _ _ F' u r u1 r k c a hl0 ha h11 h25 y (h24 F' g1 g2) y8
    · exact bad_of hF hu fun F' g1 g2 => bad15 ext _ _ F' u r c n2 h3 n4 h5 h6 n7 n8 h9 h10 h11
end
end Go.Proofs.YtmjacokkgfophaaDoor.Am
end
section
/- Valid: true only of a code that has its form. -/
namespace Go.Proofs.YtmjacokkgfophaaDoor.Am
open Go
/-- No text in a code is longer than 2^20 bytes. -/
inductive Sml : Cd → Prop
  | mk {x : Cd} : x.s.size ≤ 1048576 → (∀ y ∈ x.l, Sml y) → Sml x
theorem Sml.str {x : Cd} (h : Sml x) : x.s.size ≤ 1048576 := by cases h; assumption
theorem Sml.part {x y : Cd} (h : Sml x) (hy : y ∈ x.l) : Sml y := by cases h with | mk _ h => exact h y hy
variable (ext : Ext)
set_option maxHeartbeats 4000000
def OV (n : Int) : List O := [.box [.d (.v (.int .i64 n))], .box [.fn 36 [] [0, 1]]]
def OW (n lv : Int) : List O := [.box [.fn 36 [] [2, 0]], .box [.d (.v (.int .i64 lv))], .box [.d (.v (.int .i64 n))]]
def F39 : V := .c (.fn 39 [] [0, 1])
theorem clo39 (hx : ext 39 = none) (y : Cd) (n n' lv : Int) (b : Bool) (hr : run Tryd.prog ext (.call 36 [cdV y, iV (wr (lv + 1)), .c (.ptr 0 0), .c (.ptr 1 0)] (OV n)) = some (.ret [bV b] (OV n'))) :
   run Tryd.prog ext (.call 39 [cdV y, .c (.ptr 0 0), .c (.ptr 1 0)] (OW n lv)) = some (.ret [bV (!b)] (OW n' lv)) := by
  have e := callA_of (rec := run Tryd.prog ext) (look := lk (OW n lv ++ [.box (cdC y)])) (slot := 4) (f := 36) (args := [cdV y, iV (wr (lv + 1)), .c (.ptr 2 0), .c (.ptr 0 0)]) (ids := [2, 0]) (bor := []) (e := ⟨.val (bV b), [(2, .box [.d (.v (.int .i64 n'))]), (0, .box [.fn 36 [] [2, 0]])], [2, 0]⟩) (by kernel_rfl) hr (by kernel_rfl)
  (rw [run_eq]; simp only [stepA, hx, Tryd.func39, Tryd.f39]; simp only [List.length_cons, List.length_nil, Nat.reduceAdd, Nat.reduceLeDiff, Nat.zero_le, ↓reduceIte, List.zipIdx_cons, List.zipIdx_nil, List.map_cons, List.map_nil])
  simp only [cdV, cdC, bV, iV, OW, List.cons_append, List.nil_append] at e ⊢
  simp only [zS, wantedA, opA, eff, boxA, cells, ev, gt, pt, putO, updO, setO, okC, loadA, cutC, fieldAddrA, fieldA, indexAddrA, indexA, builtinA, callOpA, callV, target, ptrV, lenS, binA, intOp, strOp, unA, num, lk, over, allocA, pickA, buildA, fillA, convertA, extractA, ofComp, nilCheckA, makeFuncA, ptrs, ofValue, cellB, Nat.reduceAdd, Nat.reduceSub, Nat.reduceMul, Nat.reduceLT, Nat.reduceLeDiff, Nat.reduceGT, ↓reduceIte, Nat.reduceEqDiff, Nat.reduceBEq, reduceCtorEq, Int.reduceBEq, Int.reduceBNe, Int.reduceLT, Int.reduceLE, Int.reduceGT, Int.reduceGE, aggT_25, sizeT_25, bytesT_25, fieldT_25_0, fieldT_25_1, fieldT_25_2, fieldT_25_3, placesT_25, zeroT_25, aggT_23, sizeT_23, bytesT_23, und_23, elemT_23, zero1_23, zeroT_23, aggT_3, sizeT_3, bytesT_3, und_3, zero1_3, zeroT_3, aggT_4, sizeT_4, bytesT_4, und_4, zero1_4, zeroT_4, aggT_62, sizeT_62, bytesT_62, zero1_62, zeroT_62, e]
  (refine Eq.trans ?_ rfl; kernel_rfl)
theorem enter54v (hx : ext 54 = none) (z : Bool) (l : List Cd) (n lv : Int) (out : Option Out)
   (h : run Tryd.prog ext (.k ⟨19, 3, [.tmp 4]⟩ (.code L54 :: .inLoop L54 :: K54) (E54 F39 z l 0) (OW n lv)) = out) :
   run Tryd.prog ext (.call 54 [cdsV z l, F39] (OW n lv)) = out := by
  (rw [run_eq]; simp only [stepA, hx, Tryd.func54, Tryd.f54]; simp only [List.length_cons, List.length_nil, Nat.reduceAdd, Nat.reduceLeDiff, Nat.zero_le, ↓reduceIte, List.zipIdx_cons, List.zipIdx_nil, List.map_cons, List.map_nil])
  simp only [zS, wantedA, opA, eff, boxA, cells, ev, gt, pt, putO, updO, setO, okC, loadA, cutC, fieldAddrA, fieldA, indexAddrA, indexA, builtinA, callOpA, callV, target, ptrV, lenS, binA, intOp, strOp, unA, num, lk, over, allocA, pickA, buildA, fillA, convertA, extractA, ofComp, nilCheckA, makeFuncA, ptrs, ofValue, cellB, Nat.reduceAdd, Nat.reduceSub, Nat.reduceMul, Nat.reduceLT, Nat.reduceLeDiff, Nat.reduceGT, ↓reduceIte, Nat.reduceEqDiff, Nat.reduceBEq, reduceCtorEq, Int.reduceBEq, Int.reduceBNe, Int.reduceLT, Int.reduceLE, Int.reduceGT, Int.reduceGE, aggT_25, sizeT_25, bytesT_25, fieldT_25_0, fieldT_25_1, fieldT_25_2, fieldT_25_3, placesT_25, zeroT_25, aggT_23, sizeT_23, bytesT_23, und_23, elemT_23, zero1_23, zeroT_23, aggT_3, sizeT_3, bytesT_3, und_3, zero1_3, zeroT_3, aggT_4, sizeT_4, bytesT_4, und_4, zero1_4, zeroT_4, cdsV, iV, F39, OW]
  refine (r_inLoop_some ?_).trans h
  kernel_rfl
theorem step54v (z : Bool) (l : List Cd) (y : Cd) (n n' lv b : Int) (c : Bool) (hi2 : b < l.length) (hi : 0 ≤ b) (hy : l[b.toNat]? = some y) (hr : run Tryd.prog ext (.call 39 [cdV y, .c (.ptr 0 0), .c (.ptr 1 0)] (OW n lv)) = some (.ret [bV c] (OW n' lv))) (out : Option Out)
   (h : (if c then some (.ret [iV b] (OW n' lv)) else run Tryd.prog ext (.k ⟨19, 3, [.tmp 4]⟩ (.code L54 :: .inLoop L54 :: K54) (E54 F39 z l (wr (b + 1))) (OW n' lv))) = out) :
   run Tryd.prog ext (.k ⟨19, 3, [.tmp 4]⟩ (.code L54 :: .inLoop L54 :: K54) (E54 F39 z l b) (OW n lv)) = out := by
  rw [show (It.code L54) = It.code (sub B54 [1, 0, 1, 0, 0]) from rfl]
  have e := callA_of (rec := run Tryd.prog ext) (look := lk (OW n lv)) (slot := 3) (f := 39) (args := [cdV y, .c (.ptr 0 0), .c (.ptr 1 0)]) (ids := [0, 1, 2]) (bor := []) (e := ⟨.val (bV c), [(0, .box [.fn 36 [] [2, 0]]), (1, .box [.d (.v (.int .i64 lv))]), (2, .box [.d (.v (.int .i64 n'))])], [0, 1, 2]⟩) (by kernel_rfl) hr (by kernel_rfl)
  simp only [E54, iV, bV, cdsV, listD_of_lt hi hi2, F39, OW, cdV, cdC] at h e ⊢
  simp only [B54, K54, sub, Option.getD_some, Tryd.f54, ↓reduceIte, Nat.one_ne_zero]
  cases c with
  | true =>
    rw [if_pos rfl] at h
    simp only [zS, wantedA, opA, eff, boxA, cells, ev, gt, pt, putO, updO, setO, okC, loadA, cutC, fieldAddrA, fieldA, indexAddrA, indexA, builtinA, callOpA, callV, target, ptrV, lenS, binA, intOp, strOp, unA, num, lk, over, allocA, pickA, buildA, fillA, convertA, extractA, ofComp, nilCheckA, makeFuncA, ptrs, ofValue, cellB, Nat.reduceAdd, Nat.reduceSub, Nat.reduceMul, Nat.reduceLT, Nat.reduceLeDiff, Nat.reduceGT, ↓reduceIte, Nat.reduceEqDiff, Nat.reduceBEq, reduceCtorEq, Int.reduceBEq, Int.reduceBNe, Int.reduceLT, Int.reduceLE, Int.reduceGT, Int.reduceGE, aggT_25, sizeT_25, bytesT_25, fieldT_25_0, fieldT_25_1, fieldT_25_2, fieldT_25_3, placesT_25, zeroT_25, aggT_23, sizeT_23, bytesT_23, und_23, elemT_23, zero1_23, zeroT_23, aggT_3, sizeT_3, bytesT_3, und_3, zero1_3, zeroT_3, aggT_4, sizeT_4, bytesT_4, und_4, zero1_4, zeroT_4, hi, hi2, hy, encCd_eq y, e]
    refine Eq.trans ?_ h
    kernel_rfl
  | false =>
    rw [if_neg (by decide)] at h
    simp only [zS, wantedA, opA, eff, boxA, cells, ev, gt, pt, putO, updO, setO, okC, loadA, cutC, fieldAddrA, fieldA, indexAddrA, indexA, builtinA, callOpA, callV, target, ptrV, lenS, binA, intOp, strOp, unA, num, lk, over, allocA, pickA, buildA, fillA, convertA, extractA, ofComp, nilCheckA, makeFuncA, ptrs, ofValue, cellB, Nat.reduceAdd, Nat.reduceSub, Nat.reduceMul, Nat.reduceLT, Nat.reduceLeDiff, Nat.reduceGT, ↓reduceIte, Nat.reduceEqDiff, Nat.reduceBEq, reduceCtorEq, Int.reduceBEq, Int.reduceBNe, Int.reduceLT, Int.reduceLE, Int.reduceGT, Int.reduceGE, aggT_25, sizeT_25, bytesT_25, fieldT_25_0, fieldT_25_1, fieldT_25_2, fieldT_25_3, placesT_25, zeroT_25, aggT_23, sizeT_23, bytesT_23, und_23, elemT_23, zero1_23, zeroT_23, aggT_3, sizeT_3, bytesT_3, und_3, zero1_3, zeroT_3, aggT_4, sizeT_4, bytesT_4, und_4, zero1_4, zeroT_4, hi, hi2, hy, encCd_eq y, e]
    refine (r_inLoop_some ?_).trans h
    kernel_rfl
theorem done54v (z : Bool) (l : List Cd) (n lv b : Int) (hi2 : ¬ b < l.length) :
   run Tryd.prog ext (.k ⟨19, 3, [.tmp 4]⟩ (.code L54 :: .inLoop L54 :: K54) (E54 F39 z l b) (OW n lv)) = some (.ret [iV (-1)] (OW n lv)) := by
  rw [show (It.code L54) = It.code (sub B54 [1, 0, 1, 0, 0]) from rfl]
  simp only [E54, iV, F39, OW, cdsV]
  simp only [B54, K54, sub, Option.getD_some, Tryd.f54, ↓reduceIte, Nat.one_ne_zero]
  simp only [zS, wantedA, opA, eff, boxA, cells, ev, gt, pt, putO, updO, setO, okC, loadA, cutC, fieldAddrA, fieldA, indexAddrA, indexA, builtinA, callOpA, callV, target, ptrV, lenS, binA, intOp, strOp, unA, num, lk, over, allocA, pickA, buildA, fillA, convertA, extractA, ofComp, nilCheckA, makeFuncA, ptrs, ofValue, cellB, Nat.reduceAdd, Nat.reduceSub, Nat.reduceMul, Nat.reduceLT, Nat.reduceLeDiff, Nat.reduceGT, ↓reduceIte, Nat.reduceEqDiff, Nat.reduceBEq, reduceCtorEq, Int.reduceBEq, Int.reduceBNe, Int.reduceLT, Int.reduceLE, Int.reduceGT, Int.reduceGE, aggT_25, sizeT_25, bytesT_25, fieldT_25_0, fieldT_25_1, fieldT_25_2, fieldT_25_3, placesT_25, zeroT_25, aggT_23, sizeT_23, bytesT_23, und_23, elemT_23, zero1_23, zeroT_23, aggT_3, sizeT_3, bytesT_3, und_3, zero1_3, zeroT_3, aggT_4, sizeT_4, bytesT_4, und_4, zero1_4, zeroT_4, hi2]
  kernel_rfl
theorem cont38v (hx : ext 38 = none) (z : Bool) (l : List Cd) (n n' lv i : Int) (hr : run Tryd.prog ext (.call 54 [cdsV z l, F39] (OW n lv)) = some (.ret [iV i] (OW n' lv))) :
    run Tryd.prog ext (.call 38 [cdsV z l, F39] (OW n lv)) = some (.ret [bV (decide (i ≥ 0))] (OW n' lv)) := by
  have e := callA_of (rec := run Tryd.prog ext) (look := lk (OW n lv)) (slot := 3) (f := 54) (args := [cdsV z l, F39]) (ids := [0, 1, 2]) (bor := []) (e := ⟨.val (iV i), [(0, .box [.fn 36 [] [2, 0]]), (1, .box [.d (.v (.int .i64 lv))]), (2, .box [.d (.v (.int .i64 n'))])], [0, 1, 2]⟩) (by kernel_rfl) hr (by kernel_rfl)
  (rw [run_eq]; simp only [stepA, hx, Tryd.func38, Tryd.f38]; simp only [List.length_cons, List.length_nil, Nat.reduceAdd, Nat.reduceLeDiff, Nat.zero_le, ↓reduceIte, List.zipIdx_cons, List.zipIdx_nil, List.map_cons, List.map_nil])
  simp only [cdsV, iV, F39, OW] at e ⊢
  simp only [zS, wantedA, opA, eff, boxA, cells, ev, gt, pt, putO, updO, setO, okC, loadA, cutC, fieldAddrA, fieldA, indexAddrA, indexA, builtinA, callOpA, callV, target, ptrV, lenS, binA, intOp, strOp, unA, num, lk, over, allocA, pickA, buildA, fillA, convertA, extractA, ofComp, nilCheckA, makeFuncA, ptrs, ofValue, cellB, Nat.reduceAdd, Nat.reduceSub, Nat.reduceMul, Nat.reduceLT, Nat.reduceLeDiff, Nat.reduceGT, ↓reduceIte, Nat.reduceEqDiff, Nat.reduceBEq, reduceCtorEq, Int.reduceBEq, Int.reduceBNe, Int.reduceLT, Int.reduceLE, Int.reduceGT, Int.reduceGE, aggT_25, sizeT_25, bytesT_25, fieldT_25_0, fieldT_25_1, fieldT_25_2, fieldT_25_3, placesT_25, zeroT_25, aggT_23, sizeT_23, bytesT_23, und_23, elemT_23, zero1_23, zeroT_23, aggT_3, sizeT_3, bytesT_3, und_3, zero1_3, zeroT_3, aggT_4, sizeT_4, bytesT_4, und_4, zero1_4, zeroT_4, e]
  (refine Eq.trans ?_ rfl; kernel_rfl)
theorem no36 (hx : ext 36 = none) (x : Cd) (n lv : Int) (b : Bool) (h37 : run Tryd.prog ext (.call 37 [cdV x] []) = some (.ret [bV b] [])) (hno : wr (n + 1) > 20000 ∨ (¬ wr (n + 1) > 20000 ∧ lv > 400) ∨ (¬ wr (n + 1) > 20000 ∧ ¬ lv > 400 ∧ b = false)) :
    run Tryd.prog ext (.call 36 [cdV x, iV lv, .c (.ptr 0 0), .c (.ptr 1 0)] (OV n)) = some (.ret [bV false] (OV (wr (n + 1)))) := by
  (rw [run_eq]; simp only [stepA, hx, Tryd.func36, Tryd.f36]; simp only [List.length_cons, List.length_nil, Nat.reduceAdd, Nat.reduceLeDiff, Nat.zero_le, ↓reduceIte, List.zipIdx_cons, List.zipIdx_nil, List.map_cons, List.map_nil])
  simp only [cdV, cdC, bV, iV, OV] at h37 ⊢
  rcases hno with h1 | ⟨h1, h2⟩ | ⟨h1, h2, h3⟩
  · simp only [zS, wantedA, opA, eff, boxA, cells, ev, gt, pt, putO, updO, setO, okC, loadA, cutC, fieldAddrA, fieldA, indexAddrA, indexA, builtinA, callOpA, callV, target, ptrV, lenS, binA, intOp, strOp, unA, num, lk, over, allocA, pickA, buildA, fillA, convertA, extractA, ofComp, nilCheckA, makeFuncA, ptrs, ofValue, cellB, Nat.reduceAdd, Nat.reduceSub, Nat.reduceMul, Nat.reduceLT, Nat.reduceLeDiff, Nat.reduceGT, ↓reduceIte, Nat.reduceEqDiff, Nat.reduceBEq, reduceCtorEq, Int.reduceBEq, Int.reduceBNe, Int.reduceLT, Int.reduceLE, Int.reduceGT, Int.reduceGE, aggT_25, sizeT_25, bytesT_25, fieldT_25_0, fieldT_25_1, fieldT_25_2, fieldT_25_3, placesT_25, zeroT_25, aggT_23, sizeT_23, bytesT_23, und_23, elemT_23, zero1_23, zeroT_23, aggT_3, sizeT_3, bytesT_3, und_3, zero1_3, zeroT_3, aggT_4, sizeT_4, bytesT_4, und_4, zero1_4, zeroT_4, h1]
    (refine Eq.trans ?_ rfl; kernel_rfl)
  · simp only [zS, wantedA, opA, eff, boxA, cells, ev, gt, pt, putO, updO, setO, okC, loadA, cutC, fieldAddrA, fieldA, indexAddrA, indexA, builtinA, callOpA, callV, target, ptrV, lenS, binA, intOp, strOp, unA, num, lk, over, allocA, pickA, buildA, fillA, convertA, extractA, ofComp, nilCheckA, makeFuncA, ptrs, ofValue, cellB, Nat.reduceAdd, Nat.reduceSub, Nat.reduceMul, Nat.reduceLT, Nat.reduceLeDiff, Nat.reduceGT, ↓reduceIte, Nat.reduceEqDiff, Nat.reduceBEq, reduceCtorEq, Int.reduceBEq, Int.reduceBNe, Int.reduceLT, Int.reduceLE, Int.reduceGT, Int.reduceGE, aggT_25, sizeT_25, bytesT_25, fieldT_25_0, fieldT_25_1, fieldT_25_2, fieldT_25_3, placesT_25, zeroT_25, aggT_23, sizeT_23, bytesT_23, und_23, elemT_23, zero1_23, zeroT_23, aggT_3, sizeT_3, bytesT_3, und_3, zero1_3, zeroT_3, aggT_4, sizeT_4, bytesT_4, und_4, zero1_4, zeroT_4, h1, h2]
    (refine Eq.trans ?_ rfl; kernel_rfl)
  · subst h3
    simp only [zS, wantedA, opA, eff, boxA, cells, ev, gt, pt, putO, updO, setO, okC, loadA, cutC, fieldAddrA, fieldA, indexAddrA, indexA, builtinA, callOpA, callV, target, ptrV, lenS, binA, intOp, strOp, unA, num, lk, over, allocA, pickA, buildA, fillA, convertA, extractA, ofComp, nilCheckA, makeFuncA, ptrs, ofValue, cellB, Nat.reduceAdd, Nat.reduceSub, Nat.reduceMul, Nat.reduceLT, Nat.reduceLeDiff, Nat.reduceGT, ↓reduceIte, Nat.reduceEqDiff, Nat.reduceBEq, reduceCtorEq, Int.reduceBEq, Int.reduceBNe, Int.reduceLT, Int.reduceLE, Int.reduceGT, Int.reduceGE, aggT_25, sizeT_25, bytesT_25, fieldT_25_0, fieldT_25_1, fieldT_25_2, fieldT_25_3, placesT_25, zeroT_25, aggT_23, sizeT_23, bytesT_23, und_23, elemT_23, zero1_23, zeroT_23, aggT_3, sizeT_3, bytesT_3, und_3, zero1_3, zeroT_3, aggT_4, sizeT_4, bytesT_4, und_4, zero1_4, zeroT_4, h1, h2, h37]
    (refine Eq.trans ?_ rfl; kernel_rfl)
theorem yes36 (hx : ext 36 = none) (x : Cd) (n n' lv : Int) (c : Bool) (h37 : run Tryd.prog ext (.call 37 [cdV x] []) = some (.ret [bV true] [])) (h1 : ¬ wr (n + 1) > 20000) (h2 : ¬ lv > 400) (hr : run Tryd.prog ext (.call 38 [cdsV x.z x.l, F39] (OW (wr (n + 1)) lv)) = some (.ret [bV c] (OW n' lv))) :
    run Tryd.prog ext (.call 36 [cdV x, iV lv, .c (.ptr 0 0), .c (.ptr 1 0)] (OV n)) = some (.ret [bV (!c)] (OV n')) := by
  have e := callA_of (rec := run Tryd.prog ext) (look := lk (OV (wr (n + 1)) ++ [.box (cdC x), .box [.d (.v (.int .i64 lv))]])) (slot := 4) (f := 38) (args := [cdsV x.z x.l, .c (.fn 39 [] [1, 3])]) (ids := [1, 3, 0]) (bor := []) (e := ⟨.val (bV c), [(1, .box [.fn 36 [] [0, 1]]), (3, .box [.d (.v (.int .i64 lv))]), (0, .box [.d (.v (.int .i64 n'))])], [1, 3, 0]⟩) (by kernel_rfl) hr (by kernel_rfl)
  have e1 : listD x.z (x.l.map encCd) = lD x := id rfl
  (rw [run_eq]; simp only [stepA, hx, Tryd.func36, Tryd.f36]; simp only [List.length_cons, List.length_nil, Nat.reduceAdd, Nat.reduceLeDiff, Nat.zero_le, ↓reduceIte, List.zipIdx_cons, List.zipIdx_nil, List.map_cons, List.map_nil])
  simp only [cdV, cdC, cdsV, e1, bV, iV, OV, List.cons_append, List.nil_append] at e h37 ⊢
  simp only [zS, wantedA, opA, eff, boxA, cells, ev, gt, pt, putO, updO, setO, okC, loadA, cutC, fieldAddrA, fieldA, indexAddrA, indexA, builtinA, callOpA, callV, target, ptrV, lenS, binA, intOp, strOp, unA, num, lk, over, allocA, pickA, buildA, fillA, convertA, extractA, ofComp, nilCheckA, makeFuncA, ptrs, ofValue, cellB, Nat.reduceAdd, Nat.reduceSub, Nat.reduceMul, Nat.reduceLT, Nat.reduceLeDiff, Nat.reduceGT, ↓reduceIte, Nat.reduceEqDiff, Nat.reduceBEq, reduceCtorEq, Int.reduceBEq, Int.reduceBNe, Int.reduceLT, Int.reduceLE, Int.reduceGT, Int.reduceGE, aggT_25, sizeT_25, bytesT_25, fieldT_25_0, fieldT_25_1, fieldT_25_2, fieldT_25_3, placesT_25, zeroT_25, aggT_23, sizeT_23, bytesT_23, und_23, elemT_23, zero1_23, zeroT_23, aggT_3, sizeT_3, bytesT_3, und_3, zero1_3, zeroT_3, aggT_4, sizeT_4, bytesT_4, und_4, zero1_4, zeroT_4, h1, h2, h37, e]
  (refine Eq.trans ?_ rfl; kernel_rfl)
/-- What the look at a code does. -/
def Looks (x : Cd) : Prop := ∀ n lv : Int, ∃ b n', run Tryd.prog ext (.call 36 [cdV x, iV lv, .c (.ptr 0 0), .c (.ptr 1 0)] (OV n)) = some (.ret [bV b] (OV n')) ∧ (b = true → WF ext x)
theorem index54v (hx : ext 54 = none) (h39 : ext 39 = none) (z : Bool) (l : List Cd) (hl : l.length < 2 ^ 62) (hr : ∀ y ∈ l, Looks ext y) (n lv : Int) :
    ∃ i n', run Tryd.prog ext (.call 54 [cdsV z l, F39] (OW n lv)) = some (.ret [iV i] (OW n' lv)) ∧ (i < 0 → ∀ y ∈ l, WF ext y) := by
  have key : ∀ (j k : Nat) (a : Int), k + j = l.length → (∀ y ∈ l.take k, WF ext y) → ∃ i n', run Tryd.prog ext (.k ⟨19, 3, [.tmp 4]⟩ (.code L54 :: .inLoop L54 :: K54) (E54 F39 z l k) (OW a lv)) = some (.ret [iV i] (OW n' lv)) ∧ (i < 0 → ∀ y ∈ l, WF ext y) := by
    intro j
    induction j with
    | zero => intro k a hk ht; exact ⟨-1, a, done54v ext z l a lv k (by omega), fun _ y hy => ht y (by rw [List.take_of_length_le (by omega)]; exact hy)⟩
    | succ j ih =>
      intro k a hk ht
      have hlt : k < l.length := by omega
      obtain ⟨b, n', h1, h2⟩ := hr l[k] (List.getElem_mem hlt) a (wr (lv + 1))
      have hc := clo39 ext h39 l[k] a n' lv b h1
      cases b with
      | false => exact ⟨k, n', step54v ext z l l[k] a n' lv k true (by omega) (by omega) (by simp [hlt]) hc _ rfl, fun h => by omega⟩
      | true =>
        obtain ⟨i, n2, g1, g2⟩ := ih (k + 1) n' (by omega) (fun y hy => by
          rw [List.take_succ_eq_append_getElem hlt] at hy
          rcases List.mem_append.1 hy with h | h
          · exact ht y h
          · simp at h; subst h; exact h2 rfl)
        refine ⟨i, n2, step54v ext z l l[k] a n' lv k false (by omega) (by omega) (by simp [hlt]) hc _ ?_, g2⟩
        rw [wr_id (by omega) (by omega)]
        simpa using g1
  obtain ⟨i, n', h1, h2⟩ := key l.length 0 n (by omega) (by simp)
  exact ⟨i, n', enter54v ext hx z l n lv _ (by simpa using h1), h2⟩
variable {ext}
theorem looks36 (hE : Ex ext) : ∀ (k : Nat) (x : Cd), x.size ≤ k → k < 2 ^ 60 → Sml x → Looks ext x
  | 0, x, h, _, _ => by have := x.size_pos; omega
  | k + 1, x, h, hk, hs => by
    intro n lv
    have hl := x.len_lt
    obtain ⟨b, h1, h2⟩ := formed37 ext (hE.at 37 rfl) (hE.at 52 rfl) (hE.at 66 rfl) (hE.at 76 rfl) (hE.at 67 rfl) (hE.at 53 rfl) (hE.at 68 rfl) (hE.at 77 rfl) (hE.at 69 rfl) (hE.at 70 rfl) (hE.at 46 rfl) (hE.at 58 rfl) (hE.at 72 rfl) (hE.at 73 rfl) hE.h80 (hE.at 81 rfl) (hE.at 83 rfl) hE.h87 x hs.str (by omega)
    by_cases c1 : wr (n + 1) > 20000
    · exact ⟨false, _, no36 ext (hE.at 36 rfl) x n lv b h1 (.inl c1), fun h => by cases h⟩
    by_cases c2 : lv > 400
    · exact ⟨false, _, no36 ext (hE.at 36 rfl) x n lv b h1 (.inr (.inl ⟨c1, c2⟩)), fun h => by cases h⟩
    cases b with
    | false => exact ⟨false, _, no36 ext (hE.at 36 rfl) x n lv false h1 (.inr (.inr ⟨c1, c2, rfl⟩)), fun h => by cases h⟩
    | true =>
      obtain ⟨i, n', g1, g2⟩ := index54v ext (hE.at 54 rfl) (hE.at 39 rfl) x.z x.l (by omega) (fun y hy => looks36 hE k y (by have := Cd.size_lt hy; omega) (by omega) (hs.part hy)) (wr (n + 1)) lv
      refine ⟨_, n', yes36 ext (hE.at 36 rfl) x n n' lv _ h1 c1 c2 (cont38v ext (hE.at 38 rfl) x.z x.l _ n' lv i g1), fun h => ?_⟩
      simp at h
      exact .mk (h2 rfl) (g2 h)
variable (ext)
theorem enter21 (hx : ext 21 = none) (x : Cd) (n' : Int) (b : Bool) (hr : run Tryd.prog ext (.call 36 [cdV x, iV 1, .c (.ptr 0 0), .c (.ptr 1 0)] (OV 0)) = some (.ret [bV b] (OV n'))) :
    run Tryd.prog ext (.call 21 [cdV x] []) = some (.ret [bV b] []) := by
  have e := callA_of (rec := run Tryd.prog ext) (look := lk [.box (cdC x), .box [.d (.v (.int .i64 0))], .box [.fn 36 [] [1, 2]]]) (slot := 3) (f := 36) (args := [cdV x, iV 1, .c (.ptr 1 0), .c (.ptr 2 0)]) (ids := [1, 2]) (bor := []) (e := ⟨.val (bV b), [(1, .box [.d (.v (.int .i64 n'))]), (2, .box [.fn 36 [] [1, 2]])], [1, 2]⟩) (by kernel_rfl) hr (by kernel_rfl)
  (rw [run_eq]; simp only [stepA, hx, Tryd.func21, Tryd.f21]; simp only [List.length_cons, List.length_nil, Nat.reduceAdd, Nat.reduceLeDiff, Nat.zero_le, ↓reduceIte, List.zipIdx_cons, List.zipIdx_nil, List.map_cons, List.map_nil])
  simp only [cdV, cdC, bV, iV] at e ⊢
  simp only [zS, wantedA, opA, eff, boxA, cells, ev, gt, pt, putO, updO, setO, okC, loadA, cutC, fieldAddrA, fieldA, indexAddrA, indexA, builtinA, callOpA, callV, target, ptrV, lenS, binA, intOp, strOp, unA, num, lk, over, allocA, pickA, buildA, fillA, convertA, extractA, ofComp, nilCheckA, makeFuncA, ptrs, ofValue, cellB, Nat.reduceAdd, Nat.reduceSub, Nat.reduceMul, Nat.reduceLT, Nat.reduceLeDiff, Nat.reduceGT, ↓reduceIte, Nat.reduceEqDiff, Nat.reduceBEq, reduceCtorEq, Int.reduceBEq, Int.reduceBNe, Int.reduceLT, Int.reduceLE, Int.reduceGT, Int.reduceGE, aggT_25, sizeT_25, bytesT_25, fieldT_25_0, fieldT_25_1, fieldT_25_2, fieldT_25_3, placesT_25, zeroT_25, aggT_23, sizeT_23, bytesT_23, und_23, elemT_23, zero1_23, zeroT_23, aggT_3, sizeT_3, bytesT_3, und_3, zero1_3, zeroT_3, aggT_4, sizeT_4, bytesT_4, und_4, zero1_4, zeroT_4, aggT_62, sizeT_62, bytesT_62, zero1_62, zeroT_62, e]
  (refine Eq.trans ?_ rfl; kernel_rfl)
variable {ext}
theorem valid21 (hE : Ex ext) (x : Cd) (hs : x.size < 2 ^ 60) (hx : Sml x) : ∃ b, run Tryd.prog ext (.call 21 [cdV x] []) = some (.ret [bV b] []) ∧ (b = true → WF ext x) := by
  obtain ⟨b, n', h1, h2⟩ := looks36 hE x.size x (Nat.le_refl _) hs hx 0 1
  exact ⟨b, enter21 ext (hE.at 21 rfl) x n' b h1, h2⟩
end Go.Proofs.YtmjacokkgfophaaDoor.Am
end
section
/- may: true only of codes that may be run. -/
namespace Go.Proofs.YtmjacokkgfophaaDoor.Am
open Go
variable (ext : Ext)
set_option maxHeartbeats 4000000
def F40 : V := .c (.fn 40 [] [])
theorem invalid40 (hx : ext 40 = none) (x : Cd) (h21 : run Tryd.prog ext (.call 21 [cdV x] []) = some (.ret [bV false] [])) : run Tryd.prog ext (.call 40 [cdV x] []) = some (.ret [bV true] []) := by
  (rw [run_eq]; simp only [stepA, hx, Tryd.func40, Tryd.f40]; simp only [List.length_cons, List.length_nil, Nat.reduceAdd, Nat.reduceLeDiff, Nat.zero_le, ↓reduceIte, List.zipIdx_cons, List.zipIdx_nil, List.map_cons, List.map_nil])
  simp only [cdV, cdC, bV] at h21 ⊢
  simp only [zS, wantedA, opA, eff, boxA, cells, ev, gt, pt, putO, updO, setO, okC, loadA, cutC, fieldAddrA, fieldA, indexAddrA, indexA, builtinA, callOpA, callV, target, ptrV, lenS, binA, intOp, strOp, unA, num, lk, over, allocA, pickA, buildA, fillA, convertA, extractA, ofComp, nilCheckA, makeFuncA, ptrs, ofValue, cellB, Nat.reduceAdd, Nat.reduceSub, Nat.reduceMul, Nat.reduceLT, Nat.reduceLeDiff, Nat.reduceGT, ↓reduceIte, Nat.reduceEqDiff, Nat.reduceBEq, reduceCtorEq, Int.reduceBEq, Int.reduceBNe, Int.reduceLT, Int.reduceLE, Int.reduceGT, Int.reduceGE, aggT_25, sizeT_25, bytesT_25, fieldT_25_0, fieldT_25_1, fieldT_25_2, fieldT_25_3, placesT_25, zeroT_25, aggT_23, sizeT_23, bytesT_23, und_23, elemT_23, zero1_23, zeroT_23, aggT_3, sizeT_3, bytesT_3, und_3, zero1_3, zeroT_3, aggT_4, sizeT_4, bytesT_4, und_4, zero1_4, zeroT_4, h21]
  (refine Eq.trans ?_ rfl; kernel_rfl)
theorem valid40 (hx : ext 40 = none) (x : Cd) (b : Bool) (h21 : run Tryd.prog ext (.call 21 [cdV x] []) = some (.ret [bV true] [])) (h41 : run Tryd.prog ext (.call 41 [cdV x, iV 0] []) = some (.ret [bV b] [])) : run Tryd.prog ext (.call 40 [cdV x] []) = some (.ret [bV b] []) := by
  (rw [run_eq]; simp only [stepA, hx, Tryd.func40, Tryd.f40]; simp only [List.length_cons, List.length_nil, Nat.reduceAdd, Nat.reduceLeDiff, Nat.zero_le, ↓reduceIte, List.zipIdx_cons, List.zipIdx_nil, List.map_cons, List.map_nil])
  simp only [cdV, cdC, bV, iV] at h21 h41 ⊢
  simp only [zS, wantedA, opA, eff, boxA, cells, ev, gt, pt, putO, updO, setO, okC, loadA, cutC, fieldAddrA, fieldA, indexAddrA, indexA, builtinA, callOpA, callV, target, ptrV, lenS, binA, intOp, strOp, unA, num, lk, over, allocA, pickA, buildA, fillA, convertA, extractA, ofComp, nilCheckA, makeFuncA, ptrs, ofValue, cellB, Nat.reduceAdd, Nat.reduceSub, Nat.reduceMul, Nat.reduceLT, Nat.reduceLeDiff, Nat.reduceGT, ↓reduceIte, Nat.reduceEqDiff, Nat.reduceBEq, reduceCtorEq, Int.reduceBEq, Int.reduceBNe, Int.reduceLT, Int.reduceLE, Int.reduceGT, Int.reduceGE, aggT_25, sizeT_25, bytesT_25, fieldT_25_0, fieldT_25_1, fieldT_25_2, fieldT_25_3, placesT_25, zeroT_25, aggT_23, sizeT_23, bytesT_23, und_23, elemT_23, zero1_23, zeroT_23, aggT_3, sizeT_3, bytesT_3, und_3, zero1_3, zeroT_3, aggT_4, sizeT_4, bytesT_4, und_4, zero1_4, zeroT_4, h21, h41]
  (refine Eq.trans ?_ rfl; kernel_rfl)
theorem enter54m (hx : ext 54 = none) (z : Bool) (l : List Cd) (out : Option Out)
   (h : run Tryd.prog ext (.k ⟨19, 0, [.tmp 4]⟩ (.code L54 :: .inLoop L54 :: K54) (E54 F40 z l 0) []) = out) :
   run Tryd.prog ext (.call 54 [cdsV z l, F40] []) = out := by
  (rw [run_eq]; simp only [stepA, hx, Tryd.func54, Tryd.f54]; simp only [List.length_cons, List.length_nil, Nat.reduceAdd, Nat.reduceLeDiff, Nat.zero_le, ↓reduceIte, List.zipIdx_cons, List.zipIdx_nil, List.map_cons, List.map_nil])
  simp only [zS, wantedA, opA, eff, boxA, cells, ev, gt, pt, putO, updO, setO, okC, loadA, cutC, fieldAddrA, fieldA, indexAddrA, indexA, builtinA, callOpA, callV, target, ptrV, lenS, binA, intOp, strOp, unA, num, lk, over, allocA, pickA, buildA, fillA, convertA, extractA, ofComp, nilCheckA, makeFuncA, ptrs, ofValue, cellB, Nat.reduceAdd, Nat.reduceSub, Nat.reduceMul, Nat.reduceLT, Nat.reduceLeDiff, Nat.reduceGT, ↓reduceIte, Nat.reduceEqDiff, Nat.reduceBEq, reduceCtorEq, Int.reduceBEq, Int.reduceBNe, Int.reduceLT, Int.reduceLE, Int.reduceGT, Int.reduceGE, aggT_25, sizeT_25, bytesT_25, fieldT_25_0, fieldT_25_1, fieldT_25_2, fieldT_25_3, placesT_25, zeroT_25, aggT_23, sizeT_23, bytesT_23, und_23, elemT_23, zero1_23, zeroT_23, aggT_3, sizeT_3, bytesT_3, und_3, zero1_3, zeroT_3, aggT_4, sizeT_4, bytesT_4, und_4, zero1_4, zeroT_4, cdsV, iV, F40]
  refine (r_inLoop_some ?_).trans h
  kernel_rfl
theorem step54m (z : Bool) (l : List Cd) (y : Cd) (b : Int) (c : Bool) (hi2 : b < l.length) (hi : 0 ≤ b) (hy : l[b.toNat]? = some y) (hr : run Tryd.prog ext (.call 40 [cdV y] []) = some (.ret [bV c] [])) (out : Option Out)
   (h : (if c then some (.ret [iV b] []) else run Tryd.prog ext (.k ⟨19, 0, [.tmp 4]⟩ (.code L54 :: .inLoop L54 :: K54) (E54 F40 z l (wr (b + 1))) [])) = out) :
   run Tryd.prog ext (.k ⟨19, 0, [.tmp 4]⟩ (.code L54 :: .inLoop L54 :: K54) (E54 F40 z l b) []) = out := by
  rw [show (It.code L54) = It.code (sub B54 [1, 0, 1, 0, 0]) from rfl]
  simp only [E54, iV, bV, cdsV, listD_of_lt hi hi2, F40, cdV, cdC] at h hr ⊢
  simp only [B54, K54, sub, Option.getD_some, Tryd.f54, ↓reduceIte, Nat.one_ne_zero]
  cases c with
  | true =>
    rw [if_pos rfl] at h
    simp only [zS, wantedA, opA, eff, boxA, cells, ev, gt, pt, putO, updO, setO, okC, loadA, cutC, fieldAddrA, fieldA, indexAddrA, indexA, builtinA, callOpA, callV, target, ptrV, lenS, binA, intOp, strOp, unA, num, lk, over, allocA, pickA, buildA, fillA, convertA, extractA, ofComp, nilCheckA, makeFuncA, ptrs, ofValue, cellB, Nat.reduceAdd, Nat.reduceSub, Nat.reduceMul, Nat.reduceLT, Nat.reduceLeDiff, Nat.reduceGT, ↓reduceIte, Nat.reduceEqDiff, Nat.reduceBEq, reduceCtorEq, Int.reduceBEq, Int.reduceBNe, Int.reduceLT, Int.reduceLE, Int.reduceGT, Int.reduceGE, aggT_25, sizeT_25, bytesT_25, fieldT_25_0, fieldT_25_1, fieldT_25_2, fieldT_25_3, placesT_25, zeroT_25, aggT_23, sizeT_23, bytesT_23, und_23, elemT_23, zero1_23, zeroT_23, aggT_3, sizeT_3, bytesT_3, und_3, zero1_3, zeroT_3, aggT_4, sizeT_4, bytesT_4, und_4, zero1_4, zeroT_4, hi, hi2, hy, encCd_eq y, hr]
    refine Eq.trans ?_ h
    kernel_rfl
  | false =>
    rw [if_neg (by decide)] at h
    simp only [zS, wantedA, opA, eff, boxA, cells, ev, gt, pt, putO, updO, setO, okC, loadA, cutC, fieldAddrA, fieldA, indexAddrA, indexA, builtinA, callOpA, callV, target, ptrV, lenS, binA, intOp, strOp, unA, num, lk, over, allocA, pickA, buildA, fillA, convertA, extractA, ofComp, nilCheckA, makeFuncA, ptrs, ofValue, cellB, Nat.reduceAdd, Nat.reduceSub, Nat.reduceMul, Nat.reduceLT, Nat.reduceLeDiff, Nat.reduceGT, ↓reduceIte, Nat.reduceEqDiff, Nat.reduceBEq, reduceCtorEq, Int.reduceBEq, Int.reduceBNe, Int.reduceLT, Int.reduceLE, Int.reduceGT, Int.reduceGE, aggT_25, sizeT_25, bytesT_25, fieldT_25_0, fieldT_25_1, fieldT_25_2, fieldT_25_3, placesT_25, zeroT_25, aggT_23, sizeT_23, bytesT_23, und_23, elemT_23, zero1_23, zeroT_23, aggT_3, sizeT_3, bytesT_3, und_3, zero1_3, zeroT_3, aggT_4, sizeT_4, bytesT_4, und_4, zero1_4, zeroT_4, hi, hi2, hy, encCd_eq y, hr]
    refine (r_inLoop_some ?_).trans h
    kernel_rfl
theorem done54m (z : Bool) (l : List Cd) (b : Int) (hi2 : ¬ b < l.length) :
   run Tryd.prog ext (.k ⟨19, 0, [.tmp 4]⟩ (.code L54 :: .inLoop L54 :: K54) (E54 F40 z l b) []) = some (.ret [iV (-1)] []) := by
  rw [show (It.code L54) = It.code (sub B54 [1, 0, 1, 0, 0]) from rfl]
  simp only [E54, iV, F40, cdsV]
  simp only [B54, K54, sub, Option.getD_some, Tryd.f54, ↓reduceIte, Nat.one_ne_zero]
  simp only [zS, wantedA, opA, eff, boxA, cells, ev, gt, pt, putO, updO, setO, okC, loadA, cutC, fieldAddrA, fieldA, indexAddrA, indexA, builtinA, callOpA, callV, target, ptrV, lenS, binA, intOp, strOp, unA, num, lk, over, allocA, pickA, buildA, fillA, convertA, extractA, ofComp, nilCheckA, makeFuncA, ptrs, ofValue, cellB, Nat.reduceAdd, Nat.reduceSub, Nat.reduceMul, Nat.reduceLT, Nat.reduceLeDiff, Nat.reduceGT, ↓reduceIte, Nat.reduceEqDiff, Nat.reduceBEq, reduceCtorEq, Int.reduceBEq, Int.reduceBNe, Int.reduceLT, Int.reduceLE, Int.reduceGT, Int.reduceGE, aggT_25, sizeT_25, bytesT_25, fieldT_25_0, fieldT_25_1, fieldT_25_2, fieldT_25_3, placesT_25, zeroT_25, aggT_23, sizeT_23, bytesT_23, und_23, elemT_23, zero1_23, zeroT_23, aggT_3, sizeT_3, bytesT_3, und_3, zero1_3, zeroT_3, aggT_4, sizeT_4, bytesT_4, und_4, zero1_4, zeroT_4, hi2]
  kernel_rfl
theorem cont38m (hx : ext 38 = none) (z : Bool) (l : List Cd) (i : Int) (hr : run Tryd.prog ext (.call 54 [cdsV z l, F40] []) = some (.ret [iV i] [])) :
    run Tryd.prog ext (.call 38 [cdsV z l, F40] []) = some (.ret [bV (decide (i ≥ 0))] []) := by
  (rw [run_eq]; simp only [stepA, hx, Tryd.func38, Tryd.f38]; simp only [List.length_cons, List.length_nil, Nat.reduceAdd, Nat.reduceLeDiff, Nat.zero_le, ↓reduceIte, List.zipIdx_cons, List.zipIdx_nil, List.map_cons, List.map_nil])
  simp only [cdsV, iV, F40] at hr ⊢
  simp only [zS, wantedA, opA, eff, boxA, cells, ev, gt, pt, putO, updO, setO, okC, loadA, cutC, fieldAddrA, fieldA, indexAddrA, indexA, builtinA, callOpA, callV, target, ptrV, lenS, binA, intOp, strOp, unA, num, lk, over, allocA, pickA, buildA, fillA, convertA, extractA, ofComp, nilCheckA, makeFuncA, ptrs, ofValue, cellB, Nat.reduceAdd, Nat.reduceSub, Nat.reduceMul, Nat.reduceLT, Nat.reduceLeDiff, Nat.reduceGT, ↓reduceIte, Nat.reduceEqDiff, Nat.reduceBEq, reduceCtorEq, Int.reduceBEq, Int.reduceBNe, Int.reduceLT, Int.reduceLE, Int.reduceGT, Int.reduceGE, aggT_25, sizeT_25, bytesT_25, fieldT_25_0, fieldT_25_1, fieldT_25_2, fieldT_25_3, placesT_25, zeroT_25, aggT_23, sizeT_23, bytesT_23, und_23, elemT_23, zero1_23, zeroT_23, aggT_3, sizeT_3, bytesT_3, und_3, zero1_3, zeroT_3, aggT_4, sizeT_4, bytesT_4, und_4, zero1_4, zeroT_4, hr]
  (refine Eq.trans ?_ rfl; kernel_rfl)
variable {ext}
theorem bad40 (hE : Ex ext) (x : Cd) (hs : x.size < 2 ^ 60) (hx : Sml x) : ∃ b, run Tryd.prog ext (.call 40 [cdV x] []) = some (.ret [bV b] []) ∧ (b = false → WF ext x) := by
  obtain ⟨b, h1, h2⟩ := valid21 hE x hs hx
  cases b with
  | false => exact ⟨true, invalid40 ext (hE.at 40 rfl) x h1, fun h => by cases h⟩
  | true =>
    obtain ⟨c, h3⟩ := open41 ext (hE.at 41 rfl) (hE.at 38 rfl) (hE.at 54 rfl) (hE.at 55 rfl) x.size x 0 (Nat.le_refl _) (by omega)
    exact ⟨c, valid40 ext (hE.at 40 rfl) x c h1 h3, fun _ => h2 rfl⟩
theorem index54m (hE : Ex ext) (z : Bool) (l : List Cd) (hl : l.length < 2 ^ 62) (hs : ∀ y ∈ l, y.size < 2 ^ 60 ∧ Sml y) :
    ∃ i, run Tryd.prog ext (.call 54 [cdsV z l, F40] []) = some (.ret [iV i] []) ∧ (i < 0 → ∀ y ∈ l, WF ext y) := by
  have key : ∀ (j k : Nat), k + j = l.length → (∀ y ∈ l.take k, WF ext y) → ∃ i, run Tryd.prog ext (.k ⟨19, 0, [.tmp 4]⟩ (.code L54 :: .inLoop L54 :: K54) (E54 F40 z l k) []) = some (.ret [iV i] []) ∧ (i < 0 → ∀ y ∈ l, WF ext y) := by
    intro j
    induction j with
    | zero => intro k hk ht; exact ⟨-1, done54m ext z l k (by omega), fun _ y hy => ht y (by rw [List.take_of_length_le (by omega)]; exact hy)⟩
    | succ j ih =>
      intro k hk ht
      have hlt : k < l.length := by omega
      obtain ⟨s1, s2⟩ := hs l[k] (List.getElem_mem hlt)
      obtain ⟨b, h1, h2⟩ := bad40 hE l[k] s1 s2
      cases b with
      | true => exact ⟨k, step54m ext z l l[k] k true (by omega) (by omega) (by simp [hlt]) h1 _ rfl, fun h => by omega⟩
      | false =>
        obtain ⟨i, g1, g2⟩ := ih (k + 1) (by omega) (fun y hy => by
          rw [List.take_succ_eq_append_getElem hlt] at hy
          rcases List.mem_append.1 hy with h | h
          · exact ht y h
          · simp at h; subst h; exact h2 rfl)
        refine ⟨i, step54m ext z l l[k] k false (by omega) (by omega) (by simp [hlt]) h1 _ ?_, g2⟩
        rw [wr_id (by omega) (by omega)]
        simpa using g1
  obtain ⟨i, h1, h2⟩ := key l.length 0 (by omega) (by simp)
  exact ⟨i, enter54m ext (hE.at 54 rfl) z l _ (by simpa using h1), h2⟩
variable (ext)
theorem no22 (hx : ext 22 = none) (zn zc : Bool) (names : List ByteArray) (codes : List Cd) (c : Cd) (b : Bool) (h40 : run Tryd.prog ext (.call 40 [cdV c] []) = some (.ret [bV b] [])) (hno : ¬ (names.length : Int) = codes.length ∨ ((names.length : Int) = codes.length ∧ b = true)) :
    run Tryd.prog ext (.call 22 [.c (.d (listS zn names)), cdsV zc codes, cdV c] []) = some (.ret [bV false] []) := by
  (rw [run_eq]; simp only [stepA, hx, Tryd.func22, Tryd.f22]; simp only [List.length_cons, List.length_nil, Nat.reduceAdd, Nat.reduceLeDiff, Nat.zero_le, ↓reduceIte, List.zipIdx_cons, List.zipIdx_nil, List.map_cons, List.map_nil])
  simp only [cdV, cdC, bV, cdsV] at h40 ⊢
  rcases hno with h | ⟨h, rfl⟩
  · simp only [zS, wantedA, opA, eff, boxA, cells, ev, gt, pt, putO, updO, setO, okC, loadA, cutC, fieldAddrA, fieldA, indexAddrA, indexA, builtinA, callOpA, callV, target, ptrV, lenS, binA, intOp, strOp, unA, num, lk, over, allocA, pickA, buildA, fillA, convertA, extractA, ofComp, nilCheckA, makeFuncA, ptrs, ofValue, cellB, Nat.reduceAdd, Nat.reduceSub, Nat.reduceMul, Nat.reduceLT, Nat.reduceLeDiff, Nat.reduceGT, ↓reduceIte, Nat.reduceEqDiff, Nat.reduceBEq, reduceCtorEq, Int.reduceBEq, Int.reduceBNe, Int.reduceLT, Int.reduceLE, Int.reduceGT, Int.reduceGE, aggT_25, sizeT_25, bytesT_25, fieldT_25_0, fieldT_25_1, fieldT_25_2, fieldT_25_3, placesT_25, zeroT_25, aggT_23, sizeT_23, bytesT_23, und_23, elemT_23, zero1_23, zeroT_23, aggT_22, sizeT_22, bytesT_22, und_22, elemT_22, zero1_22, zeroT_22, aggT_3, sizeT_3, bytesT_3, und_3, zero1_3, zeroT_3, aggT_4, sizeT_4, bytesT_4, und_4, zero1_4, zeroT_4, aggT_54, sizeT_54, bytesT_54, zero1_54, zeroT_54, lenA_listS, h]
    (refine Eq.trans ?_ rfl; kernel_rfl)
  · simp only [zS, wantedA, opA, eff, boxA, cells, ev, gt, pt, putO, updO, setO, okC, loadA, cutC, fieldAddrA, fieldA, indexAddrA, indexA, builtinA, callOpA, callV, target, ptrV, lenS, binA, intOp, strOp, unA, num, lk, over, allocA, pickA, buildA, fillA, convertA, extractA, ofComp, nilCheckA, makeFuncA, ptrs, ofValue, cellB, Nat.reduceAdd, Nat.reduceSub, Nat.reduceMul, Nat.reduceLT, Nat.reduceLeDiff, Nat.reduceGT, ↓reduceIte, Nat.reduceEqDiff, Nat.reduceBEq, reduceCtorEq, Int.reduceBEq, Int.reduceBNe, Int.reduceLT, Int.reduceLE, Int.reduceGT, Int.reduceGE, aggT_25, sizeT_25, bytesT_25, fieldT_25_0, fieldT_25_1, fieldT_25_2, fieldT_25_3, placesT_25, zeroT_25, aggT_23, sizeT_23, bytesT_23, und_23, elemT_23, zero1_23, zeroT_23, aggT_22, sizeT_22, bytesT_22, und_22, elemT_22, zero1_22, zeroT_22, aggT_3, sizeT_3, bytesT_3, und_3, zero1_3, zeroT_3, aggT_4, sizeT_4, bytesT_4, und_4, zero1_4, zeroT_4, aggT_54, sizeT_54, bytesT_54, zero1_54, zeroT_54, lenA_listS, h, h40]
    (refine Eq.trans ?_ rfl; kernel_rfl)
theorem yes22 (hx : ext 22 = none) (zn zc : Bool) (names : List ByteArray) (codes : List Cd) (c : Cd) (b : Bool) (h40 : run Tryd.prog ext (.call 40 [cdV c] []) = some (.ret [bV false] [])) (h : (names.length : Int) = codes.length) (h38 : run Tryd.prog ext (.call 38 [cdsV zc codes, F40] []) = some (.ret [bV b] [])) :
    run Tryd.prog ext (.call 22 [.c (.d (listS zn names)), cdsV zc codes, cdV c] []) = some (.ret [bV (!b)] []) := by
  (rw [run_eq]; simp only [stepA, hx, Tryd.func22, Tryd.f22]; simp only [List.length_cons, List.length_nil, Nat.reduceAdd, Nat.reduceLeDiff, Nat.zero_le, ↓reduceIte, List.zipIdx_cons, List.zipIdx_nil, List.map_cons, List.map_nil])
  simp only [cdV, cdC, bV, cdsV, F40] at h40 h38 ⊢
  simp only [zS, wantedA, opA, eff, boxA, cells, ev, gt, pt, putO, updO, setO, okC, loadA, cutC, fieldAddrA, fieldA, indexAddrA, indexA, builtinA, callOpA, callV, target, ptrV, lenS, binA, intOp, strOp, unA, num, lk, over, allocA, pickA, buildA, fillA, convertA, extractA, ofComp, nilCheckA, makeFuncA, ptrs, ofValue, cellB, Nat.reduceAdd, Nat.reduceSub, Nat.reduceMul, Nat.reduceLT, Nat.reduceLeDiff, Nat.reduceGT, ↓reduceIte, Nat.reduceEqDiff, Nat.reduceBEq, reduceCtorEq, Int.reduceBEq, Int.reduceBNe, Int.reduceLT, Int.reduceLE, Int.reduceGT, Int.reduceGE, aggT_25, sizeT_25, bytesT_25, fieldT_25_0, fieldT_25_1, fieldT_25_2, fieldT_25_3, placesT_25, zeroT_25, aggT_23, sizeT_23, bytesT_23, und_23, elemT_23, zero1_23, zeroT_23, aggT_22, sizeT_22, bytesT_22, und_22, elemT_22, zero1_22, zeroT_22, aggT_3, sizeT_3, bytesT_3, und_3, zero1_3, zeroT_3, aggT_4, sizeT_4, bytesT_4, und_4, zero1_4, zeroT_4, aggT_54, sizeT_54, bytesT_54, zero1_54, zeroT_54, lenA_listS, h, h40, h38]
  (refine Eq.trans ?_ rfl; kernel_rfl)
variable {ext}
theorem may22 (hE : Ex ext) (zn zc : Bool) (names : List ByteArray) (codes : List Cd) (c : Cd) (hl : codes.length < 2 ^ 62) (hs : c.size < 2 ^ 60 ∧ Sml c) (hcs : ∀ y ∈ codes, y.size < 2 ^ 60 ∧ Sml y) :
    ∃ b, run Tryd.prog ext (.call 22 [.c (.d (listS zn names)), cdsV zc codes, cdV c] []) = some (.ret [bV b] []) ∧ (b = true → names.length = codes.length ∧ WF ext c ∧ ∀ y ∈ codes, WF ext y) := by
  obtain ⟨b, h1, h2⟩ := bad40 hE c hs.1 hs.2
  by_cases hlen : (names.length : Int) = codes.length
  · cases b with
    | true => exact ⟨false, no22 ext (hE.at 22 rfl) zn zc names codes c true h1 (.inr ⟨hlen, rfl⟩), fun h => by cases h⟩
    | false =>
      obtain ⟨i, g1, g2⟩ := index54m hE zc codes hl hcs
      refine ⟨_, yes22 ext (hE.at 22 rfl) zn zc names codes c _ h1 hlen (cont38m ext (hE.at 38 rfl) zc codes i g1), fun h => ?_⟩
      simp at h
      exact ⟨by omega, h2 rfl, g2 h⟩
  · exact ⟨false, no22 ext (hE.at 22 rfl) zn zc names codes c b h1 (.inl hlen), fun h => by cases h⟩
end Go.Proofs.YtmjacokkgfophaaDoor.Am
end
section
/- The deferred closure of run: it recovers a failure. -/
namespace Go.Proofs.YtmjacokkgfophaaDoor.Am
open Go
theorem nt23 : Tryd.f23.ntmps = 17 := by kernel_rfl
theorem res23 : Tryd.f23.results = #[] := by kernel_rfl
theorem rec23_idle (p : Addr) (w : World) :
    CallsD Tryd.prog 23 #[.pointer (some p)] .returning w fun e u' w' => e = .returned (.tuple #[]) ∧ u' = .returning ∧ w' = w := by
  have hne : ∀ w : World, (binOp BinOp.neq 20 .nilIface .nilIface).run Tryd.prog w = .ok (.bool false) w := fun _ => by kernel_rfl
  refine callsD_of_wpS Tryd.func23 rfl fun c₀ cs hu => ?_
  apply wpS_seq
  apply wpS_region
  simp [wpOpsS, go_sem, recoverD, hu, nt23, Exit.thenS]
  apply wpS_seq
  apply wpS_region
  simp [wpOpsS, go_sem, Exit.thenS, hne]
  refine wpS_cond (t := false) (by simp [Act.eval, Array.replicate]) ?_
  simp only [Bool.false_eq_true, if_false]
  refine wpS_of_wp (wp_skip ?_)
  cases c₀
  simp_all [bodyPostS, results, res23, Exit.thenS]
theorem rec23 (b : Nat) (w : World) (e e0 : Int) (ty : TypeId) (hb : w.heap[b]? = some (.cells #[.int .i64 e0] ty (0, 0))) :
    CallsD Tryd.prog 23 #[.pointer (some ⟨b, 0, none⟩)] (.panicking [{ v := failedV e, recovered := false }]) w fun en u' w' => en = .returned (.tuple #[]) ∧ u' = .panicking [{ v := failedV e, recovered := true }] ∧
      w' = { w with heap := (w.heap.push (.cells #[.int .i64 e] 53)).setIfInBounds b (.cells #[.int .i64 e] ty (0, 0)) } := by
  have hne : ∀ w : World, (binOp BinOp.neq 20 (failedV e) .nilIface).run Tryd.prog w = .ok (.bool true) w := fun _ => by kernel_rfl
  have hta : ∀ w : World, (Instr.typeAssert (failedV e) 20 53 true).run Tryd.prog w = .ok (.tuple #[.agg #[.int .i64 e], .bool true]) w := fun _ => by kernel_rfl
  have hal : ∀ w : World, (Instr.alloc 53 true (.tuple #[])).run Tryd.prog w = .ok (.pointer (some ⟨w.heap.size, 0, none⟩)) (w.alloc (.cells #[.int .i64 0] 53)) := fun _ => by kernel_rfl
  have hnot : ∀ (t : TypeId) (w : World), (Op.unary UnOp.not (.bool true)).run Tryd.prog w = .ok (.bool false) w := fun _ _ => by kernel_rfl
  have hblt : b < w.heap.size := (Array.getElem?_eq_some_iff.1 hb).1
  have hget : (w.alloc (.cells #[.int .i64 e] 53)).heap[b]? = some (.cells #[.int .i64 e0] ty (0, 0)) := by
    show (w.heap.push _)[b]? = _
    rw [Array.getElem?_push, if_neg (by omega), hb]
  have hcell : (w.alloc (.cells #[.int .i64 e] 53)).cell? ⟨b, 0, none⟩ = some (.int .i64 e0) := by simp [World.cell?, hget]
  have hfz : (w.alloc (.cells #[.int .i64 e] 53)).frozen? ⟨b, 0, none⟩ = false := by simp [World.frozen?, hget]
  have hset : (w.alloc (.cells #[.int .i64 e] 53)).setCell ⟨b, 0, none⟩ (.int .i64 e) = { w with heap := (w.heap.push (.cells #[.int .i64 e] 53)).setIfInBounds b (.cells #[.int .i64 e] ty (0, 0)) } := by
    simp only [World.setCell, World.alloc]
    congr 1
    apply Array.ext_getElem?
    intro i
    rw [Array.getElem?_modify, Array.getElem?_setIfInBounds]
    by_cases hi : b = i
    · subst hi
      have hp : (w.heap.push (.cells #[.int .i64 e] 53))[b]? = some (.cells #[.int .i64 e0] ty (0, 0)) := by rw [Array.getElem?_push, if_neg (by omega), hb]
      rw [if_pos rfl, if_pos rfl, hp, if_pos (by simp; omega)]
      rfl
    · rw [if_neg hi, if_neg hi]
  refine callsD_of_wpS Tryd.func23 rfl fun c₀ cs hu => ?_
  apply wpS_seq
  apply wpS_region
  simp [wpOpsS, go_sem, recoverD, hu, nt23, Exit.thenS]
  apply wpS_seq
  apply wpS_region
  simp [wpOpsS, go_sem, Exit.thenS, hne, eqGuard]
  refine wpS_cond (t := true) (by simp [Act.eval, Act.put]) ?_
  simp only [if_true]
  apply wpS_seq
  apply wpS_region
  simp [wpOpsS, go_sem, Exit.thenS, hta, hal]
  apply wpS_seq
  apply wpS_seq
  apply wpS_region
  simp [wpOpsS, go_sem, Exit.thenS]
  refine wpS_cond (t := false) (by simp [Act.eval, Act.put, Array.replicate]) ?_
  simp only [Bool.false_eq_true, if_false]
  refine wpS_of_wp (wp_skip ?_)
  simp only [Exit.thenS]
  apply wpS_region
  simp [wpOpsS, go_sem, Exit.thenS, hcell, hfz, hset]
  refine ⟨rfl, _, by cases c₀; rfl, .tuple #[], ?_, rfl, rfl, rfl⟩
  simp [results, res23]
end Go.Proofs.YtmjacokkgfophaaDoor.Am
end
section
/- run: calls a closure with a machine, and returns the error with which it stopped. -/
namespace Go.Proofs.YtmjacokkgfophaaDoor.Am
open Go
set_option maxHeartbeats 8000000
set_option maxRecDepth 10000
theorem nt13 : Tryd.f13.ntmps = 26 := by kernel_rfl
theorem bodied23 : Bodied Tryd.prog 23 := ⟨Tryd.f23, Tryd.func23, by kernel_rfl⟩
noncomputable def r13_4 : Code := sub (Tryd.f13.body.getD .skip) [1, 1, 0]
theorem settle_rec (v : Value) : settle (.panicking [{ v := v, recovered := true }]) = .returning := rfl
def objsA (c : Cd) : List O := [.box (cdC c), .box (zrow.map .d), .box [.d (.v (.int .i64 0))]]
def argsA (nd cd : D) (c : Cd) (fu : Int) : List V := [.c (.d nd), .c (.d cd), cdV c, iV fu, .c (.fn 14 [] [0, 1, 2])]
theorem no13A {ext : Ext} (hrec : RecOK Tryd.prog (run Tryd.prog ext)) (nd cd : D) (c : Cd) (fu : Int) (h22 : run Tryd.prog ext (.call 22 [.c (.d nd), .c (.d cd), cdV c] []) = some (.ret [bV false] [])) :
    CallOK Tryd.prog 13 (argsA nd cd c fu) (objsA c) (.ret [iV 210] (objsA c)) := by
  intro w F0 β vals hS hargs
  refine calls_of_reach_d Tryd.func13 rfl ?_
  have hvl : vals.length = 5 := hargs.length
  have hE := env_init (n := Tryd.f13.ntmps) hargs
  have hsz : (vals.toArray ++ Array.replicate (Tryd.f13.ntmps - vals.toArray.size) undef).size = 26 := by rw [nt13]; simp; omega
  simp only [argsA, objsA, cdV, cdC, iV, zrow, List.map_cons, List.map_nil, List.zipIdx_cons, List.zipIdx_nil, Nat.zero_add, Nat.reduceAdd, bV] at hE hS h22 ⊢
  obtain ⟨a, ha⟩ : ∃ a : Act, a = { tmps := vals.toArray ++ Array.replicate (Tryd.f13.ntmps - vals.toArray.size) undef, defers := [] } := ⟨_, rfl⟩
  have ht : a.tmps = vals.toArray ++ Array.replicate (Tryd.f13.ntmps - vals.toArray.size) undef := by rw [ha]
  have hd0 : a.defers = [] := by rw [ha]
  rw [← ha]
  rw [← ht] at hE hsz
  refine reach_step (fun b cs => step_seq) (reach_seg' named hrec hsz hS hE ?_)
  simp only [segOps, zS, wantedA, opA, eff, boxA, cells, ev, gt, pt, putO, updO, setO, okC, loadA, cutC, fieldAddrA, fieldA, indexAddrA, indexA, builtinA, callOpA, callV, target, ptrV, lenS, binA, intOp, strOp, unA, num, lk, over, allocA, pickA, buildA, fillA, convertA, extractA, ofComp, nilCheckA, makeFuncA, ptrs, ofValue, cellB, Nat.reduceAdd, Nat.reduceSub, Nat.reduceMul, Nat.reduceLT, Nat.reduceLeDiff, Nat.reduceGT, ↓reduceIte, Nat.reduceEqDiff, Nat.reduceBEq, reduceCtorEq, Int.reduceBEq, Int.reduceBNe, Int.reduceLT, Int.reduceLE, Int.reduceGT, Int.reduceGE, aggT_25, sizeT_25, bytesT_25, fieldT_25_0, fieldT_25_1, fieldT_25_2, fieldT_25_3, placesT_25, zeroT_25, aggT_23, sizeT_23, bytesT_23, und_23, elemT_23, zero1_23, zeroT_23, aggT_29, sizeT_29, bytesT_29, und_29, zero1_29, zeroT_29, aggT_44, sizeT_44, bytesT_44, fieldT_44_0, fieldT_44_1, fieldT_44_2, fieldT_44_3, fieldT_44_4, placesT_44, zeroT_44, aggT_3, sizeT_3, bytesT_3, und_3, zero1_3, zeroT_3, aggT_4, sizeT_4, bytesT_4, und_4, zero1_4, zeroT_4]
  intro a1 w1 β1 hb1
  obtain ⟨hS1, hE1, st1, sz1, d1⟩ := hb1
  refine reach_step (fun b cs => step_seq) (reach_step (fun b cs => step_seq) (reach_seg' named hrec (sz1.trans hsz) hS1 hE1 ?_))
  simp only [segOps, zS, wantedA, opA, eff, boxA, cells, ev, gt, pt, putO, updO, setO, okC, loadA, cutC, fieldAddrA, fieldA, indexAddrA, indexA, builtinA, callOpA, callV, target, ptrV, lenS, binA, intOp, strOp, unA, num, lk, over, allocA, pickA, buildA, fillA, convertA, extractA, ofComp, nilCheckA, makeFuncA, ptrs, ofValue, cellB, Nat.reduceAdd, Nat.reduceSub, Nat.reduceMul, Nat.reduceLT, Nat.reduceLeDiff, Nat.reduceGT, ↓reduceIte, Nat.reduceEqDiff, Nat.reduceBEq, reduceCtorEq, Int.reduceBEq, Int.reduceBNe, Int.reduceLT, Int.reduceLE, Int.reduceGT, Int.reduceGE, aggT_25, sizeT_25, bytesT_25, fieldT_25_0, fieldT_25_1, fieldT_25_2, fieldT_25_3, placesT_25, zeroT_25, aggT_23, sizeT_23, bytesT_23, und_23, elemT_23, zero1_23, zeroT_23, aggT_29, sizeT_29, bytesT_29, und_29, zero1_29, zeroT_29, aggT_44, sizeT_44, bytesT_44, fieldT_44_0, fieldT_44_1, fieldT_44_2, fieldT_44_3, fieldT_44_4, placesT_44, zeroT_44, aggT_3, sizeT_3, bytesT_3, und_3, zero1_3, zeroT_3, aggT_4, sizeT_4, bytesT_4, und_4, zero1_4, zeroT_4, h22]
  intro a2 w2 β2 hb2
  obtain ⟨hS2, hE2, st2, sz2, d2⟩ := hb2
  refine reach_cond (t := true) hE2 rfl ?_
  simp only [if_true]
  refine reach_step (fun b cs => step_seq) (reach_seg' named hrec (sz2.trans (sz1.trans hsz)) hS2 hE2 ?_)
  simp only [segOps, zS, wantedA, opA, eff, boxA, cells, ev, gt, pt, putO, updO, setO, okC, loadA, cutC, fieldAddrA, fieldA, indexAddrA, indexA, builtinA, callOpA, callV, target, ptrV, lenS, binA, intOp, strOp, unA, num, lk, over, allocA, pickA, buildA, fillA, convertA, extractA, ofComp, nilCheckA, makeFuncA, ptrs, ofValue, cellB, Nat.reduceAdd, Nat.reduceSub, Nat.reduceMul, Nat.reduceLT, Nat.reduceLeDiff, Nat.reduceGT, ↓reduceIte, Nat.reduceEqDiff, Nat.reduceBEq, reduceCtorEq, Int.reduceBEq, Int.reduceBNe, Int.reduceLT, Int.reduceLE, Int.reduceGT, Int.reduceGE, aggT_25, sizeT_25, bytesT_25, fieldT_25_0, fieldT_25_1, fieldT_25_2, fieldT_25_3, placesT_25, zeroT_25, aggT_23, sizeT_23, bytesT_23, und_23, elemT_23, zero1_23, zeroT_23, aggT_29, sizeT_29, bytesT_29, und_29, zero1_29, zeroT_29, aggT_44, sizeT_44, bytesT_44, fieldT_44_0, fieldT_44_1, fieldT_44_2, fieldT_44_3, fieldT_44_4, placesT_44, zeroT_44, aggT_3, sizeT_3, bytesT_3, und_3, zero1_3, zeroT_3, aggT_4, sizeT_4, bytesT_4, und_4, zero1_4, zeroT_4]
  intro a3 w3 β3 hb3
  obtain ⟨hS3, hE3, st3, sz3, d3⟩ := hb3
  refine reach_end (fun b cs => step_ret) ?_
  have hfin := finish_ok (P := Tryd.prog) (cf := ⟨26, 3, [.cell 10 29]⟩) (out := .ret [iV 210] (objsA c)) hS3 hE3 (fn := Tryd.f13) (by kernel_rfl) (by kernel_rfl)
  obtain ⟨vs, os, v, β', h1, h2, h3, h4, h5⟩ := hfin
  cases h1
  rw [d3, d2, d1, hd0]
  exact ⟨v, h2, β', v, rfl, h3, h4, (st1.trans (st2.trans st3)).some.trans h5⟩
theorem ok13A {ext : Ext} (hrec : RecOK Tryd.prog (run Tryd.prog ext)) (nd cd : D) (c : Cd) (fu g F0' F u r : Int) (y : Cd) (n : Int) (h22 : run Tryd.prog ext (.call 22 [.c (.d nd), .c (.d cd), cdV c] []) = some (.ret [bV true] [])) (hm1 : (if (0 : Int) > fu then 0 else fu) = g) (hm2 : (if (200000 : Int) < g then 200000 else g) = F0')
    (hclo : run Tryd.prog ext (.call 14 [.c (.ptr 0 0), .c (.ptr 1 0), .c (.ptr 2 0), .c (.ptr 3 0)] (M15 nd cd F0' 0 0 :: objsA c)) = some (.ret [] ([M15 nd cd F u r] ++ [.box (cdC c), .box (cdC y), .box [.d (.v (.int .i64 n))]]))) :
    CallOK Tryd.prog 13 (argsA nd cd c fu) (objsA c) (.ret [iV 0] [.box (cdC c), .box (cdC y), .box [.d (.v (.int .i64 n))]]) := by
  have ecall := callA_of (rec := run Tryd.prog ext) (look := lk (objsA c ++ [.box (cdC c), .box [.d (.v (.int .i64 0))], M15 nd cd F0' 0 0])) (slot := 6) (f := 14) (args := [.c (.ptr 5 0), .c (.ptr 0 0), .c (.ptr 1 0), .c (.ptr 2 0)]) (ids := [5, 0, 1, 2]) (bor := []) (e := ⟨.val (.tup []), [(5, M15 nd cd F u r), (0, (.box (cdC c))), (1, (.box (cdC y))), (2, (.box [.d (.v (.int .i64 n))]))], [5, 0, 1, 2]⟩) (by kernel_rfl) hclo (by kernel_rfl)
  simp only [objsA, cdC, zrow, M15, List.map_cons, List.map_nil, List.cons_append, List.nil_append] at ecall
  intro w F0 β vals hS hargs
  refine calls_of_reach_d Tryd.func13 rfl ?_
  have hvl : vals.length = 5 := hargs.length
  have hE := env_init (n := Tryd.f13.ntmps) hargs
  have hsz : (vals.toArray ++ Array.replicate (Tryd.f13.ntmps - vals.toArray.size) undef).size = 26 := by rw [nt13]; simp; omega
  simp only [argsA, objsA, cdV, cdC, iV, zrow, List.map_cons, List.map_nil, List.zipIdx_cons, List.zipIdx_nil, Nat.zero_add, Nat.reduceAdd, bV] at hE hS h22 ⊢
  obtain ⟨a, ha⟩ : ∃ a : Act, a = { tmps := vals.toArray ++ Array.replicate (Tryd.f13.ntmps - vals.toArray.size) undef, defers := [] } := ⟨_, rfl⟩
  have ht : a.tmps = vals.toArray ++ Array.replicate (Tryd.f13.ntmps - vals.toArray.size) undef := by rw [ha]
  have hd0 : a.defers = [] := by rw [ha]
  rw [← ha]
  rw [← ht] at hE hsz
  refine reach_step (fun b cs => step_seq) (reach_seg' named hrec hsz hS hE ?_)
  simp only [segOps, zS, wantedA, opA, eff, boxA, cells, ev, gt, pt, putO, updO, setO, okC, loadA, cutC, fieldAddrA, fieldA, indexAddrA, indexA, builtinA, callOpA, callV, target, ptrV, lenS, binA, intOp, strOp, unA, num, lk, over, allocA, pickA, buildA, fillA, convertA, extractA, ofComp, nilCheckA, makeFuncA, ptrs, ofValue, cellB, Nat.reduceAdd, Nat.reduceSub, Nat.reduceMul, Nat.reduceLT, Nat.reduceLeDiff, Nat.reduceGT, ↓reduceIte, Nat.reduceEqDiff, Nat.reduceBEq, reduceCtorEq, Int.reduceBEq, Int.reduceBNe, Int.reduceLT, Int.reduceLE, Int.reduceGT, Int.reduceGE, aggT_25, sizeT_25, bytesT_25, fieldT_25_0, fieldT_25_1, fieldT_25_2, fieldT_25_3, placesT_25, zeroT_25, aggT_23, sizeT_23, bytesT_23, und_23, elemT_23, zero1_23, zeroT_23, aggT_29, sizeT_29, bytesT_29, und_29, zero1_29, zeroT_29, aggT_44, sizeT_44, bytesT_44, fieldT_44_0, fieldT_44_1, fieldT_44_2, fieldT_44_3, fieldT_44_4, placesT_44, zeroT_44, aggT_3, sizeT_3, bytesT_3, und_3, zero1_3, zeroT_3, aggT_4, sizeT_4, bytesT_4, und_4, zero1_4, zeroT_4]
  intro a1 w1 β1 hb1
  obtain ⟨hS1, hE1, st1, sz1, d1⟩ := hb1
  refine reach_step (fun b cs => step_seq) (reach_step (fun b cs => step_seq) (reach_seg' named hrec (sz1.trans hsz) hS1 hE1 ?_))
  simp only [segOps, zS, wantedA, opA, eff, boxA, cells, ev, gt, pt, putO, updO, setO, okC, loadA, cutC, fieldAddrA, fieldA, indexAddrA, indexA, builtinA, callOpA, callV, target, ptrV, lenS, binA, intOp, strOp, unA, num, lk, over, allocA, pickA, buildA, fillA, convertA, extractA, ofComp, nilCheckA, makeFuncA, ptrs, ofValue, cellB, Nat.reduceAdd, Nat.reduceSub, Nat.reduceMul, Nat.reduceLT, Nat.reduceLeDiff, Nat.reduceGT, ↓reduceIte, Nat.reduceEqDiff, Nat.reduceBEq, reduceCtorEq, Int.reduceBEq, Int.reduceBNe, Int.reduceLT, Int.reduceLE, Int.reduceGT, Int.reduceGE, aggT_25, sizeT_25, bytesT_25, fieldT_25_0, fieldT_25_1, fieldT_25_2, fieldT_25_3, placesT_25, zeroT_25, aggT_23, sizeT_23, bytesT_23, und_23, elemT_23, zero1_23, zeroT_23, aggT_29, sizeT_29, bytesT_29, und_29, zero1_29, zeroT_29, aggT_44, sizeT_44, bytesT_44, fieldT_44_0, fieldT_44_1, fieldT_44_2, fieldT_44_3, fieldT_44_4, placesT_44, zeroT_44, aggT_3, sizeT_3, bytesT_3, und_3, zero1_3, zeroT_3, aggT_4, sizeT_4, bytesT_4, und_4, zero1_4, zeroT_4, h22]
  intro a2 w2 β2 hb2
  obtain ⟨hS2, hE2, st2, sz2, d2⟩ := hb2
  refine reach_cond (t := false) hE2 rfl ?_
  simp only [Bool.false_eq_true, if_false]
  refine reach_step (fun b cs => step_skip) (reach_step (fun b cs => step_seq) (reach_pre named hrec 1 [1] rfl rfl (sz2.trans (sz1.trans hsz)) hS2 hE2 ?_))
  simp only [segOps, List.take_succ_cons, List.take_zero, zS, wantedA, opA, eff, boxA, cells, ev, gt, pt, putO, updO, setO, okC, loadA, cutC, fieldAddrA, fieldA, indexAddrA, indexA, builtinA, callOpA, callV, target, ptrV, lenS, binA, intOp, strOp, unA, num, lk, over, allocA, pickA, buildA, fillA, convertA, extractA, ofComp, nilCheckA, makeFuncA, ptrs, ofValue, cellB, Nat.reduceAdd, Nat.reduceSub, Nat.reduceMul, Nat.reduceLT, Nat.reduceLeDiff, Nat.reduceGT, ↓reduceIte, Nat.reduceEqDiff, Nat.reduceBEq, reduceCtorEq, Int.reduceBEq, Int.reduceBNe, Int.reduceLT, Int.reduceLE, Int.reduceGT, Int.reduceGE, aggT_25, sizeT_25, bytesT_25, fieldT_25_0, fieldT_25_1, fieldT_25_2, fieldT_25_3, placesT_25, zeroT_25, aggT_23, sizeT_23, bytesT_23, und_23, elemT_23, zero1_23, zeroT_23, aggT_29, sizeT_29, bytesT_29, und_29, zero1_29, zeroT_29, aggT_44, sizeT_44, bytesT_44, fieldT_44_0, fieldT_44_1, fieldT_44_2, fieldT_44_3, fieldT_44_4, placesT_44, zeroT_44, aggT_3, sizeT_3, bytesT_3, und_3, zero1_3, zeroT_3, aggT_4, sizeT_4, bytesT_4, und_4, zero1_4, zeroT_4]
  intro a3 w3 β3 hb3
  obtain ⟨hS3, hE3, st3, sz3, d3⟩ := hb3
  have hfn : a3.eval (.tmp 16) = .func (.func 23) #[] #[addrV (β3 4)] := (ev_rep hE3 (.tmp 16)).1
  refine wp_defer (o := _) rfl rfl rfl rfl hfn ?_
  generalize had : ({ a3 with defers := { target := .fn (.func 23) #[addrV (β3 4)], args := #[] } :: a3.defers } : Act) = a4
  have ht4 : a4.tmps = a3.tmps := by rw [← had]
  have hd4 : a4.defers = [{ target := .fn (.func 23) #[addrV (β3 4)], args := #[] }] := by rw [← had]; show _ :: a3.defers = _; rw [d3, d2, d1, hd0]
  rw [← ht4] at hE3 sz3
  refine reach_step (fun b cs => step_seq) (reach_pre named hrec 8 [8] rfl rfl (sz3.trans (sz2.trans (sz1.trans hsz))) hS3 hE3 ?_)
  simp only [segOps, List.take_succ_cons, List.take_zero, zS, wantedA, opA, eff, boxA, cells, ev, gt, pt, putO, updO, setO, okC, loadA, cutC, fieldAddrA, fieldA, indexAddrA, indexA, builtinA, callOpA, callV, target, ptrV, lenS, binA, intOp, strOp, unA, num, lk, over, allocA, pickA, buildA, fillA, convertA, extractA, ofComp, nilCheckA, makeFuncA, ptrs, ofValue, cellB, Nat.reduceAdd, Nat.reduceSub, Nat.reduceMul, Nat.reduceLT, Nat.reduceLeDiff, Nat.reduceGT, ↓reduceIte, Nat.reduceEqDiff, Nat.reduceBEq, reduceCtorEq, Int.reduceBEq, Int.reduceBNe, Int.reduceLT, Int.reduceLE, Int.reduceGT, Int.reduceGE, aggT_25, sizeT_25, bytesT_25, fieldT_25_0, fieldT_25_1, fieldT_25_2, fieldT_25_3, placesT_25, zeroT_25, aggT_23, sizeT_23, bytesT_23, und_23, elemT_23, zero1_23, zeroT_23, aggT_29, sizeT_29, bytesT_29, und_29, zero1_29, zeroT_29, aggT_44, sizeT_44, bytesT_44, fieldT_44_0, fieldT_44_1, fieldT_44_2, fieldT_44_3, fieldT_44_4, placesT_44, zeroT_44, aggT_3, sizeT_3, bytesT_3, und_3, zero1_3, zeroT_3, aggT_4, sizeT_4, bytesT_4, und_4, zero1_4, zeroT_4, maxA, minA, hm1, hm2]
  intro a5 w5 β5 hb5
  obtain ⟨hS5, hE5, st5, sz5, d5⟩ := hb5
  refine wp_op named hrec (e := ⟨.val (.tup []), [(5, M15 nd cd F u r), (0, (.box (cdC c))), (1, (.box (cdC y))), (2, (.box [.d (.v (.int .i64 n))]))], [5, 0, 1, 2]⟩) rfl rfl hS5 hE5 (by rw [sz5, sz3, sz2, sz1, hsz]; rfl) (by
    simp only [cdC, M15, zS, wantedA, opA, eff, boxA, cells, ev, gt, pt, putO, updO, setO, okC, loadA, cutC, fieldAddrA, fieldA, indexAddrA, indexA, builtinA, callOpA, callV, target, ptrV, lenS, binA, intOp, strOp, unA, num, lk, over, allocA, pickA, buildA, fillA, convertA, extractA, ofComp, nilCheckA, makeFuncA, ptrs, ofValue, cellB, Nat.reduceAdd, Nat.reduceSub, Nat.reduceMul, Nat.reduceLT, Nat.reduceLeDiff, Nat.reduceGT, ↓reduceIte, Nat.reduceEqDiff, Nat.reduceBEq, reduceCtorEq, Int.reduceBEq, Int.reduceBNe, Int.reduceLT, Int.reduceLE, Int.reduceGT, Int.reduceGE, aggT_25, sizeT_25, bytesT_25, fieldT_25_0, fieldT_25_1, fieldT_25_2, fieldT_25_3, placesT_25, zeroT_25, aggT_23, sizeT_23, bytesT_23, und_23, elemT_23, zero1_23, zeroT_23, aggT_29, sizeT_29, bytesT_29, und_29, zero1_29, zeroT_29, aggT_44, sizeT_44, bytesT_44, fieldT_44_0, fieldT_44_1, fieldT_44_2, fieldT_44_3, fieldT_44_4, placesT_44, zeroT_44, aggT_3, sizeT_3, bytesT_3, und_3, zero1_3, zeroT_3, aggT_4, sizeT_4, bytesT_4, und_4, zero1_4, zeroT_4]
    exact ecall) ?_
  intro a6 w6 β6 hb6
  obtain ⟨hS6, hE6, st6, sz6, d6⟩ := hb6
  simp only [cdC, M15, zS, wantedA, opA, eff, boxA, cells, ev, gt, pt, putO, updO, setO, okC, loadA, cutC, fieldAddrA, fieldA, indexAddrA, indexA, builtinA, callOpA, callV, target, ptrV, lenS, binA, intOp, strOp, unA, num, lk, over, allocA, pickA, buildA, fillA, convertA, extractA, ofComp, nilCheckA, makeFuncA, ptrs, ofValue, cellB, Nat.reduceAdd, Nat.reduceSub, Nat.reduceMul, Nat.reduceLT, Nat.reduceLeDiff, Nat.reduceGT, ↓reduceIte, Nat.reduceEqDiff, Nat.reduceBEq, reduceCtorEq, Int.reduceBEq, Int.reduceBNe, Int.reduceLT, Int.reduceLE, Int.reduceGT, Int.reduceGE, aggT_25, sizeT_25, bytesT_25, fieldT_25_0, fieldT_25_1, fieldT_25_2, fieldT_25_3, placesT_25, zeroT_25, aggT_23, sizeT_23, bytesT_23, und_23, elemT_23, zero1_23, zeroT_23, aggT_29, sizeT_29, bytesT_29, und_29, zero1_29, zeroT_29, aggT_44, sizeT_44, bytesT_44, fieldT_44_0, fieldT_44_1, fieldT_44_2, fieldT_44_3, fieldT_44_4, placesT_44, zeroT_44, aggT_3, sizeT_3, bytesT_3, und_3, zero1_3, zeroT_3, aggT_4, sizeT_4, bytesT_4, und_4, zero1_4, zeroT_4] at hS6 hE6 st6
  show Reach Tryd.prog _ a6 w6 _
  refine reach_step (fun b cs => step_seq) (reach_seg' named hrec (sz6.trans (sz5.trans (sz3.trans (sz2.trans (sz1.trans hsz))))) hS6 hE6 ?_)
  simp only [segOps, zS, wantedA, opA, eff, boxA, cells, ev, gt, pt, putO, updO, setO, okC, loadA, cutC, fieldAddrA, fieldA, indexAddrA, indexA, builtinA, callOpA, callV, target, ptrV, lenS, binA, intOp, strOp, unA, num, lk, over, allocA, pickA, buildA, fillA, convertA, extractA, ofComp, nilCheckA, makeFuncA, ptrs, ofValue, cellB, Nat.reduceAdd, Nat.reduceSub, Nat.reduceMul, Nat.reduceLT, Nat.reduceLeDiff, Nat.reduceGT, ↓reduceIte, Nat.reduceEqDiff, Nat.reduceBEq, reduceCtorEq, Int.reduceBEq, Int.reduceBNe, Int.reduceLT, Int.reduceLE, Int.reduceGT, Int.reduceGE, aggT_25, sizeT_25, bytesT_25, fieldT_25_0, fieldT_25_1, fieldT_25_2, fieldT_25_3, placesT_25, zeroT_25, aggT_23, sizeT_23, bytesT_23, und_23, elemT_23, zero1_23, zeroT_23, aggT_29, sizeT_29, bytesT_29, und_29, zero1_29, zeroT_29, aggT_44, sizeT_44, bytesT_44, fieldT_44_0, fieldT_44_1, fieldT_44_2, fieldT_44_3, fieldT_44_4, placesT_44, zeroT_44, aggT_3, sizeT_3, bytesT_3, und_3, zero1_3, zeroT_3, aggT_4, sizeT_4, bytesT_4, und_4, zero1_4, zeroT_4]
  intro a7 w7 β7 hb7
  obtain ⟨hS7, hE7, st7, sz7, d7⟩ := hb7
  refine reach_end (fun b cs => step_ret) ?_
  have hfin := finish_ok (P := Tryd.prog) (cf := ⟨26, 3, [.cell 10 29]⟩) (out := .ret [iV 0] [.box (cdC c), .box (cdC y), .box [.d (.v (.int .i64 n))]]) hS7 hE7 (fn := Tryd.f13) (by kernel_rfl) (by kernel_rfl)
  obtain ⟨vs, os, v, β', h1, h2, h3, h4, h5⟩ := hfin
  cases h1
  show Leaves _ _ a7.tmps _ a7.defers _ _
  rw [d7, d6, d5, hd4]
  refine leaves_cons (f := 23) (args := #[addrV (β3 4)]) (by simp) (by simp only [invoke]; exact run_callFunc named bodied23 _ _) ?_
  refine (rec23_idle ⟨β3 4, 0, none⟩ w7).mono ?_
  rintro e u' w' ⟨rfl, rfl, rfl⟩
  exact ⟨v, h2, β', v, rfl, h3, h4, (st1.trans (st2.trans (st3.trans (st5.trans (st6.trans st7))))).some.trans h5⟩
theorem pan13A {ext : Ext} (hrec : RecOK Tryd.prog (run Tryd.prog ext)) (nd cd : D) (c : Cd) (fu g F0' F u r : Int) (er : Int) (y : Cd) (n : Int) (h22 : run Tryd.prog ext (.call 22 [.c (.d nd), .c (.d cd), cdV c] []) = some (.ret [bV true] [])) (hm1 : (if (0 : Int) > fu then 0 else fu) = g) (hm2 : (if (200000 : Int) < g then 200000 else g) = F0')
    (hclo : run Tryd.prog ext (.call 14 [.c (.ptr 0 0), .c (.ptr 1 0), .c (.ptr 2 0), .c (.ptr 3 0)] (M15 nd cd F0' 0 0 :: objsA c)) = some (.pan (failedV er) ([M15 nd cd F u r] ++ [.box (cdC c), .box (cdC y), .box [.d (.v (.int .i64 n))]]))) :
    CallOK Tryd.prog 13 (argsA nd cd c fu) (objsA c) (.ret [iV er] [.box (cdC c), .box (cdC y), .box [.d (.v (.int .i64 n))]]) := by
  have ecall := callA_of (rec := run Tryd.prog ext) (look := lk (objsA c ++ [.box (cdC c), .box [.d (.v (.int .i64 0))], M15 nd cd F0' 0 0])) (slot := 6) (f := 14) (args := [.c (.ptr 5 0), .c (.ptr 0 0), .c (.ptr 1 0), .c (.ptr 2 0)]) (ids := [5, 0, 1, 2]) (bor := []) (e := ⟨.pan (failedV er), [(5, M15 nd cd F u r), (0, (.box (cdC c))), (1, (.box (cdC y))), (2, (.box [.d (.v (.int .i64 n))]))], [5, 0, 1, 2]⟩) (by kernel_rfl) hclo (by kernel_rfl)
  simp only [objsA, cdC, zrow, M15, List.map_cons, List.map_nil, List.cons_append, List.nil_append] at ecall
  intro w F0 β vals hS hargs
  refine calls_of_reach_d Tryd.func13 rfl ?_
  have hvl : vals.length = 5 := hargs.length
  have hE := env_init (n := Tryd.f13.ntmps) hargs
  have hsz : (vals.toArray ++ Array.replicate (Tryd.f13.ntmps - vals.toArray.size) undef).size = 26 := by rw [nt13]; simp; omega
  simp only [argsA, objsA, cdV, cdC, iV, zrow, List.map_cons, List.map_nil, List.zipIdx_cons, List.zipIdx_nil, Nat.zero_add, Nat.reduceAdd, bV] at hE hS h22 ⊢
  obtain ⟨a, ha⟩ : ∃ a : Act, a = { tmps := vals.toArray ++ Array.replicate (Tryd.f13.ntmps - vals.toArray.size) undef, defers := [] } := ⟨_, rfl⟩
  have ht : a.tmps = vals.toArray ++ Array.replicate (Tryd.f13.ntmps - vals.toArray.size) undef := by rw [ha]
  have hd0 : a.defers = [] := by rw [ha]
  rw [← ha]
  rw [← ht] at hE hsz
  refine reach_step (fun b cs => step_seq) (reach_seg' named hrec hsz hS hE ?_)
  simp only [segOps, zS, wantedA, opA, eff, boxA, cells, ev, gt, pt, putO, updO, setO, okC, loadA, cutC, fieldAddrA, fieldA, indexAddrA, indexA, builtinA, callOpA, callV, target, ptrV, lenS, binA, intOp, strOp, unA, num, lk, over, allocA, pickA, buildA, fillA, convertA, extractA, ofComp, nilCheckA, makeFuncA, ptrs, ofValue, cellB, Nat.reduceAdd, Nat.reduceSub, Nat.reduceMul, Nat.reduceLT, Nat.reduceLeDiff, Nat.reduceGT, ↓reduceIte, Nat.reduceEqDiff, Nat.reduceBEq, reduceCtorEq, Int.reduceBEq, Int.reduceBNe, Int.reduceLT, Int.reduceLE, Int.reduceGT, Int.reduceGE, aggT_25, sizeT_25, bytesT_25, fieldT_25_0, fieldT_25_1, fieldT_25_2, fieldT_25_3, placesT_25, zeroT_25, aggT_23, sizeT_23, bytesT_23, und_23, elemT_23, zero1_23, zeroT_23, aggT_29, sizeT_29, bytesT_29, und_29, zero1_29, zeroT_29, aggT_44, sizeT_44, bytesT_44, fieldT_44_0, fieldT_44_1, fieldT_44_2, fieldT_44_3, fieldT_44_4, placesT_44, zeroT_44, aggT_3, sizeT_3, bytesT_3, und_3, zero1_3, zeroT_3, aggT_4, sizeT_4, bytesT_4, und_4, zero1_4, zeroT_4]
  intro a1 w1 β1 hb1
  obtain ⟨hS1, hE1, st1, sz1, d1⟩ := hb1
  refine reach_step (fun b cs => step_seq) (reach_step (fun b cs => step_seq) (reach_seg' named hrec (sz1.trans hsz) hS1 hE1 ?_))
  simp only [segOps, zS, wantedA, opA, eff, boxA, cells, ev, gt, pt, putO, updO, setO, okC, loadA, cutC, fieldAddrA, fieldA, indexAddrA, indexA, builtinA, callOpA, callV, target, ptrV, lenS, binA, intOp, strOp, unA, num, lk, over, allocA, pickA, buildA, fillA, convertA, extractA, ofComp, nilCheckA, makeFuncA, ptrs, ofValue, cellB, Nat.reduceAdd, Nat.reduceSub, Nat.reduceMul, Nat.reduceLT, Nat.reduceLeDiff, Nat.reduceGT, ↓reduceIte, Nat.reduceEqDiff, Nat.reduceBEq, reduceCtorEq, Int.reduceBEq, Int.reduceBNe, Int.reduceLT, Int.reduceLE, Int.reduceGT, Int.reduceGE, aggT_25, sizeT_25, bytesT_25, fieldT_25_0, fieldT_25_1, fieldT_25_2, fieldT_25_3, placesT_25, zeroT_25, aggT_23, sizeT_23, bytesT_23, und_23, elemT_23, zero1_23, zeroT_23, aggT_29, sizeT_29, bytesT_29, und_29, zero1_29, zeroT_29, aggT_44, sizeT_44, bytesT_44, fieldT_44_0, fieldT_44_1, fieldT_44_2, fieldT_44_3, fieldT_44_4, placesT_44, zeroT_44, aggT_3, sizeT_3, bytesT_3, und_3, zero1_3, zeroT_3, aggT_4, sizeT_4, bytesT_4, und_4, zero1_4, zeroT_4, h22]
  intro a2 w2 β2 hb2
  obtain ⟨hS2, hE2, st2, sz2, d2⟩ := hb2
  refine reach_cond (t := false) hE2 rfl ?_
  simp only [Bool.false_eq_true, if_false]
  refine reach_step (fun b cs => step_skip) (reach_step (fun b cs => step_seq) (reach_pre named hrec 1 [1] rfl rfl (sz2.trans (sz1.trans hsz)) hS2 hE2 ?_))
  simp only [segOps, List.take_succ_cons, List.take_zero, zS, wantedA, opA, eff, boxA, cells, ev, gt, pt, putO, updO, setO, okC, loadA, cutC, fieldAddrA, fieldA, indexAddrA, indexA, builtinA, callOpA, callV, target, ptrV, lenS, binA, intOp, strOp, unA, num, lk, over, allocA, pickA, buildA, fillA, convertA, extractA, ofComp, nilCheckA, makeFuncA, ptrs, ofValue, cellB, Nat.reduceAdd, Nat.reduceSub, Nat.reduceMul, Nat.reduceLT, Nat.reduceLeDiff, Nat.reduceGT, ↓reduceIte, Nat.reduceEqDiff, Nat.reduceBEq, reduceCtorEq, Int.reduceBEq, Int.reduceBNe, Int.reduceLT, Int.reduceLE, Int.reduceGT, Int.reduceGE, aggT_25, sizeT_25, bytesT_25, fieldT_25_0, fieldT_25_1, fieldT_25_2, fieldT_25_3, placesT_25, zeroT_25, aggT_23, sizeT_23, bytesT_23, und_23, elemT_23, zero1_23, zeroT_23, aggT_29, sizeT_29, bytesT_29, und_29, zero1_29, zeroT_29, aggT_44, sizeT_44, bytesT_44, fieldT_44_0, fieldT_44_1, fieldT_44_2, fieldT_44_3, fieldT_44_4, placesT_44, zeroT_44, aggT_3, sizeT_3, bytesT_3, und_3, zero1_3, zeroT_3, aggT_4, sizeT_4, bytesT_4, und_4, zero1_4, zeroT_4]
  intro a3 w3 β3 hb3
  obtain ⟨hS3, hE3, st3, sz3, d3⟩ := hb3
  have hfn : a3.eval (.tmp 16) = .func (.func 23) #[] #[addrV (β3 4)] := (ev_rep hE3 (.tmp 16)).1
  refine wp_defer (o := _) rfl rfl rfl rfl hfn ?_
  generalize had : ({ a3 with defers := { target := .fn (.func 23) #[addrV (β3 4)], args := #[] } :: a3.defers } : Act) = a4
  have ht4 : a4.tmps = a3.tmps := by rw [← had]
  have hd4 : a4.defers = [{ target := .fn (.func 23) #[addrV (β3 4)], args := #[] }] := by rw [← had]; show _ :: a3.defers = _; rw [d3, d2, d1, hd0]
  rw [← ht4] at hE3 sz3
  refine reach_step (fun b cs => step_seq) (reach_pre named hrec 8 [8] rfl rfl (sz3.trans (sz2.trans (sz1.trans hsz))) hS3 hE3 ?_)
  simp only [segOps, List.take_succ_cons, List.take_zero, zS, wantedA, opA, eff, boxA, cells, ev, gt, pt, putO, updO, setO, okC, loadA, cutC, fieldAddrA, fieldA, indexAddrA, indexA, builtinA, callOpA, callV, target, ptrV, lenS, binA, intOp, strOp, unA, num, lk, over, allocA, pickA, buildA, fillA, convertA, extractA, ofComp, nilCheckA, makeFuncA, ptrs, ofValue, cellB, Nat.reduceAdd, Nat.reduceSub, Nat.reduceMul, Nat.reduceLT, Nat.reduceLeDiff, Nat.reduceGT, ↓reduceIte, Nat.reduceEqDiff, Nat.reduceBEq, reduceCtorEq, Int.reduceBEq, Int.reduceBNe, Int.reduceLT, Int.reduceLE, Int.reduceGT, Int.reduceGE, aggT_25, sizeT_25, bytesT_25, fieldT_25_0, fieldT_25_1, fieldT_25_2, fieldT_25_3, placesT_25, zeroT_25, aggT_23, sizeT_23, bytesT_23, und_23, elemT_23, zero1_23, zeroT_23, aggT_29, sizeT_29, bytesT_29, und_29, zero1_29, zeroT_29, aggT_44, sizeT_44, bytesT_44, fieldT_44_0, fieldT_44_1, fieldT_44_2, fieldT_44_3, fieldT_44_4, placesT_44, zeroT_44, aggT_3, sizeT_3, bytesT_3, und_3, zero1_3, zeroT_3, aggT_4, sizeT_4, bytesT_4, und_4, zero1_4, zeroT_4, maxA, minA, hm1, hm2]
  intro a5 w5 β5 hb5
  obtain ⟨hS5, hE5, st5, sz5, d5⟩ := hb5
  refine wp_op named hrec (e := ⟨.pan (failedV er), [(5, M15 nd cd F u r), (0, (.box (cdC c))), (1, (.box (cdC y))), (2, (.box [.d (.v (.int .i64 n))]))], [5, 0, 1, 2]⟩) rfl rfl hS5 hE5 (by rw [sz5, sz3, sz2, sz1, hsz]; rfl) (by
    simp only [cdC, M15, zS, wantedA, opA, eff, boxA, cells, ev, gt, pt, putO, updO, setO, okC, loadA, cutC, fieldAddrA, fieldA, indexAddrA, indexA, builtinA, callOpA, callV, target, ptrV, lenS, binA, intOp, strOp, unA, num, lk, over, allocA, pickA, buildA, fillA, convertA, extractA, ofComp, nilCheckA, makeFuncA, ptrs, ofValue, cellB, Nat.reduceAdd, Nat.reduceSub, Nat.reduceMul, Nat.reduceLT, Nat.reduceLeDiff, Nat.reduceGT, ↓reduceIte, Nat.reduceEqDiff, Nat.reduceBEq, reduceCtorEq, Int.reduceBEq, Int.reduceBNe, Int.reduceLT, Int.reduceLE, Int.reduceGT, Int.reduceGE, aggT_25, sizeT_25, bytesT_25, fieldT_25_0, fieldT_25_1, fieldT_25_2, fieldT_25_3, placesT_25, zeroT_25, aggT_23, sizeT_23, bytesT_23, und_23, elemT_23, zero1_23, zeroT_23, aggT_29, sizeT_29, bytesT_29, und_29, zero1_29, zeroT_29, aggT_44, sizeT_44, bytesT_44, fieldT_44_0, fieldT_44_1, fieldT_44_2, fieldT_44_3, fieldT_44_4, placesT_44, zeroT_44, aggT_3, sizeT_3, bytesT_3, und_3, zero1_3, zeroT_3, aggT_4, sizeT_4, bytesT_4, und_4, zero1_4, zeroT_4]
    exact ecall) ?_
  intro w6 β6 hS6 st6
  have hE6 := EnvR.mono st6 hE5
  simp only [cdC, M15, zS, wantedA, opA, eff, boxA, cells, ev, gt, pt, putO, updO, setO, okC, loadA, cutC, fieldAddrA, fieldA, indexAddrA, indexA, builtinA, callOpA, callV, target, ptrV, lenS, binA, intOp, strOp, unA, num, lk, over, allocA, pickA, buildA, fillA, convertA, extractA, ofComp, nilCheckA, makeFuncA, ptrs, ofValue, cellB, Nat.reduceAdd, Nat.reduceSub, Nat.reduceMul, Nat.reduceLT, Nat.reduceLeDiff, Nat.reduceGT, ↓reduceIte, Nat.reduceEqDiff, Nat.reduceBEq, reduceCtorEq, Int.reduceBEq, Int.reduceBNe, Int.reduceLT, Int.reduceLE, Int.reduceGT, Int.reduceGE, aggT_25, sizeT_25, bytesT_25, fieldT_25_0, fieldT_25_1, fieldT_25_2, fieldT_25_3, placesT_25, zeroT_25, aggT_23, sizeT_23, bytesT_23, und_23, elemT_23, zero1_23, zeroT_23, aggT_29, sizeT_29, bytesT_29, und_29, zero1_29, zeroT_29, aggT_44, sizeT_44, bytesT_44, fieldT_44_0, fieldT_44_1, fieldT_44_2, fieldT_44_3, fieldT_44_4, placesT_44, zeroT_44, aggT_3, sizeT_3, bytesT_3, und_3, zero1_3, zeroT_3, aggT_4, sizeT_4, bytesT_4, und_4, zero1_4, zeroT_4] at hS6 hE6 st6
  show Leaves _ _ a5.tmps _ a5.defers _ _
  rw [d5, hd4]
  have hbe : β6 4 = β3 4 := by
    rcases (st5.trans st6).ids 4 .box trivial rfl with ⟨h, _, _⟩ | ⟨⟨_, _, h⟩, _⟩ | ⟨h, _⟩
    · exact h
    · cases h
    · cases h
  obtain ⟨l1, l2, vals6, ty6, hh6, hc6⟩ := hS6.live 4 _ rfl rfl
  have hv6 : vals6 = #[.int .i64 0] := by
    cases hv : vals6.toList with
    | nil => rw [hv] at hc6; cases hc6
    | cons x l =>
      rw [hv] at hc6
      cases hc6 with
      | cons h1 h2 =>
        cases h2
        obtain ⟨rfl, _⟩ := rv_v h1.2
        rw [← Array.toArray_toList (xs := vals6), hv]
  subst hv6
  refine leaves_cons (f := 23) (args := #[addrV (β3 4)]) (by simp) (by simp only [invoke]; exact run_callFunc named bodied23 _ _) ?_
  refine (rec23 (β3 4) w6 er 0 ty6 (by rw [← hbe]; exact hh6)).mono ?_
  rintro e u' w' ⟨rfl, rfl, hw'⟩
  obtain ⟨k1, k2, k3, k4, k5⟩ := sim_new (w' := w6.alloc (.cells #[.int .i64 er] 53)) hS6 (slot := 6) rfl (o := .box [.d (.v (.int .i64 er))]) rfl rfl rfl rfl rfl (.cons ⟨rfl, .v rfl⟩ .nil)
  have hne : (if 4 = 6 then w6.heap.size else β6 4) = β3 4 := by rw [if_neg (by decide), hbe]
  have hlt : β3 4 < w6.heap.size := by rw [← hbe]; exact l1
  have hold : (w6.alloc (.cells #[.int .i64 er] 53)).heap[β3 4]? = some (.cells #[.int .i64 0] ty6 (0, 0)) := by
    show (w6.heap.push _)[β3 4]? = _
    rw [Array.getElem?_push, if_neg (by omega), ← hbe]; exact hh6
  have hset := MapKept.heap_set (o' := Obj.cells #[.int .i64 er] ty6 (0, 0)) hold
  obtain ⟨m1, m2⟩ := sim_set (w := w6.alloc (.cells #[.int .i64 er] 53)) (w' := w') k1 (id := 4) (o := .box [.d (.v (.int .i64 0))]) (o' := .box [.d (.v (.int .i64 er))]) rfl rfl rfl (vals := #[.int .i64 0]) (vals' := #[.int .i64 er]) (ty := ty6)
    (by rw [hne]; exact hold) (by rw [hne, hw']; exact hset.1) rfl (by rw [hw']; show (Array.setIfInBounds _ _ _).size = _; exact Array.size_setIfInBounds) (fun b hb => by rw [hne] at hb; rw [hw']; exact hset.2 b hb) (by rw [hw']; rfl) (by rw [hw']; rfl) (by rw [hw']; rfl) (.cons ⟨rfl, .v rfl⟩ .nil)
  rw [← lk_setO, ← lk_setO] at m1 m2
  rw [← lk_setO] at k2
  have stf := k2.trans m2
  have hE7 := EnvR.mono stf hE6
  have hfin := finish_ok (P := Tryd.prog) (cf := ⟨26, 3, [.cell 10 29]⟩) (out := .ret [iV er] [.box (cdC c), .box (cdC y), .box [.d (.v (.int .i64 n))]]) m1 hE7 (fn := Tryd.f13) (by kernel_rfl) (by kernel_rfl)
  obtain ⟨vs, os, v, β', h1, h2, h3, h4, h5⟩ := hfin
  cases h1
  exact ⟨v, h2, β', v, rfl, h3, h4, (st1.trans (st2.trans (st3.trans (st5.trans (st6.trans stf))))).some.trans h5⟩
def objsB (c : Cd) : List O := [.box (cdC c), .box [.d (.v (.int .i64 0))]]
def argsB (nd cd : D) (c : Cd) (fu : Int) : List V := [.c (.d nd), .c (.d cd), cdV c, iV fu, .c (.fn 20 [] [0, 1])]
theorem no13B {ext : Ext} (hrec : RecOK Tryd.prog (run Tryd.prog ext)) (nd cd : D) (c : Cd) (fu : Int) (h22 : run Tryd.prog ext (.call 22 [.c (.d nd), .c (.d cd), cdV c] []) = some (.ret [bV false] [])) :
    CallOK Tryd.prog 13 (argsB nd cd c fu) (objsB c) (.ret [iV 210] (objsB c)) := by
  intro w F0 β vals hS hargs
  refine calls_of_reach_d Tryd.func13 rfl ?_
  have hvl : vals.length = 5 := hargs.length
  have hE := env_init (n := Tryd.f13.ntmps) hargs
  have hsz : (vals.toArray ++ Array.replicate (Tryd.f13.ntmps - vals.toArray.size) undef).size = 26 := by rw [nt13]; simp; omega
  simp only [argsB, objsB, cdV, cdC, iV, zrow, List.map_cons, List.map_nil, List.zipIdx_cons, List.zipIdx_nil, Nat.zero_add, Nat.reduceAdd, bV] at hE hS h22 ⊢
  obtain ⟨a, ha⟩ : ∃ a : Act, a = { tmps := vals.toArray ++ Array.replicate (Tryd.f13.ntmps - vals.toArray.size) undef, defers := [] } := ⟨_, rfl⟩
  have ht : a.tmps = vals.toArray ++ Array.replicate (Tryd.f13.ntmps - vals.toArray.size) undef := by rw [ha]
  have hd0 : a.defers = [] := by rw [ha]
  rw [← ha]
  rw [← ht] at hE hsz
  refine reach_step (fun b cs => step_seq) (reach_seg' named hrec hsz hS hE ?_)
  simp only [segOps, zS, wantedA, opA, eff, boxA, cells, ev, gt, pt, putO, updO, setO, okC, loadA, cutC, fieldAddrA, fieldA, indexAddrA, indexA, builtinA, callOpA, callV, target, ptrV, lenS, binA, intOp, strOp, unA, num, lk, over, allocA, pickA, buildA, fillA, convertA, extractA, ofComp, nilCheckA, makeFuncA, ptrs, ofValue, cellB, Nat.reduceAdd, Nat.reduceSub, Nat.reduceMul, Nat.reduceLT, Nat.reduceLeDiff, Nat.reduceGT, ↓reduceIte, Nat.reduceEqDiff, Nat.reduceBEq, reduceCtorEq, Int.reduceBEq, Int.reduceBNe, Int.reduceLT, Int.reduceLE, Int.reduceGT, Int.reduceGE, aggT_25, sizeT_25, bytesT_25, fieldT_25_0, fieldT_25_1, fieldT_25_2, fieldT_25_3, placesT_25, zeroT_25, aggT_23, sizeT_23, bytesT_23, und_23, elemT_23, zero1_23, zeroT_23, aggT_29, sizeT_29, bytesT_29, und_29, zero1_29, zeroT_29, aggT_44, sizeT_44, bytesT_44, fieldT_44_0, fieldT_44_1, fieldT_44_2, fieldT_44_3, fieldT_44_4, placesT_44, zeroT_44, aggT_3, sizeT_3, bytesT_3, und_3, zero1_3, zeroT_3, aggT_4, sizeT_4, bytesT_4, und_4, zero1_4, zeroT_4]
  intro a1 w1 β1 hb1
  obtain ⟨hS1, hE1, st1, sz1, d1⟩ := hb1
  refine reach_step (fun b cs => step_seq) (reach_step (fun b cs => step_seq) (reach_seg' named hrec (sz1.trans hsz) hS1 hE1 ?_))
  simp only [segOps, zS, wantedA, opA, eff, boxA, cells, ev, gt, pt, putO, updO, setO, okC, loadA, cutC, fieldAddrA, fieldA, indexAddrA, indexA, builtinA, callOpA, callV, target, ptrV, lenS, binA, intOp, strOp, unA, num, lk, over, allocA, pickA, buildA, fillA, convertA, extractA, ofComp, nilCheckA, makeFuncA, ptrs, ofValue, cellB, Nat.reduceAdd, Nat.reduceSub, Nat.reduceMul, Nat.reduceLT, Nat.reduceLeDiff, Nat.reduceGT, ↓reduceIte, Nat.reduceEqDiff, Nat.reduceBEq, reduceCtorEq, Int.reduceBEq, Int.reduceBNe, Int.reduceLT, Int.reduceLE, Int.reduceGT, Int.reduceGE, aggT_25, sizeT_25, bytesT_25, fieldT_25_0, fieldT_25_1, fieldT_25_2, fieldT_25_3, placesT_25, zeroT_25, aggT_23, sizeT_23, bytesT_23, und_23, elemT_23, zero1_23, zeroT_23, aggT_29, sizeT_29, bytesT_29, und_29, zero1_29, zeroT_29, aggT_44, sizeT_44, bytesT_44, fieldT_44_0, fieldT_44_1, fieldT_44_2, fieldT_44_3, fieldT_44_4, placesT_44, zeroT_44, aggT_3, sizeT_3, bytesT_3, und_3, zero1_3, zeroT_3, aggT_4, sizeT_4, bytesT_4, und_4, zero1_4, zeroT_4, h22]
  intro a2 w2 β2 hb2
  obtain ⟨hS2, hE2, st2, sz2, d2⟩ := hb2
  refine reach_cond (t := true) hE2 rfl ?_
  simp only [if_true]
  refine reach_step (fun b cs => step_seq) (reach_seg' named hrec (sz2.trans (sz1.trans hsz)) hS2 hE2 ?_)
  simp only [segOps, zS, wantedA, opA, eff, boxA, cells, ev, gt, pt, putO, updO, setO, okC, loadA, cutC, fieldAddrA, fieldA, indexAddrA, indexA, builtinA, callOpA, callV, target, ptrV, lenS, binA, intOp, strOp, unA, num, lk, over, allocA, pickA, buildA, fillA, convertA, extractA, ofComp, nilCheckA, makeFuncA, ptrs, ofValue, cellB, Nat.reduceAdd, Nat.reduceSub, Nat.reduceMul, Nat.reduceLT, Nat.reduceLeDiff, Nat.reduceGT, ↓reduceIte, Nat.reduceEqDiff, Nat.reduceBEq, reduceCtorEq, Int.reduceBEq, Int.reduceBNe, Int.reduceLT, Int.reduceLE, Int.reduceGT, Int.reduceGE, aggT_25, sizeT_25, bytesT_25, fieldT_25_0, fieldT_25_1, fieldT_25_2, fieldT_25_3, placesT_25, zeroT_25, aggT_23, sizeT_23, bytesT_23, und_23, elemT_23, zero1_23, zeroT_23, aggT_29, sizeT_29, bytesT_29, und_29, zero1_29, zeroT_29, aggT_44, sizeT_44, bytesT_44, fieldT_44_0, fieldT_44_1, fieldT_44_2, fieldT_44_3, fieldT_44_4, placesT_44, zeroT_44, aggT_3, sizeT_3, bytesT_3, und_3, zero1_3, zeroT_3, aggT_4, sizeT_4, bytesT_4, und_4, zero1_4, zeroT_4]
  intro a3 w3 β3 hb3
  obtain ⟨hS3, hE3, st3, sz3, d3⟩ := hb3
  refine reach_end (fun b cs => step_ret) ?_
  have hfin := finish_ok (P := Tryd.prog) (cf := ⟨26, 2, [.cell 10 29]⟩) (out := .ret [iV 210] (objsB c)) hS3 hE3 (fn := Tryd.f13) (by kernel_rfl) (by kernel_rfl)
  obtain ⟨vs, os, v, β', h1, h2, h3, h4, h5⟩ := hfin
  cases h1
  rw [d3, d2, d1, hd0]
  exact ⟨v, h2, β', v, rfl, h3, h4, (st1.trans (st2.trans st3)).some.trans h5⟩
theorem ok13B {ext : Ext} (hrec : RecOK Tryd.prog (run Tryd.prog ext)) (nd cd : D) (c : Cd) (fu g F0' F u r : Int) (n : Int) (h22 : run Tryd.prog ext (.call 22 [.c (.d nd), .c (.d cd), cdV c] []) = some (.ret [bV true] [])) (hm1 : (if (0 : Int) > fu then 0 else fu) = g) (hm2 : (if (200000 : Int) < g then 200000 else g) = F0')
    (hclo : run Tryd.prog ext (.call 20 [.c (.ptr 0 0), .c (.ptr 1 0), .c (.ptr 2 0)] (M15 nd cd F0' 0 0 :: objsB c)) = some (.ret [] ([M15 nd cd F u r] ++ [.box (cdC c), .box [.d (.v (.int .i64 n))]]))) :
    CallOK Tryd.prog 13 (argsB nd cd c fu) (objsB c) (.ret [iV 0] [.box (cdC c), .box [.d (.v (.int .i64 n))]]) := by
  have ecall := callA_of (rec := run Tryd.prog ext) (look := lk (objsB c ++ [.box (cdC c), .box [.d (.v (.int .i64 0))], M15 nd cd F0' 0 0])) (slot := 5) (f := 20) (args := [.c (.ptr 4 0), .c (.ptr 0 0), .c (.ptr 1 0)]) (ids := [4, 0, 1]) (bor := []) (e := ⟨.val (.tup []), [(4, M15 nd cd F u r), (0, (.box (cdC c))), (1, (.box [.d (.v (.int .i64 n))]))], [4, 0, 1]⟩) (by kernel_rfl) hclo (by kernel_rfl)
  simp only [objsB, cdC, zrow, M15, List.map_cons, List.map_nil, List.cons_append, List.nil_append] at ecall
  intro w F0 β vals hS hargs
  refine calls_of_reach_d Tryd.func13 rfl ?_
  have hvl : vals.length = 5 := hargs.length
  have hE := env_init (n := Tryd.f13.ntmps) hargs
  have hsz : (vals.toArray ++ Array.replicate (Tryd.f13.ntmps - vals.toArray.size) undef).size = 26 := by rw [nt13]; simp; omega
  simp only [argsB, objsB, cdV, cdC, iV, zrow, List.map_cons, List.map_nil, List.zipIdx_cons, List.zipIdx_nil, Nat.zero_add, Nat.reduceAdd, bV] at hE hS h22 ⊢
  obtain ⟨a, ha⟩ : ∃ a : Act, a = { tmps := vals.toArray ++ Array.replicate (Tryd.f13.ntmps - vals.toArray.size) undef, defers := [] } := ⟨_, rfl⟩
  have ht : a.tmps = vals.toArray ++ Array.replicate (Tryd.f13.ntmps - vals.toArray.size) undef := by rw [ha]
  have hd0 : a.defers = [] := by rw [ha]
  rw [← ha]
  rw [← ht] at hE hsz
  refine reach_step (fun b cs => step_seq) (reach_seg' named hrec hsz hS hE ?_)
  simp only [segOps, zS, wantedA, opA, eff, boxA, cells, ev, gt, pt, putO, updO, setO, okC, loadA, cutC, fieldAddrA, fieldA, indexAddrA, indexA, builtinA, callOpA, callV, target, ptrV, lenS, binA, intOp, strOp, unA, num, lk, over, allocA, pickA, buildA, fillA, convertA, extractA, ofComp, nilCheckA, makeFuncA, ptrs, ofValue, cellB, Nat.reduceAdd, Nat.reduceSub, Nat.reduceMul, Nat.reduceLT, Nat.reduceLeDiff, Nat.reduceGT, ↓reduceIte, Nat.reduceEqDiff, Nat.reduceBEq, reduceCtorEq, Int.reduceBEq, Int.reduceBNe, Int.reduceLT, Int.reduceLE, Int.reduceGT, Int.reduceGE, aggT_25, sizeT_25, bytesT_25, fieldT_25_0, fieldT_25_1, fieldT_25_2, fieldT_25_3, placesT_25, zeroT_25, aggT_23, sizeT_23, bytesT_23, und_23, elemT_23, zero1_23, zeroT_23, aggT_29, sizeT_29, bytesT_29, und_29, zero1_29, zeroT_29, aggT_44, sizeT_44, bytesT_44, fieldT_44_0, fieldT_44_1, fieldT_44_2, fieldT_44_3, fieldT_44_4, placesT_44, zeroT_44, aggT_3, sizeT_3, bytesT_3, und_3, zero1_3, zeroT_3, aggT_4, sizeT_4, bytesT_4, und_4, zero1_4, zeroT_4]
  intro a1 w1 β1 hb1
  obtain ⟨hS1, hE1, st1, sz1, d1⟩ := hb1
  refine reach_step (fun b cs => step_seq) (reach_step (fun b cs => step_seq) (reach_seg' named hrec (sz1.trans hsz) hS1 hE1 ?_))
  simp only [segOps, zS, wantedA, opA, eff, boxA, cells, ev, gt, pt, putO, updO, setO, okC, loadA, cutC, fieldAddrA, fieldA, indexAddrA, indexA, builtinA, callOpA, callV, target, ptrV, lenS, binA, intOp, strOp, unA, num, lk, over, allocA, pickA, buildA, fillA, convertA, extractA, ofComp, nilCheckA, makeFuncA, ptrs, ofValue, cellB, Nat.reduceAdd, Nat.reduceSub, Nat.reduceMul, Nat.reduceLT, Nat.reduceLeDiff, Nat.reduceGT, ↓reduceIte, Nat.reduceEqDiff, Nat.reduceBEq, reduceCtorEq, Int.reduceBEq, Int.reduceBNe, Int.reduceLT, Int.reduceLE, Int.reduceGT, Int.reduceGE, aggT_25, sizeT_25, bytesT_25, fieldT_25_0, fieldT_25_1, fieldT_25_2, fieldT_25_3, placesT_25, zeroT_25, aggT_23, sizeT_23, bytesT_23, und_23, elemT_23, zero1_23, zeroT_23, aggT_29, sizeT_29, bytesT_29, und_29, zero1_29, zeroT_29, aggT_44, sizeT_44, bytesT_44, fieldT_44_0, fieldT_44_1, fieldT_44_2, fieldT_44_3, fieldT_44_4, placesT_44, zeroT_44, aggT_3, sizeT_3, bytesT_3, und_3, zero1_3, zeroT_3, aggT_4, sizeT_4, bytesT_4, und_4, zero1_4, zeroT_4, h22]
  intro a2 w2 β2 hb2
  obtain ⟨hS2, hE2, st2, sz2, d2⟩ := hb2
  refine reach_cond (t := false) hE2 rfl ?_
  simp only [Bool.false_eq_true, if_false]
  refine reach_step (fun b cs => step_skip) (reach_step (fun b cs => step_seq) (reach_pre named hrec 1 [1] rfl rfl (sz2.trans (sz1.trans hsz)) hS2 hE2 ?_))
  simp only [segOps, List.take_succ_cons, List.take_zero, zS, wantedA, opA, eff, boxA, cells, ev, gt, pt, putO, updO, setO, okC, loadA, cutC, fieldAddrA, fieldA, indexAddrA, indexA, builtinA, callOpA, callV, target, ptrV, lenS, binA, intOp, strOp, unA, num, lk, over, allocA, pickA, buildA, fillA, convertA, extractA, ofComp, nilCheckA, makeFuncA, ptrs, ofValue, cellB, Nat.reduceAdd, Nat.reduceSub, Nat.reduceMul, Nat.reduceLT, Nat.reduceLeDiff, Nat.reduceGT, ↓reduceIte, Nat.reduceEqDiff, Nat.reduceBEq, reduceCtorEq, Int.reduceBEq, Int.reduceBNe, Int.reduceLT, Int.reduceLE, Int.reduceGT, Int.reduceGE, aggT_25, sizeT_25, bytesT_25, fieldT_25_0, fieldT_25_1, fieldT_25_2, fieldT_25_3, placesT_25, zeroT_25, aggT_23, sizeT_23, bytesT_23, und_23, elemT_23, zero1_23, zeroT_23, aggT_29, sizeT_29, bytesT_29, und_29, zero1_29, zeroT_29, aggT_44, sizeT_44, bytesT_44, fieldT_44_0, fieldT_44_1, fieldT_44_2, fieldT_44_3, fieldT_44_4, placesT_44, zeroT_44, aggT_3, sizeT_3, bytesT_3, und_3, zero1_3, zeroT_3, aggT_4, sizeT_4, bytesT_4, und_4, zero1_4, zeroT_4]
  intro a3 w3 β3 hb3
  obtain ⟨hS3, hE3, st3, sz3, d3⟩ := hb3
  have hfn : a3.eval (.tmp 16) = .func (.func 23) #[] #[addrV (β3 3)] := (ev_rep hE3 (.tmp 16)).1
  refine wp_defer (o := _) rfl rfl rfl rfl hfn ?_
  generalize had : ({ a3 with defers := { target := .fn (.func 23) #[addrV (β3 3)], args := #[] } :: a3.defers } : Act) = a4
  have ht4 : a4.tmps = a3.tmps := by rw [← had]
  have hd4 : a4.defers = [{ target := .fn (.func 23) #[addrV (β3 3)], args := #[] }] := by rw [← had]; show _ :: a3.defers = _; rw [d3, d2, d1, hd0]
  rw [← ht4] at hE3 sz3
  refine reach_step (fun b cs => step_seq) (reach_pre named hrec 8 [8] rfl rfl (sz3.trans (sz2.trans (sz1.trans hsz))) hS3 hE3 ?_)
  simp only [segOps, List.take_succ_cons, List.take_zero, zS, wantedA, opA, eff, boxA, cells, ev, gt, pt, putO, updO, setO, okC, loadA, cutC, fieldAddrA, fieldA, indexAddrA, indexA, builtinA, callOpA, callV, target, ptrV, lenS, binA, intOp, strOp, unA, num, lk, over, allocA, pickA, buildA, fillA, convertA, extractA, ofComp, nilCheckA, makeFuncA, ptrs, ofValue, cellB, Nat.reduceAdd, Nat.reduceSub, Nat.reduceMul, Nat.reduceLT, Nat.reduceLeDiff, Nat.reduceGT, ↓reduceIte, Nat.reduceEqDiff, Nat.reduceBEq, reduceCtorEq, Int.reduceBEq, Int.reduceBNe, Int.reduceLT, Int.reduceLE, Int.reduceGT, Int.reduceGE, aggT_25, sizeT_25, bytesT_25, fieldT_25_0, fieldT_25_1, fieldT_25_2, fieldT_25_3, placesT_25, zeroT_25, aggT_23, sizeT_23, bytesT_23, und_23, elemT_23, zero1_23, zeroT_23, aggT_29, sizeT_29, bytesT_29, und_29, zero1_29, zeroT_29, aggT_44, sizeT_44, bytesT_44, fieldT_44_0, fieldT_44_1, fieldT_44_2, fieldT_44_3, fieldT_44_4, placesT_44, zeroT_44, aggT_3, sizeT_3, bytesT_3, und_3, zero1_3, zeroT_3, aggT_4, sizeT_4, bytesT_4, und_4, zero1_4, zeroT_4, maxA, minA, hm1, hm2]
  intro a5 w5 β5 hb5
  obtain ⟨hS5, hE5, st5, sz5, d5⟩ := hb5
  refine wp_op named hrec (e := ⟨.val (.tup []), [(4, M15 nd cd F u r), (0, (.box (cdC c))), (1, (.box [.d (.v (.int .i64 n))]))], [4, 0, 1]⟩) rfl rfl hS5 hE5 (by rw [sz5, sz3, sz2, sz1, hsz]; rfl) (by
    simp only [cdC, M15, zS, wantedA, opA, eff, boxA, cells, ev, gt, pt, putO, updO, setO, okC, loadA, cutC, fieldAddrA, fieldA, indexAddrA, indexA, builtinA, callOpA, callV, target, ptrV, lenS, binA, intOp, strOp, unA, num, lk, over, allocA, pickA, buildA, fillA, convertA, extractA, ofComp, nilCheckA, makeFuncA, ptrs, ofValue, cellB, Nat.reduceAdd, Nat.reduceSub, Nat.reduceMul, Nat.reduceLT, Nat.reduceLeDiff, Nat.reduceGT, ↓reduceIte, Nat.reduceEqDiff, Nat.reduceBEq, reduceCtorEq, Int.reduceBEq, Int.reduceBNe, Int.reduceLT, Int.reduceLE, Int.reduceGT, Int.reduceGE, aggT_25, sizeT_25, bytesT_25, fieldT_25_0, fieldT_25_1, fieldT_25_2, fieldT_25_3, placesT_25, zeroT_25, aggT_23, sizeT_23, bytesT_23, und_23, elemT_23, zero1_23, zeroT_23, aggT_29, sizeT_29, bytesT_29, und_29, zero1_29, zeroT_29, aggT_44, sizeT_44, bytesT_44, fieldT_44_0, fieldT_44_1, fieldT_44_2, fieldT_44_3, fieldT_44_4, placesT_44, zeroT_44, aggT_3, sizeT_3, bytesT_3, und_3, zero1_3, zeroT_3, aggT_4, sizeT_4, bytesT_4, und_4, zero1_4, zeroT_4]
    exact ecall) ?_
  intro a6 w6 β6 hb6
  obtain ⟨hS6, hE6, st6, sz6, d6⟩ := hb6
  simp only [cdC, M15, zS, wantedA, opA, eff, boxA, cells, ev, gt, pt, putO, updO, setO, okC, loadA, cutC, fieldAddrA, fieldA, indexAddrA, indexA, builtinA, callOpA, callV, target, ptrV, lenS, binA, intOp, strOp, unA, num, lk, over, allocA, pickA, buildA, fillA, convertA, extractA, ofComp, nilCheckA, makeFuncA, ptrs, ofValue, cellB, Nat.reduceAdd, Nat.reduceSub, Nat.reduceMul, Nat.reduceLT, Nat.reduceLeDiff, Nat.reduceGT, ↓reduceIte, Nat.reduceEqDiff, Nat.reduceBEq, reduceCtorEq, Int.reduceBEq, Int.reduceBNe, Int.reduceLT, Int.reduceLE, Int.reduceGT, Int.reduceGE, aggT_25, sizeT_25, bytesT_25, fieldT_25_0, fieldT_25_1, fieldT_25_2, fieldT_25_3, placesT_25, zeroT_25, aggT_23, sizeT_23, bytesT_23, und_23, elemT_23, zero1_23, zeroT_23, aggT_29, sizeT_29, bytesT_29, und_29, zero1_29, zeroT_29, aggT_44, sizeT_44, bytesT_44, fieldT_44_0, fieldT_44_1, fieldT_44_2, fieldT_44_3, fieldT_44_4, placesT_44, zeroT_44, aggT_3, sizeT_3, bytesT_3, und_3, zero1_3, zeroT_3, aggT_4, sizeT_4, bytesT_4, und_4, zero1_4, zeroT_4] at hS6 hE6 st6
  show Reach Tryd.prog _ a6 w6 _
  refine reach_step (fun b cs => step_seq) (reach_seg' named hrec (sz6.trans (sz5.trans (sz3.trans (sz2.trans (sz1.trans hsz))))) hS6 hE6 ?_)
  simp only [segOps, zS, wantedA, opA, eff, boxA, cells, ev, gt, pt, putO, updO, setO, okC, loadA, cutC, fieldAddrA, fieldA, indexAddrA, indexA, builtinA, callOpA, callV, target, ptrV, lenS, binA, intOp, strOp, unA, num, lk, over, allocA, pickA, buildA, fillA, convertA, extractA, ofComp, nilCheckA, makeFuncA, ptrs, ofValue, cellB, Nat.reduceAdd, Nat.reduceSub, Nat.reduceMul, Nat.reduceLT, Nat.reduceLeDiff, Nat.reduceGT, ↓reduceIte, Nat.reduceEqDiff, Nat.reduceBEq, reduceCtorEq, Int.reduceBEq, Int.reduceBNe, Int.reduceLT, Int.reduceLE, Int.reduceGT, Int.reduceGE, aggT_25, sizeT_25, bytesT_25, fieldT_25_0, fieldT_25_1, fieldT_25_2, fieldT_25_3, placesT_25, zeroT_25, aggT_23, sizeT_23, bytesT_23, und_23, elemT_23, zero1_23, zeroT_23, aggT_29, sizeT_29, bytesT_29, und_29, zero1_29, zeroT_29, aggT_44, sizeT_44, bytesT_44, fieldT_44_0, fieldT_44_1, fieldT_44_2, fieldT_44_3, fieldT_44_4, placesT_44, zeroT_44, aggT_3, sizeT_3, bytesT_3, und_3, zero1_3, zeroT_3, aggT_4, sizeT_4, bytesT_4, und_4, zero1_4, zeroT_4]
  intro a7 w7 β7 hb7
  obtain ⟨hS7, hE7, st7, sz7, d7⟩ := hb7
  refine reach_end (fun b cs => step_ret) ?_
  have hfin := finish_ok (P := Tryd.prog) (cf := ⟨26, 2, [.cell 10 29]⟩) (out := .ret [iV 0] [.box (cdC c), .box [.d (.v (.int .i64 n))]]) hS7 hE7 (fn := Tryd.f13) (by kernel_rfl) (by kernel_rfl)
  obtain ⟨vs, os, v, β', h1, h2, h3, h4, h5⟩ := hfin
  cases h1
  show Leaves _ _ a7.tmps _ a7.defers _ _
  rw [d7, d6, d5, hd4]
  refine leaves_cons (f := 23) (args := #[addrV (β3 3)]) (by simp) (by simp only [invoke]; exact run_callFunc named bodied23 _ _) ?_
  refine (rec23_idle ⟨β3 3, 0, none⟩ w7).mono ?_
  rintro e u' w' ⟨rfl, rfl, rfl⟩
  exact ⟨v, h2, β', v, rfl, h3, h4, (st1.trans (st2.trans (st3.trans (st5.trans (st6.trans st7))))).some.trans h5⟩
theorem pan13B {ext : Ext} (hrec : RecOK Tryd.prog (run Tryd.prog ext)) (nd cd : D) (c : Cd) (fu g F0' F u r : Int) (er : Int) (n : Int) (h22 : run Tryd.prog ext (.call 22 [.c (.d nd), .c (.d cd), cdV c] []) = some (.ret [bV true] [])) (hm1 : (if (0 : Int) > fu then 0 else fu) = g) (hm2 : (if (200000 : Int) < g then 200000 else g) = F0')
    (hclo : run Tryd.prog ext (.call 20 [.c (.ptr 0 0), .c (.ptr 1 0), .c (.ptr 2 0)] (M15 nd cd F0' 0 0 :: objsB c)) = some (.pan (failedV er) ([M15 nd cd F u r] ++ [.box (cdC c), .box [.d (.v (.int .i64 n))]]))) :
    CallOK Tryd.prog 13 (argsB nd cd c fu) (objsB c) (.ret [iV er] [.box (cdC c), .box [.d (.v (.int .i64 n))]]) := by
  have ecall := callA_of (rec := run Tryd.prog ext) (look := lk (objsB c ++ [.box (cdC c), .box [.d (.v (.int .i64 0))], M15 nd cd F0' 0 0])) (slot := 5) (f := 20) (args := [.c (.ptr 4 0), .c (.ptr 0 0), .c (.ptr 1 0)]) (ids := [4, 0, 1]) (bor := []) (e := ⟨.pan (failedV er), [(4, M15 nd cd F u r), (0, (.box (cdC c))), (1, (.box [.d (.v (.int .i64 n))]))], [4, 0, 1]⟩) (by kernel_rfl) hclo (by kernel_rfl)
  simp only [objsB, cdC, zrow, M15, List.map_cons, List.map_nil, List.cons_append, List.nil_append] at ecall
  intro w F0 β vals hS hargs
  refine calls_of_reach_d Tryd.func13 rfl ?_
  have hvl : vals.length = 5 := hargs.length
  have hE := env_init (n := Tryd.f13.ntmps) hargs
  have hsz : (vals.toArray ++ Array.replicate (Tryd.f13.ntmps - vals.toArray.size) undef).size = 26 := by rw [nt13]; simp; omega
  simp only [argsB, objsB, cdV, cdC, iV, zrow, List.map_cons, List.map_nil, List.zipIdx_cons, List.zipIdx_nil, Nat.zero_add, Nat.reduceAdd, bV] at hE hS h22 ⊢
  obtain ⟨a, ha⟩ : ∃ a : Act, a = { tmps := vals.toArray ++ Array.replicate (Tryd.f13.ntmps - vals.toArray.size) undef, defers := [] } := ⟨_, rfl⟩
  have ht : a.tmps = vals.toArray ++ Array.replicate (Tryd.f13.ntmps - vals.toArray.size) undef := by rw [ha]
  have hd0 : a.defers = [] := by rw [ha]
  rw [← ha]
  rw [← ht] at hE hsz
  refine reach_step (fun b cs => step_seq) (reach_seg' named hrec hsz hS hE ?_)
  simp only [segOps, zS, wantedA, opA, eff, boxA, cells, ev, gt, pt, putO, updO, setO, okC, loadA, cutC, fieldAddrA, fieldA, indexAddrA, indexA, builtinA, callOpA, callV, target, ptrV, lenS, binA, intOp, strOp, unA, num, lk, over, allocA, pickA, buildA, fillA, convertA, extractA, ofComp, nilCheckA, makeFuncA, ptrs, ofValue, cellB, Nat.reduceAdd, Nat.reduceSub, Nat.reduceMul, Nat.reduceLT, Nat.reduceLeDiff, Nat.reduceGT, ↓reduceIte, Nat.reduceEqDiff, Nat.reduceBEq, reduceCtorEq, Int.reduceBEq, Int.reduceBNe, Int.reduceLT, Int.reduceLE, Int.reduceGT, Int.reduceGE, aggT_25, sizeT_25, bytesT_25, fieldT_25_0, fieldT_25_1, fieldT_25_2, fieldT_25_3, placesT_25, zeroT_25, aggT_23, sizeT_23, bytesT_23, und_23, elemT_23, zero1_23, zeroT_23, aggT_29, sizeT_29, bytesT_29, und_29, zero1_29, zeroT_29, aggT_44, sizeT_44, bytesT_44, fieldT_44_0, fieldT_44_1, fieldT_44_2, fieldT_44_3, fieldT_44_4, placesT_44, zeroT_44, aggT_3, sizeT_3, bytesT_3, und_3, zero1_3, zeroT_3, aggT_4, sizeT_4, bytesT_4, und_4, zero1_4, zeroT_4]
  intro a1 w1 β1 hb1
  obtain ⟨hS1, hE1, st1, sz1, d1⟩ := hb1
  refine reach_step (fun b cs => step_seq) (reach_step (fun b cs => step_seq) (reach_seg' named hrec (sz1.trans hsz) hS1 hE1 ?_))
  simp only [segOps, zS, wantedA, opA, eff, boxA, cells, ev, gt, pt, putO, updO, setO, okC, loadA, cutC, fieldAddrA, fieldA, indexAddrA, indexA, builtinA, callOpA, callV, target, ptrV, lenS, binA, intOp, strOp, unA, num, lk, over, allocA, pickA, buildA, fillA, convertA, extractA, ofComp, nilCheckA, makeFuncA, ptrs, ofValue, cellB, Nat.reduceAdd, Nat.reduceSub, Nat.reduceMul, Nat.reduceLT, Nat.reduceLeDiff, Nat.reduceGT, ↓reduceIte, Nat.reduceEqDiff, Nat.reduceBEq, reduceCtorEq, Int.reduceBEq, Int.reduceBNe, Int.reduceLT, Int.reduceLE, Int.reduceGT, Int.reduceGE, aggT_25, sizeT_25, bytesT_25, fieldT_25_0, fieldT_25_1, fieldT_25_2, fieldT_25_3, placesT_25, zeroT_25, aggT_23, sizeT_23, bytesT_23, und_23, elemT_23, zero1_23, zeroT_23, aggT_29, sizeT_29, bytesT_29, und_29, zero1_29, zeroT_29, aggT_44, sizeT_44, bytesT_44, fieldT_44_0, fieldT_44_1, fieldT_44_2, fieldT_44_3, fieldT_44_4, placesT_44, zeroT_44, aggT_3, sizeT_3, bytesT_3, und_3, zero1_3, zeroT_3, aggT_4, sizeT_4, bytesT_4, und_4, zero1_4, zeroT_4, h22]
  intro a2 w2 β2 hb2
  obtain ⟨hS2, hE2, st2, sz2, d2⟩ := hb2
  refine reach_cond (t := false) hE2 rfl ?_
  simp only [Bool.false_eq_true, if_false]
  refine reach_step (fun b cs => step_skip) (reach_step (fun b cs => step_seq) (reach_pre named hrec 1 [1] rfl rfl (sz2.trans (sz1.trans hsz)) hS2 hE2 ?_))
  simp only [segOps, List.take_succ_cons, List.take_zero, zS, wantedA, opA, eff, boxA, cells, ev, gt, pt, putO, updO, setO, okC, loadA, cutC, fieldAddrA, fieldA, indexAddrA, indexA, builtinA, callOpA, callV, target, ptrV, lenS, binA, intOp, strOp, unA, num, lk, over, allocA, pickA, buildA, fillA, convertA, extractA, ofComp, nilCheckA, makeFuncA, ptrs, ofValue, cellB, Nat.reduceAdd, Nat.reduceSub, Nat.reduceMul, Nat.reduceLT, Nat.reduceLeDiff, Nat.reduceGT, ↓reduceIte, Nat.reduceEqDiff, Nat.reduceBEq, reduceCtorEq, Int.reduceBEq, Int.reduceBNe, Int.reduceLT, Int.reduceLE, Int.reduceGT, Int.reduceGE, aggT_25, sizeT_25, bytesT_25, fieldT_25_0, fieldT_25_1, fieldT_25_2, fieldT_25_3, placesT_25, zeroT_25, aggT_23, sizeT_23, bytesT_23, und_23, elemT_23, zero1_23, zeroT_23, aggT_29, sizeT_29, bytesT_29, und_29, zero1_29, zeroT_29, aggT_44, sizeT_44, bytesT_44, fieldT_44_0, fieldT_44_1, fieldT_44_2, fieldT_44_3, fieldT_44_4, placesT_44, zeroT_44, aggT_3, sizeT_3, bytesT_3, und_3, zero1_3, zeroT_3, aggT_4, sizeT_4, bytesT_4, und_4, zero1_4, zeroT_4]
  intro a3 w3 β3 hb3
  obtain ⟨hS3, hE3, st3, sz3, d3⟩ := hb3
  have hfn : a3.eval (.tmp 16) = .func (.func 23) #[] #[addrV (β3 3)] := (ev_rep hE3 (.tmp 16)).1
  refine wp_defer (o := _) rfl rfl rfl rfl hfn ?_
  generalize had : ({ a3 with defers := { target := .fn (.func 23) #[addrV (β3 3)], args := #[] } :: a3.defers } : Act) = a4
  have ht4 : a4.tmps = a3.tmps := by rw [← had]
  have hd4 : a4.defers = [{ target := .fn (.func 23) #[addrV (β3 3)], args := #[] }] := by rw [← had]; show _ :: a3.defers = _; rw [d3, d2, d1, hd0]
  rw [← ht4] at hE3 sz3
  refine reach_step (fun b cs => step_seq) (reach_pre named hrec 8 [8] rfl rfl (sz3.trans (sz2.trans (sz1.trans hsz))) hS3 hE3 ?_)
  simp only [segOps, List.take_succ_cons, List.take_zero, zS, wantedA, opA, eff, boxA, cells, ev, gt, pt, putO, updO, setO, okC, loadA, cutC, fieldAddrA, fieldA, indexAddrA, indexA, builtinA, callOpA, callV, target, ptrV, lenS, binA, intOp, strOp, unA, num, lk, over, allocA, pickA, buildA, fillA, convertA, extractA, ofComp, nilCheckA, makeFuncA, ptrs, ofValue, cellB, Nat.reduceAdd, Nat.reduceSub, Nat.reduceMul, Nat.reduceLT, Nat.reduceLeDiff, Nat.reduceGT, ↓reduceIte, Nat.reduceEqDiff, Nat.reduceBEq, reduceCtorEq, Int.reduceBEq, Int.reduceBNe, Int.reduceLT, Int.reduceLE, Int.reduceGT, Int.reduceGE, aggT_25, sizeT_25, bytesT_25, fieldT_25_0, fieldT_25_1, fieldT_25_2, fieldT_25_3, placesT_25, zeroT_25, aggT_23, sizeT_23, bytesT_23, und_23, elemT_23, zero1_23, zeroT_23, aggT_29, sizeT_29, bytesT_29, und_29, zero1_29, zeroT_29, aggT_44, sizeT_44, bytesT_44, fieldT_44_0, fieldT_44_1, fieldT_44_2, fieldT_44_3, fieldT_44_4, placesT_44, zeroT_44, aggT_3, sizeT_3, bytesT_3, und_3, zero1_3, zeroT_3, aggT_4, sizeT_4, bytesT_4, und_4, zero1_4, zeroT_4, maxA, minA, hm1, hm2]
  intro a5 w5 β5 hb5
  obtain ⟨hS5, hE5, st5, sz5, d5⟩ := hb5
  refine wp_op named hrec (e := ⟨.pan (failedV er), [(4, M15 nd cd F u r), (0, (.box (cdC c))), (1, (.box [.d (.v (.int .i64 n))]))], [4, 0, 1]⟩) rfl rfl hS5 hE5 (by rw [sz5, sz3, sz2, sz1, hsz]; rfl) (by
    simp only [cdC, M15, zS, wantedA, opA, eff, boxA, cells, ev, gt, pt, putO, updO, setO, okC, loadA, cutC, fieldAddrA, fieldA, indexAddrA, indexA, builtinA, callOpA, callV, target, ptrV, lenS, binA, intOp, strOp, unA, num, lk, over, allocA, pickA, buildA, fillA, convertA, extractA, ofComp, nilCheckA, makeFuncA, ptrs, ofValue, cellB, Nat.reduceAdd, Nat.reduceSub, Nat.reduceMul, Nat.reduceLT, Nat.reduceLeDiff, Nat.reduceGT, ↓reduceIte, Nat.reduceEqDiff, Nat.reduceBEq, reduceCtorEq, Int.reduceBEq, Int.reduceBNe, Int.reduceLT, Int.reduceLE, Int.reduceGT, Int.reduceGE, aggT_25, sizeT_25, bytesT_25, fieldT_25_0, fieldT_25_1, fieldT_25_2, fieldT_25_3, placesT_25, zeroT_25, aggT_23, sizeT_23, bytesT_23, und_23, elemT_23, zero1_23, zeroT_23, aggT_29, sizeT_29, bytesT_29, und_29, zero1_29, zeroT_29, aggT_44, sizeT_44, bytesT_44, fieldT_44_0, fieldT_44_1, fieldT_44_2, fieldT_44_3, fieldT_44_4, placesT_44, zeroT_44, aggT_3, sizeT_3, bytesT_3, und_3, zero1_3, zeroT_3, aggT_4, sizeT_4, bytesT_4, und_4, zero1_4, zeroT_4]
    exact ecall) ?_
  intro w6 β6 hS6 st6
  have hE6 := EnvR.mono st6 hE5
  simp only [cdC, M15, zS, wantedA, opA, eff, boxA, cells, ev, gt, pt, putO, updO, setO, okC, loadA, cutC, fieldAddrA, fieldA, indexAddrA, indexA, builtinA, callOpA, callV, target, ptrV, lenS, binA, intOp, strOp, unA, num, lk, over, allocA, pickA, buildA, fillA, convertA, extractA, ofComp, nilCheckA, makeFuncA, ptrs, ofValue, cellB, Nat.reduceAdd, Nat.reduceSub, Nat.reduceMul, Nat.reduceLT, Nat.reduceLeDiff, Nat.reduceGT, ↓reduceIte, Nat.reduceEqDiff, Nat.reduceBEq, reduceCtorEq, Int.reduceBEq, Int.reduceBNe, Int.reduceLT, Int.reduceLE, Int.reduceGT, Int.reduceGE, aggT_25, sizeT_25, bytesT_25, fieldT_25_0, fieldT_25_1, fieldT_25_2, fieldT_25_3, placesT_25, zeroT_25, aggT_23, sizeT_23, bytesT_23, und_23, elemT_23, zero1_23, zeroT_23, aggT_29, sizeT_29, bytesT_29, und_29, zero1_29, zeroT_29, aggT_44, sizeT_44, bytesT_44, fieldT_44_0, fieldT_44_1, fieldT_44_2, fieldT_44_3, fieldT_44_4, placesT_44, zeroT_44, aggT_3, sizeT_3, bytesT_3, und_3, zero1_3, zeroT_3, aggT_4, sizeT_4, bytesT_4, und_4, zero1_4, zeroT_4] at hS6 hE6 st6
  show Leaves _ _ a5.tmps _ a5.defers _ _
  rw [d5, hd4]
  have hbe : β6 3 = β3 3 := by
    rcases (st5.trans st6).ids 3 .box trivial rfl with ⟨h, _, _⟩ | ⟨⟨_, _, h⟩, _⟩ | ⟨h, _⟩
    · exact h
    · cases h
    · cases h
  obtain ⟨l1, l2, vals6, ty6, hh6, hc6⟩ := hS6.live 3 _ rfl rfl
  have hv6 : vals6 = #[.int .i64 0] := by
    cases hv : vals6.toList with
    | nil => rw [hv] at hc6; cases hc6
    | cons x l =>
      rw [hv] at hc6
      cases hc6 with
      | cons h1 h2 =>
        cases h2
        obtain ⟨rfl, _⟩ := rv_v h1.2
        rw [← Array.toArray_toList (xs := vals6), hv]
  subst hv6
  refine leaves_cons (f := 23) (args := #[addrV (β3 3)]) (by simp) (by simp only [invoke]; exact run_callFunc named bodied23 _ _) ?_
  refine (rec23 (β3 3) w6 er 0 ty6 (by rw [← hbe]; exact hh6)).mono ?_
  rintro e u' w' ⟨rfl, rfl, hw'⟩
  obtain ⟨k1, k2, k3, k4, k5⟩ := sim_new (w' := w6.alloc (.cells #[.int .i64 er] 53)) hS6 (slot := 5) rfl (o := .box [.d (.v (.int .i64 er))]) rfl rfl rfl rfl rfl (.cons ⟨rfl, .v rfl⟩ .nil)
  have hne : (if 3 = 5 then w6.heap.size else β6 3) = β3 3 := by rw [if_neg (by decide), hbe]
  have hlt : β3 3 < w6.heap.size := by rw [← hbe]; exact l1
  have hold : (w6.alloc (.cells #[.int .i64 er] 53)).heap[β3 3]? = some (.cells #[.int .i64 0] ty6 (0, 0)) := by
    show (w6.heap.push _)[β3 3]? = _
    rw [Array.getElem?_push, if_neg (by omega), ← hbe]; exact hh6
  have hset := MapKept.heap_set (o' := Obj.cells #[.int .i64 er] ty6 (0, 0)) hold
  obtain ⟨m1, m2⟩ := sim_set (w := w6.alloc (.cells #[.int .i64 er] 53)) (w' := w') k1 (id := 3) (o := .box [.d (.v (.int .i64 0))]) (o' := .box [.d (.v (.int .i64 er))]) rfl rfl rfl (vals := #[.int .i64 0]) (vals' := #[.int .i64 er]) (ty := ty6)
    (by rw [hne]; exact hold) (by rw [hne, hw']; exact hset.1) rfl (by rw [hw']; show (Array.setIfInBounds _ _ _).size = _; exact Array.size_setIfInBounds) (fun b hb => by rw [hne] at hb; rw [hw']; exact hset.2 b hb) (by rw [hw']; rfl) (by rw [hw']; rfl) (by rw [hw']; rfl) (.cons ⟨rfl, .v rfl⟩ .nil)
  rw [← lk_setO, ← lk_setO] at m1 m2
  rw [← lk_setO] at k2
  have stf := k2.trans m2
  have hE7 := EnvR.mono stf hE6
  have hfin := finish_ok (P := Tryd.prog) (cf := ⟨26, 2, [.cell 10 29]⟩) (out := .ret [iV er] [.box (cdC c), .box [.d (.v (.int .i64 n))]]) m1 hE7 (fn := Tryd.f13) (by kernel_rfl) (by kernel_rfl)
  obtain ⟨vs, os, v, β', h1, h2, h3, h4, h5⟩ := hfin
  cases h1
  exact ⟨v, h2, β', v, rfl, h3, h4, (st1.trans (st2.trans (st3.trans (st5.trans (st6.trans stf))))).some.trans h5⟩
end Go.Proofs.YtmjacokkgfophaaDoor.Am
end
section
/- The closures that Head and Numeral hand to run. -/
namespace Go.Proofs.YtmjacokkgfophaaDoor.Am
open Go
set_option maxHeartbeats 8000000
set_option maxRecDepth 10000
variable (ext : Ext) (nd cd : D)
def iB (n : Int) : O := .box [.d (.v (.int .i64 n))]
theorem ok14 (hx : ext 14 = none) (F u u' r r' : Int) (c y : Cd) (h15 : run Tryd.prog ext (.call 15 [.c (.ptr 0 0), cdV c] [M15 nd cd F u r]) = some (.ret [cdV y] [M15 nd cd F u' r'])) :
    run Tryd.prog ext (.call 14 [.c (.ptr 0 0), .c (.ptr 1 0), .c (.ptr 2 0), .c (.ptr 3 0)] [M15 nd cd F u r, .box (cdC c), .box (zrow.map .d), iB 0]) = some (.ret [] [M15 nd cd F u' r', .box (cdC c), .box (cdC y), iB u']) := by
  simp only [cdV, cdC, M15, iB, zrow, List.map_cons, List.map_nil] at h15 ⊢
  (rw [run_eq]; simp only [stepA, hx, Tryd.func14, Tryd.f14]; simp only [List.length_cons, List.length_nil, Nat.reduceAdd, Nat.reduceLeDiff, Nat.zero_le, ↓reduceIte, List.zipIdx_cons, List.zipIdx_nil, List.map_cons, List.map_nil])
  simp only [zS, wantedA, opA, eff, boxA, cells, ev, gt, pt, putO, updO, setO, okC, loadA, cutC, fieldAddrA, fieldA, indexAddrA, indexA, builtinA, callOpA, callV, target, ptrV, lenS, binA, intOp, strOp, unA, num, lk, over, allocA, pickA, buildA, fillA, convertA, extractA, ofComp, nilCheckA, makeFuncA, ptrs, ofValue, cellB, Nat.reduceAdd, Nat.reduceSub, Nat.reduceMul, Nat.reduceLT, Nat.reduceLeDiff, Nat.reduceGT, ↓reduceIte, Nat.reduceEqDiff, Nat.reduceBEq, reduceCtorEq, Int.reduceBEq, Int.reduceBNe, Int.reduceLT, Int.reduceLE, Int.reduceGT, Int.reduceGE, aggT_25, sizeT_25, bytesT_25, fieldT_25_0, fieldT_25_1, fieldT_25_2, fieldT_25_3, placesT_25, zeroT_25, aggT_23, sizeT_23, bytesT_23, und_23, elemT_23, zero1_23, zeroT_23, aggT_44, sizeT_44, bytesT_44, fieldT_44_0, fieldT_44_1, fieldT_44_2, fieldT_44_3, fieldT_44_4, placesT_44, zeroT_44, aggT_3, sizeT_3, bytesT_3, und_3, zero1_3, zeroT_3, aggT_4, sizeT_4, bytesT_4, und_4, zero1_4, zeroT_4, callA_ptr, cpK_box, h15, callOut_pt]
  (refine Eq.trans ?_ rfl; kernel_rfl)
theorem pan14 (hx : ext 14 = none) (F u u' r r' : Int) (c : Cd) (v : Value) (h15 : run Tryd.prog ext (.call 15 [.c (.ptr 0 0), cdV c] [M15 nd cd F u r]) = some (.pan v [M15 nd cd F u' r'])) :
    run Tryd.prog ext (.call 14 [.c (.ptr 0 0), .c (.ptr 1 0), .c (.ptr 2 0), .c (.ptr 3 0)] [M15 nd cd F u r, .box (cdC c), .box (zrow.map .d), iB 0]) = some (.pan v [M15 nd cd F u' r', .box (cdC c), .box (zrow.map .d), iB 0]) := by
  simp only [cdV, cdC, M15, iB, zrow, List.map_cons, List.map_nil] at h15 ⊢
  (rw [run_eq]; simp only [stepA, hx, Tryd.func14, Tryd.f14]; simp only [List.length_cons, List.length_nil, Nat.reduceAdd, Nat.reduceLeDiff, Nat.zero_le, ↓reduceIte, List.zipIdx_cons, List.zipIdx_nil, List.map_cons, List.map_nil])
  simp only [zS, wantedA, opA, eff, boxA, cells, ev, gt, pt, putO, updO, setO, okC, loadA, cutC, fieldAddrA, fieldA, indexAddrA, indexA, builtinA, callOpA, callV, target, ptrV, lenS, binA, intOp, strOp, unA, num, lk, over, allocA, pickA, buildA, fillA, convertA, extractA, ofComp, nilCheckA, makeFuncA, ptrs, ofValue, cellB, Nat.reduceAdd, Nat.reduceSub, Nat.reduceMul, Nat.reduceLT, Nat.reduceLeDiff, Nat.reduceGT, ↓reduceIte, Nat.reduceEqDiff, Nat.reduceBEq, reduceCtorEq, Int.reduceBEq, Int.reduceBNe, Int.reduceLT, Int.reduceLE, Int.reduceGT, Int.reduceGE, aggT_25, sizeT_25, bytesT_25, fieldT_25_0, fieldT_25_1, fieldT_25_2, fieldT_25_3, placesT_25, zeroT_25, aggT_23, sizeT_23, bytesT_23, und_23, elemT_23, zero1_23, zeroT_23, aggT_44, sizeT_44, bytesT_44, fieldT_44_0, fieldT_44_1, fieldT_44_2, fieldT_44_3, fieldT_44_4, placesT_44, zeroT_44, aggT_3, sizeT_3, bytesT_3, und_3, zero1_3, zeroT_3, aggT_4, sizeT_4, bytesT_4, und_4, zero1_4, zeroT_4, callA_ptr, cpK_box, h15, callOut_pp, panicA_f]
  (refine Eq.trans ?_ rfl; kernel_rfl)
end Go.Proofs.YtmjacokkgfophaaDoor.Am
end
section
/- Numeral's loop. -/
namespace Go.Proofs.YtmjacokkgfophaaDoor.Am
open Go
set_option maxHeartbeats 8000000
set_option maxRecDepth 10000
variable (ext : Ext) (nd cd : D)
noncomputable def B20 : Code := (Tryd.f20.body.getD .skip)
noncomputable def L20 : Code := sub B20 [1, 0, 0]
noncomputable def K20 : List It := [.inBlock 0]
def E20 : Env := [(0, .c (.ptr 0 0)), (2, .c (.ptr 2 0)), (4, .c (.ptr 3 0))]
noncomputable def H20 (c : Cd) (F u r n : Int) (x : Cd) : Option Out :=
  run Tryd.prog ext (.k ⟨36, 3, []⟩ (.code L20 :: .inLoop L20 :: K20) E20 [M15 nd cd F u r, .box (cdC c), iB n, .box (cdC x)])
theorem enter20 (hx : ext 20 = none) (F u r : Int) (c : Cd) (out : Option Out) (h : H20 ext nd cd c F u r 0 c = out) : run Tryd.prog ext (.call 20 [.c (.ptr 0 0), .c (.ptr 1 0), .c (.ptr 2 0)] [M15 nd cd F u r, .box (cdC c), iB 0]) = out := by
  unfold H20 at h
  (rw [run_eq]; simp only [stepA, hx, Tryd.func20, Tryd.f20]; simp only [List.length_cons, List.length_nil, Nat.reduceAdd, Nat.reduceLeDiff, Nat.zero_le, ↓reduceIte, List.zipIdx_cons, List.zipIdx_nil, List.map_cons, List.map_nil])
  simp only [cdV, cdC, M15, iB, zrow, List.map_cons, List.map_nil]
  simp only [zS, wantedA, opA, eff, boxA, cells, ev, gt, pt, putO, updO, setO, okC, loadA, cutC, fieldAddrA, fieldA, indexAddrA, indexA, builtinA, callOpA, callV, target, ptrV, lenS, binA, intOp, strOp, unA, num, lk, over, allocA, pickA, buildA, fillA, convertA, extractA, ofComp, nilCheckA, makeFuncA, ptrs, ofValue, cellB, Nat.reduceAdd, Nat.reduceSub, Nat.reduceMul, Nat.reduceLT, Nat.reduceLeDiff, Nat.reduceGT, ↓reduceIte, Nat.reduceEqDiff, Nat.reduceBEq, reduceCtorEq, Int.reduceBEq, Int.reduceBNe, Int.reduceLT, Int.reduceLE, Int.reduceGT, Int.reduceGE, aggT_25, sizeT_25, bytesT_25, fieldT_25_0, fieldT_25_1, fieldT_25_2, fieldT_25_3, placesT_25, zeroT_25, aggT_23, sizeT_23, bytesT_23, und_23, elemT_23, zero1_23, zeroT_23, aggT_3, sizeT_3, bytesT_3, und_3, zero1_3, zeroT_3, aggT_4, sizeT_4, bytesT_4, und_4, zero1_4, zeroT_4]
  refine (r_inLoop_some ?_).trans h
  kernel_rfl
variable (c : Cd) (F u r n : Int) (x : Cd)
theorem pan20 (u1 r1 : Int) (v : Value) (h15 : run Tryd.prog ext (.call 15 [.c (.ptr 0 0), cdV x] [M15 nd cd F u r]) = some (.pan v [M15 nd cd F u1 r1])) : H20 ext nd cd c F u r n x = some (.pan v [M15 nd cd F u1 r1, .box (cdC c), iB n]) := by
  unfold H20
  rw [show (It.code L20) = It.code (sub B20 [1, 0, 0]) from rfl]
  simp only [M15, cdV, cdC] at h15
  simp only [E20, M15, cdV, cdC, iV, iB, zrow, List.map_cons, List.map_nil]
  simp only [B20, K20, sub, Option.getD_some, Tryd.f20, ↓reduceIte, Nat.one_ne_zero]
  simp only [zS, wantedA, opA, eff, boxA, cells, ev, gt, pt, putO, updO, setO, okC, loadA, cutC, fieldAddrA, fieldA, indexAddrA, indexA, builtinA, callOpA, callV, target, ptrV, lenS, binA, intOp, strOp, unA, num, lk, over, allocA, pickA, buildA, fillA, convertA, extractA, ofComp, nilCheckA, makeFuncA, ptrs, ofValue, cellB, Nat.reduceAdd, Nat.reduceSub, Nat.reduceMul, Nat.reduceLT, Nat.reduceLeDiff, Nat.reduceGT, ↓reduceIte, Nat.reduceEqDiff, Nat.reduceBEq, reduceCtorEq, Int.reduceBEq, Int.reduceBNe, Int.reduceLT, Int.reduceLE, Int.reduceGT, Int.reduceGE, aggT_25, sizeT_25, bytesT_25, fieldT_25_0, fieldT_25_1, fieldT_25_2, fieldT_25_3, placesT_25, zeroT_25, aggT_23, sizeT_23, bytesT_23, und_23, elemT_23, zero1_23, zeroT_23, aggT_3, sizeT_3, bytesT_3, und_3, zero1_3, zeroT_3, aggT_4, sizeT_4, bytesT_4, und_4, zero1_4, zeroT_4, callA_ptr, cpK_box, h15, callOut_pp]
  (refine Eq.trans ?_ rfl; kernel_rfl)
theorem bad20 (u1 r1 : Int) (y : Cd) (h15 : run Tryd.prog ext (.call 15 [.c (.ptr 0 0), cdV x] [M15 nd cd F u r]) = some (.ret [cdV y] [M15 nd cd F u1 r1])) (h8 : ¬ y.op = 8) : H20 ext nd cd c F u r n x = some (.pan (failedV 211) [M15 nd cd F u1 r1, .box (cdC c), iB n]) := by
  unfold H20
  rw [show (It.code L20) = It.code (sub B20 [1, 0, 0]) from rfl]
  simp only [M15, cdV, cdC] at h15
  simp only [E20, M15, cdV, cdC, iV, iB, zrow, List.map_cons, List.map_nil]
  simp only [B20, K20, sub, Option.getD_some, Tryd.f20, ↓reduceIte, Nat.one_ne_zero]
  simp only [zS, wantedA, opA, eff, boxA, cells, ev, gt, pt, putO, updO, setO, okC, loadA, cutC, fieldAddrA, fieldA, indexAddrA, indexA, builtinA, callOpA, callV, target, ptrV, lenS, binA, intOp, strOp, unA, num, lk, over, allocA, pickA, buildA, fillA, convertA, extractA, ofComp, nilCheckA, makeFuncA, ptrs, ofValue, cellB, Nat.reduceAdd, Nat.reduceSub, Nat.reduceMul, Nat.reduceLT, Nat.reduceLeDiff, Nat.reduceGT, ↓reduceIte, Nat.reduceEqDiff, Nat.reduceBEq, reduceCtorEq, Int.reduceBEq, Int.reduceBNe, Int.reduceLT, Int.reduceLE, Int.reduceGT, Int.reduceGE, aggT_25, sizeT_25, bytesT_25, fieldT_25_0, fieldT_25_1, fieldT_25_2, fieldT_25_3, placesT_25, zeroT_25, aggT_23, sizeT_23, bytesT_23, und_23, elemT_23, zero1_23, zeroT_23, aggT_3, sizeT_3, bytesT_3, und_3, zero1_3, zeroT_3, aggT_4, sizeT_4, bytesT_4, und_4, zero1_4, zeroT_4, aggT_53, sizeT_53, bytesT_53, fieldT_53_0, placesT_53, zeroT_53, callA_ptr, cpK_box, h15, callOut_pt, h8, mkI53, panicA_f]
  (refine Eq.trans ?_ rfl; kernel_rfl)
theorem big20 (u1 r1 : Int) (y : Cd) (h15 : run Tryd.prog ext (.call 15 [.c (.ptr 0 0), cdV x] [M15 nd cd F u r]) = some (.ret [cdV y] [M15 nd cd F u1 r1])) (h8 : y.op = 8) (h1 : y.n > 1) : H20 ext nd cd c F u r n x = some (.pan (failedV 211) [M15 nd cd F u1 r1, .box (cdC c), iB n]) := by
  unfold H20
  rw [show (It.code L20) = It.code (sub B20 [1, 0, 0]) from rfl]
  simp only [M15, cdV, cdC, h8] at h15
  simp only [E20, M15, cdV, cdC, iV, iB, zrow, List.map_cons, List.map_nil]
  simp only [B20, K20, sub, Option.getD_some, Tryd.f20, ↓reduceIte, Nat.one_ne_zero]
  simp only [zS, wantedA, opA, eff, boxA, cells, ev, gt, pt, putO, updO, setO, okC, loadA, cutC, fieldAddrA, fieldA, indexAddrA, indexA, builtinA, callOpA, callV, target, ptrV, lenS, binA, intOp, strOp, unA, num, lk, over, allocA, pickA, buildA, fillA, convertA, extractA, ofComp, nilCheckA, makeFuncA, ptrs, ofValue, cellB, Nat.reduceAdd, Nat.reduceSub, Nat.reduceMul, Nat.reduceLT, Nat.reduceLeDiff, Nat.reduceGT, ↓reduceIte, Nat.reduceEqDiff, Nat.reduceBEq, reduceCtorEq, Int.reduceBEq, Int.reduceBNe, Int.reduceLT, Int.reduceLE, Int.reduceGT, Int.reduceGE, aggT_25, sizeT_25, bytesT_25, fieldT_25_0, fieldT_25_1, fieldT_25_2, fieldT_25_3, placesT_25, zeroT_25, aggT_23, sizeT_23, bytesT_23, und_23, elemT_23, zero1_23, zeroT_23, aggT_3, sizeT_3, bytesT_3, und_3, zero1_3, zeroT_3, aggT_4, sizeT_4, bytesT_4, und_4, zero1_4, zeroT_4, aggT_53, sizeT_53, bytesT_53, fieldT_53_0, placesT_53, zeroT_53, callA_ptr, cpK_box, h15, callOut_pt, h8, h1, mkI53, panicA_f]
  (refine Eq.trans ?_ rfl; kernel_rfl)
theorem end20 (u1 r1 : Int) (y : Cd) (h15 : run Tryd.prog ext (.call 15 [.c (.ptr 0 0), cdV x] [M15 nd cd F u r]) = some (.ret [cdV y] [M15 nd cd F u1 r1])) (h8 : y.op = 8) (h1 : y.n = 0) : H20 ext nd cd c F u r n x = some (.ret [] [M15 nd cd F u1 r1, .box (cdC c), iB n]) := by
  unfold H20
  rw [show (It.code L20) = It.code (sub B20 [1, 0, 0]) from rfl]
  simp only [M15, cdV, cdC, h8, h1] at h15
  simp only [E20, M15, cdV, cdC, iV, iB, zrow, List.map_cons, List.map_nil]
  simp only [B20, K20, sub, Option.getD_some, Tryd.f20, ↓reduceIte, Nat.one_ne_zero]
  simp only [zS, wantedA, opA, eff, boxA, cells, ev, gt, pt, putO, updO, setO, okC, loadA, cutC, fieldAddrA, fieldA, indexAddrA, indexA, builtinA, callOpA, callV, target, ptrV, lenS, binA, intOp, strOp, unA, num, lk, over, allocA, pickA, buildA, fillA, convertA, extractA, ofComp, nilCheckA, makeFuncA, ptrs, ofValue, cellB, Nat.reduceAdd, Nat.reduceSub, Nat.reduceMul, Nat.reduceLT, Nat.reduceLeDiff, Nat.reduceGT, ↓reduceIte, Nat.reduceEqDiff, Nat.reduceBEq, reduceCtorEq, Int.reduceBEq, Int.reduceBNe, Int.reduceLT, Int.reduceLE, Int.reduceGT, Int.reduceGE, aggT_25, sizeT_25, bytesT_25, fieldT_25_0, fieldT_25_1, fieldT_25_2, fieldT_25_3, placesT_25, zeroT_25, aggT_23, sizeT_23, bytesT_23, und_23, elemT_23, zero1_23, zeroT_23, aggT_3, sizeT_3, bytesT_3, und_3, zero1_3, zeroT_3, aggT_4, sizeT_4, bytesT_4, und_4, zero1_4, zeroT_4, aggT_53, sizeT_53, bytesT_53, fieldT_53_0, placesT_53, zeroT_53, callA_ptr, cpK_box, h15, callOut_pt, mkI53, panicA_f]
  (refine Eq.trans ?_ rfl; kernel_rfl)
theorem lim20 (u1 r1 : Int) (y : Cd) (h15 : run Tryd.prog ext (.call 15 [.c (.ptr 0 0), cdV x] [M15 nd cd F u r]) = some (.ret [cdV y] [M15 nd cd F u1 r1])) (h8 : y.op = 8) (h1 : y.n = 1) (hn : n = 10000) : H20 ext nd cd c F u r n x = some (.pan (failedV 2) [M15 nd cd F u1 r1, .box (cdC c), iB n]) := by
  subst hn
  unfold H20
  rw [show (It.code L20) = It.code (sub B20 [1, 0, 0]) from rfl]
  simp only [M15, cdV, cdC, h8, h1] at h15
  simp only [E20, M15, cdV, cdC, iV, iB, zrow, List.map_cons, List.map_nil]
  simp only [B20, K20, sub, Option.getD_some, Tryd.f20, ↓reduceIte, Nat.one_ne_zero]
  simp only [zS, wantedA, opA, eff, boxA, cells, ev, gt, pt, putO, updO, setO, okC, loadA, cutC, fieldAddrA, fieldA, indexAddrA, indexA, builtinA, callOpA, callV, target, ptrV, lenS, binA, intOp, strOp, unA, num, lk, over, allocA, pickA, buildA, fillA, convertA, extractA, ofComp, nilCheckA, makeFuncA, ptrs, ofValue, cellB, Nat.reduceAdd, Nat.reduceSub, Nat.reduceMul, Nat.reduceLT, Nat.reduceLeDiff, Nat.reduceGT, ↓reduceIte, Nat.reduceEqDiff, Nat.reduceBEq, reduceCtorEq, Int.reduceBEq, Int.reduceBNe, Int.reduceLT, Int.reduceLE, Int.reduceGT, Int.reduceGE, aggT_25, sizeT_25, bytesT_25, fieldT_25_0, fieldT_25_1, fieldT_25_2, fieldT_25_3, placesT_25, zeroT_25, aggT_23, sizeT_23, bytesT_23, und_23, elemT_23, zero1_23, zeroT_23, aggT_3, sizeT_3, bytesT_3, und_3, zero1_3, zeroT_3, aggT_4, sizeT_4, bytesT_4, und_4, zero1_4, zeroT_4, aggT_53, sizeT_53, bytesT_53, fieldT_53_0, placesT_53, zeroT_53, callA_ptr, cpK_box, h15, callOut_pt, mkI53, panicA_f]
  (refine Eq.trans ?_ rfl; kernel_rfl)
theorem go20 (u1 r1 : Int) (y t : Cd) (h15 : run Tryd.prog ext (.call 15 [.c (.ptr 0 0), cdV x] [M15 nd cd F u r]) = some (.ret [cdV y] [M15 nd cd F u1 r1])) (h8 : y.op = 8) (h1 : y.n = 1) (hn : ¬ n = 10000) (hl0 : (0 : Int) < y.l.length) (ht : y.l[(0 : Int).toNat]? = some t) (out : Option Out) (h : H20 ext nd cd c F u1 r1 (wr (n + 1)) t = out) : H20 ext nd cd c F u r n x = out := by
  unfold H20 at h ⊢
  rw [show (It.code L20) = It.code (sub B20 [1, 0, 0]) from rfl]
  have z0 : (0 : Int) ≤ 0 := Int.le_refl _
  simp only [M15, cdV, cdC, h8, h1] at h15
  simp only [E20, M15, cdV, cdC, iV, iB, zrow, List.map_cons, List.map_nil, lD_of_lt z0 hl0] at h15 ⊢
  simp only [B20, K20, sub, Option.getD_some, Tryd.f20, ↓reduceIte, Nat.one_ne_zero]
  simp only [zS, wantedA, opA, eff, boxA, cells, ev, gt, pt, putO, updO, setO, okC, loadA, cutC, fieldAddrA, fieldA, indexAddrA, indexA, builtinA, callOpA, callV, target, ptrV, lenS, binA, intOp, strOp, unA, num, lk, over, allocA, pickA, buildA, fillA, convertA, extractA, ofComp, nilCheckA, makeFuncA, ptrs, ofValue, cellB, Nat.reduceAdd, Nat.reduceSub, Nat.reduceMul, Nat.reduceLT, Nat.reduceLeDiff, Nat.reduceGT, ↓reduceIte, Nat.reduceEqDiff, Nat.reduceBEq, reduceCtorEq, Int.reduceBEq, Int.reduceBNe, Int.reduceLT, Int.reduceLE, Int.reduceGT, Int.reduceGE, aggT_25, sizeT_25, bytesT_25, fieldT_25_0, fieldT_25_1, fieldT_25_2, fieldT_25_3, placesT_25, zeroT_25, aggT_23, sizeT_23, bytesT_23, und_23, elemT_23, zero1_23, zeroT_23, aggT_3, sizeT_3, bytesT_3, und_3, zero1_3, zeroT_3, aggT_4, sizeT_4, bytesT_4, und_4, zero1_4, zeroT_4, aggT_53, sizeT_53, bytesT_53, fieldT_53_0, placesT_53, zeroT_53, callA_ptr, cpK_box, h15, callOut_pt, mkI53, panicA_f, hn, hl0, z0, ht, mapd_enc]
  refine (r_inLoop_some ?_).trans h
  kernel_rfl
end Go.Proofs.YtmjacokkgfophaaDoor.Am
end
section
/- Numeral's loop comes to an end; more fuel changes nothing but that it is too little. Both closures, called. -/
namespace Go.Proofs.YtmjacokkgfophaaDoor.Am
open Go
inductive ResN where
  | ok (n u : Nat)
  | err (e : Int) (n u r : Nat)
def notFuelN : ResN → Prop
  | .ok _ _ => True
  | .err e _ _ _ => e ≠ 5
noncomputable def RunsN (ext : Ext) (nd cd : D) (c : Cd) (F u n : Nat) (x : Cd) : ResN → Prop
  | .ok k u' => H20 ext nd cd c F u 0 n x = some (.ret [] [M15 nd cd F u' (0 : Nat), .box (cdC c), iB k])
  | .err e k u' r' => H20 ext nd cd c F u 0 n x = some (.pan (failedV e) [M15 nd cd F u' r', .box (cdC c), iB k])
section
variable {ext : Ext}
theorem num20 (hE : Ex ext) (zn zc : Bool) (names : List ByteArray) (codes : List Cd) (hlen : names.length = codes.length) (hl : names.length < 2 ^ 60) (hcs : ∀ t ∈ codes, WF ext t ∧ t.size ≤ 1048576) (c : Cd) :
    ∀ (m n F u : Nat) (x : Cd), 10001 - n ≤ m → n ≤ 10000 → u ≤ F → F ≤ 200000 → WF ext x → x.size ≤ 1048576 →
      ∃ o, RunsN ext (listS zn names) (listD zc (codes.map encCd)) c F u n x o ∧ (notFuelN o → ∀ F', F ≤ F' → F' ≤ 200000 → RunsN ext (listS zn names) (listD zc (codes.map encCd)) c F' u n x o) := by
  intro m
  induction m with
  | zero => intro n F u x hm hn; omega
  | succ m ih =>
    intro n F u x hm hn hu hF hw hs
    obtain ⟨o, h1, h2, h3⟩ := main15 hE zn zc names codes hlen hl hcs _ F u 0 x (Nat.le_refl _) hu hF hw (by omega)
    have ent : ∀ (F' : Nat) out, H15 ext (listS zn names) (listD zc (codes.map encCd)) F' u (0 : Nat) x = out → run Tryd.prog ext (.call 15 [.c (.ptr 0 0), cdV x] [M15 (listS zn names) (listD zc (codes.map encCd)) F' u (0 : Nat)]) = out :=
      fun F' out h => enter15 ext _ _ F' u (0 : Nat) (hE.at 15 rfl) x out h
    cases o with
    | err e u' r' =>
      exact ⟨.err e n u' r', pan20 ext _ _ c F u 0 n x u' r' _ (ent F _ h1), fun hnf F' h4 h5 => pan20 ext _ _ c F' u 0 n x u' r' _ (ent F' _ (h3 hnf F' h4 h5))⟩
    | ok y u' =>
      obtain ⟨a1, a2, a3, a4⟩ := h2
      have h15 : ∀ F' : Nat, F ≤ F' → F' ≤ 200000 → run Tryd.prog ext (.call 15 [.c (.ptr 0 0), cdV x] [M15 (listS zn names) (listD zc (codes.map encCd)) F' u (0 : Nat)]) = some (.ret [cdV y] [M15 (listS zn names) (listD zc (codes.map encCd)) F' u' (0 : Nat)]) :=
        fun F' h4 h5 => ent F' _ (h3 trivial F' h4 h5)
      have fin : ∀ (o' : ResN), (∀ F' : Nat, F ≤ F' → F' ≤ 200000 → RunsN ext (listS zn names) (listD zc (codes.map encCd)) c F' u n x o') →
          ∃ o, RunsN ext (listS zn names) (listD zc (codes.map encCd)) c F u n x o ∧ (notFuelN o → ∀ F', F ≤ F' → F' ≤ 200000 → RunsN ext (listS zn names) (listD zc (codes.map encCd)) c F' u n x o) :=
        fun o' h => ⟨o', h F (Nat.le_refl _) hF, fun _ => h⟩
      by_cases h8 : y.op = 8
      · obtain ⟨l1, l2⟩ := a3.ok.con h8
        by_cases hb : y.n > 1
        · exact fin (.err 211 n u' 0) fun F' h4 h5 => big20 ext _ _ c F' u 0 n x u' 0 y (h15 F' h4 h5) h8 hb
        · by_cases h0 : y.n = 0
          · exact fin (.ok n u') fun F' h4 h5 => end20 ext _ _ c F' u 0 n x u' 0 y (h15 F' h4 h5) h8 h0
          · have e1 : y.n = 1 := by omega
            by_cases hn1 : n = 10000
            · exact fin (.err 2 n u' 0) fun F' h4 h5 => lim20 ext _ _ c F' u 0 n x u' 0 y (h15 F' h4 h5) h8 e1 (by omega)
            · obtain ⟨t, ht⟩ : ∃ t, y.l = [t] := by
                cases hl' : y.l with
                | nil => rw [hl'] at l1; cases l1
                | cons a l => cases l with
                  | nil => exact ⟨a, rfl⟩
                  | cons b l => rw [hl'] at l1; simp at l1
              have htm : t ∈ y.l := by rw [ht]; simp
              have hsz := Cd.size_lt htm
              obtain ⟨o', k1, k2⟩ := ih (n + 1) F u' t (by omega) (by omega) a2 hF (a3.part htm) (by omega)
              have e2 : wr ((n : Int) + 1) = (n + 1 : Nat) := by rw [wr_id (by omega) (by omega)]; omega
              have stp : ∀ (F' : Nat) out, F ≤ F' → F' ≤ 200000 → H20 ext (listS zn names) (listD zc (codes.map encCd)) c F' u' 0 (n + 1 : Nat) t = out → H20 ext (listS zn names) (listD zc (codes.map encCd)) c F' u 0 n x = out :=
                fun F' out h4 h5 h => go20 ext _ _ c F' u 0 n x u' 0 y t (h15 F' h4 h5) h8 e1 (by omega) (by rw [ht]; simp) (by rw [ht]; rfl) out (by rw [e2]; exact h)
              refine ⟨o', ?_, fun hnf F' h4 h5 => ?_⟩
              · cases o' with
                | ok k u2 => exact stp F _ (Nat.le_refl _) hF k1
                | err e k u2 r2 => exact stp F _ (Nat.le_refl _) hF k1
              · cases o' with
                | ok k u2 => exact stp F' _ h4 h5 (k2 hnf F' h4 h5)
                | err e k u2 r2 => exact stp F' _ h4 h5 (k2 hnf F' h4 h5)
      · exact fin (.err 211 n u' 0) fun F' h4 h5 => bad20 ext _ _ c F' u 0 n x u' 0 y (h15 F' h4 h5) h8
/-- Head's closure at some fuel. -/
theorem clo14 (hE : Ex ext) (zn zc : Bool) (names : List ByteArray) (codes : List Cd) (hlen : names.length = codes.length) (hl : names.length < 2 ^ 60) (hcs : ∀ t ∈ codes, WF ext t ∧ t.size ≤ 1048576) (F : Nat) (c : Cd) (hF : F ≤ 200000) (hw : WF ext c) (hs : c.size ≤ 1048576) :
    (∃ (y : Cd) (u' : Nat), u' ≤ F ∧ WF ext y ∧ y.size ≤ 1048576 ∧ ∀ F' : Nat, F ≤ F' → F' ≤ 200000 → run Tryd.prog ext (.call 14 [.c (.ptr 0 0), .c (.ptr 1 0), .c (.ptr 2 0), .c (.ptr 3 0)] [M15 (listS zn names) (listD zc (codes.map encCd)) F' 0 0, .box (cdC c), .box (zrow.map .d), iB 0]) = some (.ret [] [M15 (listS zn names) (listD zc (codes.map encCd)) F' u' 0, .box (cdC c), .box (cdC y), iB u'])) ∨
    (∃ (e : Int) (u' r' : Nat), ∀ F' : Nat, F ≤ F' → F' ≤ 200000 → (F' = F ∨ e ≠ 5) → run Tryd.prog ext (.call 14 [.c (.ptr 0 0), .c (.ptr 1 0), .c (.ptr 2 0), .c (.ptr 3 0)] [M15 (listS zn names) (listD zc (codes.map encCd)) F' 0 0, .box (cdC c), .box (zrow.map .d), iB 0]) = some (.pan (failedV e) [M15 (listS zn names) (listD zc (codes.map encCd)) F' u' r', .box (cdC c), .box (zrow.map .d), iB 0])) := by
  obtain ⟨o, h1, h2, h3⟩ := main15 hE zn zc names codes hlen hl hcs _ F 0 0 c (Nat.le_refl _) (by omega) hF hw (by omega)
  cases o with
  | ok y u' =>
    obtain ⟨a1, a2, a3, a4⟩ := h2
    exact .inl ⟨y, u', a2, a3, by omega, fun F' h4 h5 => ok14 ext _ _ (hE.at 14 rfl) F' 0 u' 0 0 c y (enter15 ext _ _ F' 0 0 (hE.at 15 rfl) c _ (h3 trivial F' h4 h5))⟩
  | err e u' r' =>
    refine .inr ⟨e, u', r', fun F' h4 h5 h6 => pan14 ext _ _ (hE.at 14 rfl) F' 0 u' 0 r' c _ (enter15 ext _ _ F' 0 0 (hE.at 15 rfl) c _ ?_)⟩
    rcases h6 with rfl | h6
    · exact h1
    · exact h3 h6 F' h4 h5
/-- Numeral's closure at some fuel. -/
theorem clo20 (hE : Ex ext) (zn zc : Bool) (names : List ByteArray) (codes : List Cd) (hlen : names.length = codes.length) (hl : names.length < 2 ^ 60) (hcs : ∀ t ∈ codes, WF ext t ∧ t.size ≤ 1048576) (F : Nat) (c : Cd) (hF : F ≤ 200000) (hw : WF ext c) (hs : c.size ≤ 1048576) :
    (∃ (k u' : Nat), ∀ F' : Nat, F ≤ F' → F' ≤ 200000 → run Tryd.prog ext (.call 20 [.c (.ptr 0 0), .c (.ptr 1 0), .c (.ptr 2 0)] [M15 (listS zn names) (listD zc (codes.map encCd)) F' 0 0, .box (cdC c), iB 0]) = some (.ret [] [M15 (listS zn names) (listD zc (codes.map encCd)) F' u' 0, .box (cdC c), iB k])) ∨
    (∃ (e : Int) (k u' r' : Nat), ∀ F' : Nat, F ≤ F' → F' ≤ 200000 → (F' = F ∨ e ≠ 5) → run Tryd.prog ext (.call 20 [.c (.ptr 0 0), .c (.ptr 1 0), .c (.ptr 2 0)] [M15 (listS zn names) (listD zc (codes.map encCd)) F' 0 0, .box (cdC c), iB 0]) = some (.pan (failedV e) [M15 (listS zn names) (listD zc (codes.map encCd)) F' u' r', .box (cdC c), iB k])) := by
  obtain ⟨o, h1, h3⟩ := num20 hE zn zc names codes hlen hl hcs c 10001 0 F 0 c (by omega) (by omega) (by omega) hF hw (by omega)
  cases o with
  | ok k u' => exact .inl ⟨k, u', fun F' h4 h5 => enter20 ext _ _ (hE.at 20 rfl) F' 0 0 c _ (h3 trivial F' h4 h5)⟩
  | err e k u' r' =>
    refine .inr ⟨e, k, u', r', fun F' h4 h5 h6 => enter20 ext _ _ (hE.at 20 rfl) F' 0 0 c _ ?_⟩
    rcases h6 with rfl | h6
    · exact h1
    · exact h3 h6 F' h4 h5
end
end Go.Proofs.YtmjacokkgfophaaDoor.Am
end
section
/- What stands in for the functions that have no body here, and for run. -/
namespace Go.Proofs.YtmjacokkgfophaaDoor.Am
open Go
def E0 : Ext := fun f => if f = 80 then some nat80 else if f = 87 then some nat87 else none
theorem ex0 : Ex E0 := ⟨fun f _ h2 h3 => by unfold E0; rw [if_neg h2, if_neg h3], rfl, rfl⟩
theorem rec0 : RecOK Tryd.prog (run Tryd.prog E0) := by
  refine recOK_run named (fun f g args objs out h1 h2 => ?_) mixes
  unfold E0 at h1
  by_cases h : f = 80
  · subst h; rw [if_pos rfl] at h1; cases h1; exact .inr (nat80_ok h2)
  · rw [if_neg h] at h1
    by_cases h' : f = 87
    · subst h'; rw [if_pos rfl] at h1; cases h1; exact .inr (nat87_ok h2)
    · rw [if_neg h'] at h1; cases h1
theorem bodied13 : Bodied Tryd.prog 13 := ⟨Tryd.f13, Tryd.func13, by kernel_rfl⟩
def clampF (fu : Int) : Int := if (200000 : Int) < (if (0 : Int) > fu then 0 else fu) then 200000 else (if (0 : Int) > fu then 0 else fu)
noncomputable def valid22 (nd cd : D) (c : Cd) : Option Out := run Tryd.prog E0 (.call 22 [.c (.d nd), .c (.d cd), cdV c] [])
/-- What run answers with, from what it meets. -/
def Step13 (nd cd : D) (c : Cd) (fu : Int) (clo : O → Option Out) (Sh : O → List O → Prop) (objs : List O) (out : Out) : Prop :=
  (valid22 nd cd c = some (.ret [bV false] []) ∧ out = .ret [iV 210] objs) ∨
  (valid22 nd cd c = some (.ret [bV true] []) ∧
    ((∃ m os, clo (M15 nd cd (clampF fu) 0 0) = some (.ret [] (m :: os)) ∧ Sh m os ∧ out = .ret [iV 0] os) ∨
     (∃ e m os, clo (M15 nd cd (clampF fu) 0 0) = some (.pan (failedV e) (m :: os)) ∧ Sh m os ∧ out = .ret [iV e] os)))
theorem step13_det {nd cd : D} {c : Cd} {fu : Int} {clo : O → Option Out} {Sh Sh' : O → List O → Prop} {objs : List O} {o1 o2 : Out} (h1 : Step13 nd cd c fu clo Sh objs o1) (h2 : Step13 nd cd c fu clo Sh' objs o2) : o1 = o2 := by
  rcases h1 with ⟨a1, a2⟩ | ⟨a1, ⟨m, os, a2, _, a3⟩ | ⟨e, m, os, a2, _, a3⟩⟩ <;> rcases h2 with ⟨b1, b2⟩ | ⟨b1, ⟨m', os', b2, _, b3⟩ | ⟨e', m', os', b2, _, b3⟩⟩
  · rw [a2, b2]
  · rw [a1] at b1; cases b1
  · rw [a1] at b1; cases b1
  · rw [a1] at b1; cases b1
  · rw [a2] at b2; cases b2; rw [a3, b3]
  · rw [a2] at b2; cases b2
  · rw [a1] at b1; cases b1
  · rw [a2] at b2; cases b2
  · rw [a2] at b2; cases b2; rw [a3, b3]
noncomputable def clA (c : Cd) (m : O) : Option Out := run Tryd.prog E0 (.call 14 [.c (.ptr 0 0), .c (.ptr 1 0), .c (.ptr 2 0), .c (.ptr 3 0)] (m :: objsA c))
noncomputable def clB (c : Cd) (m : O) : Option Out := run Tryd.prog E0 (.call 20 [.c (.ptr 0 0), .c (.ptr 1 0), .c (.ptr 2 0)] (m :: objsB c))
def ShA (nd cd : D) (fu : Int) (c : Cd) (m : O) (os : List O) : Prop := ∃ (u r n : Int) (y : Cd), m = M15 nd cd (clampF fu) u r ∧ os = [.box (cdC c), .box (cdC y), iB n]
def ShB (nd cd : D) (fu : Int) (c : Cd) (m : O) (os : List O) : Prop := ∃ (u r n : Int), m = M15 nd cd (clampF fu) u r ∧ os = [.box (cdC c), iB n]
def R13 (args : List V) (objs : List O) (out : Out) : Prop := ∃ (nd cd : D) (c : Cd) (fu : Int),
  (args = argsA nd cd c fu ∧ objs = objsA c ∧ Step13 nd cd c fu (clA c) (ShA nd cd fu c) (objsA c) out) ∨
  (args = argsB nd cd c fu ∧ objs = objsB c ∧ Step13 nd cd c fu (clB c) (ShB nd cd fu c) (objsB c) out)
theorem argsA_inj {nd cd nd' cd' : D} {c c' : Cd} {fu fu' : Int} (h : argsA nd cd c fu = argsA nd' cd' c' fu') : nd = nd' ∧ cd = cd' ∧ cdC c = cdC c' ∧ fu = fu' := by
  unfold argsA at h
  injection h with h1 h; injection h with h2 h; injection h with h3 h; injection h with h4 h
  injection h1 with h1; injection h1 with h1
  injection h2 with h2; injection h2 with h2
  injection h3 with h3
  injection h4 with h4; injection h4 with h4; injection h4 with h4; injection h4 with _ h4
  exact ⟨h1, h2, h3, h4⟩
theorem argsB_inj {nd cd nd' cd' : D} {c c' : Cd} {fu fu' : Int} (h : argsB nd cd c fu = argsB nd' cd' c' fu') : nd = nd' ∧ cd = cd' ∧ cdC c = cdC c' ∧ fu = fu' := by
  unfold argsB at h
  injection h with h1 h; injection h with h2 h; injection h with h3 h; injection h with h4 h
  injection h1 with h1; injection h1 with h1
  injection h2 with h2; injection h2 with h2
  injection h3 with h3
  injection h4 with h4; injection h4 with h4; injection h4 with h4; injection h4 with _ h4
  exact ⟨h1, h2, h3, h4⟩
theorem argsAB {nd cd nd' cd' : D} {c c' : Cd} {fu fu' : Int} (h : argsA nd cd c fu = argsB nd' cd' c' fu') : False := by
  unfold argsA argsB at h
  injection h with h1 h; injection h with h2 h; injection h with h3 h; injection h with h4 h; injection h with h5 h
  injection h5 with h5; injection h5 with h5
  cases h5
theorem step13_cong {nd cd : D} {c c' : Cd} {fu : Int} (h : cdC c = cdC c') {clo : O → Option Out} {Sh : O → List O → Prop} {objs : List O} {out : Out} (hs : Step13 nd cd c fu clo Sh objs out) : Step13 nd cd c' fu clo Sh objs out := by
  unfold Step13 valid22 cdV at *
  rw [← h]; exact hs
theorem R13_det {args : List V} {objs : List O} {o1 o2 : Out} (h1 : R13 args objs o1) (h2 : R13 args objs o2) : o1 = o2 := by
  obtain ⟨nd, cd, c, fu, ⟨a1, a2, a3⟩ | ⟨a1, a2, a3⟩⟩ := h1 <;> obtain ⟨nd', cd', c', fu', ⟨b1, b2, b3⟩ | ⟨b1, b2, b3⟩⟩ := h2
  · obtain ⟨rfl, rfl, hc, rfl⟩ := argsA_inj (a1.symm.trans b1)
    have b4 := step13_cong hc.symm b3
    have e1 : clA c' = clA c := by unfold clA objsA; rw [hc]
    have e2 : objsA c' = objsA c := by unfold objsA; rw [hc]
    rw [e1, e2] at b4
    exact step13_det a3 b4
  · exact absurd (a1.symm.trans b1) argsAB
  · exact absurd (b1.symm.trans a1) argsAB
  · obtain ⟨rfl, rfl, hc, rfl⟩ := argsB_inj (a1.symm.trans b1)
    have b4 := step13_cong hc.symm b3
    have e1 : clB c' = clB c := by unfold clB objsB; rw [hc]
    have e2 : objsB c' = objsB c := by unfold objsB; rw [hc]
    rw [e1, e2] at b4
    exact step13_det a3 b4
open Classical in
noncomputable def g13 (args : List V) (objs : List O) : Option Out := if h : ∃ out, R13 args objs out then some h.choose else none
theorem g13_of {args : List V} {objs : List O} {out : Out} (h : R13 args objs out) : g13 args objs = some out := by
  unfold g13
  rw [dif_pos ⟨out, h⟩]
  exact congrArg some (R13_det (Exists.choose_spec (⟨out, h⟩ : ∃ out, R13 args objs out)) h)
theorem R13_of {args : List V} {objs : List O} {out : Out} (h : g13 args objs = some out) : R13 args objs out := by
  unfold g13 at h
  split at h
  · rename_i h'; cases h; exact h'.choose_spec
  · cases h
theorem R13_ok {args : List V} {objs : List O} {out : Out} (h : R13 args objs out) : CallOK Tryd.prog 13 args objs out := by
  obtain ⟨nd, cd, c, fu, ⟨rfl, rfl, a3⟩ | ⟨rfl, rfl, a3⟩⟩ := h
  · rcases a3 with ⟨a1, rfl⟩ | ⟨a1, ⟨m, os, a2, ⟨u, r, n, y, rfl, rfl⟩, rfl⟩ | ⟨e, m, os, a2, ⟨u, r, n, y, rfl, rfl⟩, rfl⟩⟩
    · exact no13A rec0 nd cd c fu a1
    · exact ok13A rec0 nd cd c fu _ _ _ u r y n a1 rfl rfl a2
    · exact pan13A rec0 nd cd c fu _ _ _ u r e y n a1 rfl rfl a2
  · rcases a3 with ⟨a1, rfl⟩ | ⟨a1, ⟨m, os, a2, ⟨u, r, n, rfl, rfl⟩, rfl⟩ | ⟨e, m, os, a2, ⟨u, r, n, rfl, rfl⟩, rfl⟩⟩
    · exact no13B rec0 nd cd c fu a1
    · exact ok13B rec0 nd cd c fu _ _ _ u r n a1 rfl rfl a2
    · exact pan13B rec0 nd cd c fu _ _ _ u r e n a1 rfl rfl a2
noncomputable def E1 : Ext := fun f => if f = 13 then some g13 else E0 f
theorem ex1 : Ex E1 := ⟨fun f h1 h2 h3 => by unfold E1; rw [if_neg h1]; exact ex0.no f h1 h2 h3, rfl, rfl⟩
theorem rec1 : RecOK Tryd.prog (run Tryd.prog E1) := by
  refine recOK_run named (fun f g args objs out h1 h2 => ?_) mixes
  unfold E1 at h1
  by_cases h : f = 13
  · subst h; rw [if_pos rfl] at h1; cases h1; exact .inl ⟨bodied13, R13_ok (R13_of h2)⟩
  · rw [if_neg h] at h1
    unfold E0 at h1
    by_cases h : f = 80
    · subst h; rw [if_pos rfl] at h1; cases h1; exact .inr (nat80_ok h2)
    · rw [if_neg h] at h1
      by_cases h' : f = 87
      · subst h'; rw [if_pos rfl] at h1; cases h1; exact .inr (nat87_ok h2)
      · rw [if_neg h'] at h1; cases h1
theorem call13 {args : List V} {objs : List O} {out : Out} (h : R13 args objs out) : run Tryd.prog E1 (.call 13 args objs) = some out := by
  rw [run_eq]
  have h1 : E1 13 = some g13 := rfl
  simp only [stepA, h1]
  exact g13_of h
end Go.Proofs.YtmjacokkgfophaaDoor.Am
end
section
/- Head and Numeral. -/
namespace Go.Proofs.YtmjacokkgfophaaDoor.Am
open Go
set_option maxHeartbeats 8000000
set_option maxRecDepth 10000
def zcd : Cd := .mk 0 0 ⟨#[]⟩ [] true
theorem cdC_zcd : cdC zcd = zrow.map .d := rfl
theorem err6 (nd cd : D) (c y : Cd) (fu e n : Int) (he : ¬ e = 0) (h : run Tryd.prog E1 (.call 13 (argsA nd cd c fu) (objsA c)) = some (.ret [iV e] [.box (cdC c), .box (cdC y), iB n])) :
    run Tryd.prog E1 (.call 6 [.c (.d nd), .c (.d cd), cdV c, iV fu] []) = some (.ret [cdV zcd, iV 0, iV e] []) := by
  have hx : E1 6 = none := rfl
  have ecall := callA_of (rec := run Tryd.prog E1) (look := lk (objsA c)) (slot := 3) (f := 13) (args := [.c (.d nd), .c (.d cd), cdV c, iV fu, .c (.fn 14 [] [0, 1, 2])]) (ids := [0, 1, 2]) (bor := []) (e := ⟨.val (iV e), [(0, .box (cdC c)), (1, .box (cdC y)), (2, iB n)], [0, 1, 2]⟩) (by kernel_rfl) h (by kernel_rfl)
  simp only [cdV, cdC, iV, iB, objsA, zrow, List.map_cons, List.map_nil] at ecall ⊢
  (rw [run_eq]; simp only [stepA, hx, Tryd.func6, Tryd.f6]; simp only [List.length_cons, List.length_nil, Nat.reduceAdd, Nat.reduceLeDiff, Nat.zero_le, ↓reduceIte, List.zipIdx_cons, List.zipIdx_nil, List.map_cons, List.map_nil])
  simp only [zS, wantedA, opA, eff, boxA, cells, ev, gt, pt, putO, updO, setO, okC, loadA, cutC, fieldAddrA, fieldA, indexAddrA, indexA, builtinA, callOpA, callV, target, ptrV, lenS, binA, intOp, strOp, unA, num, lk, over, allocA, pickA, buildA, fillA, convertA, extractA, ofComp, nilCheckA, makeFuncA, ptrs, ofValue, cellB, Nat.reduceAdd, Nat.reduceSub, Nat.reduceMul, Nat.reduceLT, Nat.reduceLeDiff, Nat.reduceGT, ↓reduceIte, Nat.reduceEqDiff, Nat.reduceBEq, reduceCtorEq, Int.reduceBEq, Int.reduceBNe, Int.reduceLT, Int.reduceLE, Int.reduceGT, Int.reduceGE, aggT_25, sizeT_25, bytesT_25, fieldT_25_0, fieldT_25_1, fieldT_25_2, fieldT_25_3, placesT_25, zeroT_25, aggT_23, sizeT_23, bytesT_23, und_23, elemT_23, zero1_23, zeroT_23, aggT_29, sizeT_29, bytesT_29, und_29, zero1_29, zeroT_29, aggT_3, sizeT_3, bytesT_3, und_3, zero1_3, zeroT_3, aggT_4, sizeT_4, bytesT_4, und_4, zero1_4, zeroT_4, ecall, he]
  (refine Eq.trans ?_ rfl; kernel_rfl)
theorem ok6 (nd cd : D) (c y : Cd) (fu n : Int) (h : run Tryd.prog E1 (.call 13 (argsA nd cd c fu) (objsA c)) = some (.ret [iV 0] [.box (cdC c), .box (cdC y), iB n])) :
    run Tryd.prog E1 (.call 6 [.c (.d nd), .c (.d cd), cdV c, iV fu] []) = some (.ret [cdV y, iV n, iV 0] []) := by
  have hx : E1 6 = none := rfl
  have ecall := callA_of (rec := run Tryd.prog E1) (look := lk (objsA c)) (slot := 3) (f := 13) (args := [.c (.d nd), .c (.d cd), cdV c, iV fu, .c (.fn 14 [] [0, 1, 2])]) (ids := [0, 1, 2]) (bor := []) (e := ⟨.val (iV 0), [(0, .box (cdC c)), (1, .box (cdC y)), (2, iB n)], [0, 1, 2]⟩) (by kernel_rfl) h (by kernel_rfl)
  simp only [cdV, cdC, iV, iB, objsA, zrow, List.map_cons, List.map_nil] at ecall ⊢
  (rw [run_eq]; simp only [stepA, hx, Tryd.func6, Tryd.f6]; simp only [List.length_cons, List.length_nil, Nat.reduceAdd, Nat.reduceLeDiff, Nat.zero_le, ↓reduceIte, List.zipIdx_cons, List.zipIdx_nil, List.map_cons, List.map_nil])
  simp only [zS, wantedA, opA, eff, boxA, cells, ev, gt, pt, putO, updO, setO, okC, loadA, cutC, fieldAddrA, fieldA, indexAddrA, indexA, builtinA, callOpA, callV, target, ptrV, lenS, binA, intOp, strOp, unA, num, lk, over, allocA, pickA, buildA, fillA, convertA, extractA, ofComp, nilCheckA, makeFuncA, ptrs, ofValue, cellB, Nat.reduceAdd, Nat.reduceSub, Nat.reduceMul, Nat.reduceLT, Nat.reduceLeDiff, Nat.reduceGT, ↓reduceIte, Nat.reduceEqDiff, Nat.reduceBEq, reduceCtorEq, Int.reduceBEq, Int.reduceBNe, Int.reduceLT, Int.reduceLE, Int.reduceGT, Int.reduceGE, aggT_25, sizeT_25, bytesT_25, fieldT_25_0, fieldT_25_1, fieldT_25_2, fieldT_25_3, placesT_25, zeroT_25, aggT_23, sizeT_23, bytesT_23, und_23, elemT_23, zero1_23, zeroT_23, aggT_29, sizeT_29, bytesT_29, und_29, zero1_29, zeroT_29, aggT_3, sizeT_3, bytesT_3, und_3, zero1_3, zeroT_3, aggT_4, sizeT_4, bytesT_4, und_4, zero1_4, zeroT_4, ecall, drawA, holes_succ, holes_zero, Array.size, List.length]
  rw [afterDraw_some _ _ _ _ (by kernel_rfl)]
  simp only [zS, wantedA, opA, eff, boxA, cells, ev, gt, pt, putO, updO, setO, okC, loadA, cutC, fieldAddrA, fieldA, indexAddrA, indexA, builtinA, callOpA, callV, target, ptrV, lenS, binA, intOp, strOp, unA, num, lk, over, allocA, pickA, buildA, fillA, convertA, extractA, ofComp, nilCheckA, makeFuncA, ptrs, ofValue, cellB, Nat.reduceAdd, Nat.reduceSub, Nat.reduceMul, Nat.reduceLT, Nat.reduceLeDiff, Nat.reduceGT, ↓reduceIte, Nat.reduceEqDiff, Nat.reduceBEq, reduceCtorEq, Int.reduceBEq, Int.reduceBNe, Int.reduceLT, Int.reduceLE, Int.reduceGT, Int.reduceGE, aggT_25, sizeT_25, bytesT_25, fieldT_25_0, fieldT_25_1, fieldT_25_2, fieldT_25_3, placesT_25, zeroT_25, aggT_3, sizeT_3, bytesT_3, und_3, zero1_3, zeroT_3, aggT_4, sizeT_4, bytesT_4, und_4, zero1_4, zeroT_4]
  (refine Eq.trans ?_ rfl; kernel_rfl)
theorem err9 (nd cd : D) (c : Cd) (fu e n : Int) (he : ¬ e = 0) (h : run Tryd.prog E1 (.call 13 (argsB nd cd c fu) (objsB c)) = some (.ret [iV e] [.box (cdC c), iB n])) :
    run Tryd.prog E1 (.call 9 [.c (.d nd), .c (.d cd), cdV c, iV fu] []) = some (.ret [iV 0, iV e] []) := by
  have hx : E1 9 = none := rfl
  have ecall := callA_of (rec := run Tryd.prog E1) (look := lk (objsB c)) (slot := 2) (f := 13) (args := [.c (.d nd), .c (.d cd), cdV c, iV fu, .c (.fn 20 [] [0, 1])]) (ids := [0, 1]) (bor := []) (e := ⟨.val (iV e), [(0, .box (cdC c)), (1, iB n)], [0, 1]⟩) (by kernel_rfl) h (by kernel_rfl)
  simp only [cdV, cdC, iV, iB, objsB, zrow, List.map_cons, List.map_nil] at ecall ⊢
  (rw [run_eq]; simp only [stepA, hx, Tryd.func9, Tryd.f9]; simp only [List.length_cons, List.length_nil, Nat.reduceAdd, Nat.reduceLeDiff, Nat.zero_le, ↓reduceIte, List.zipIdx_cons, List.zipIdx_nil, List.map_cons, List.map_nil])
  simp only [zS, wantedA, opA, eff, boxA, cells, ev, gt, pt, putO, updO, setO, okC, loadA, cutC, fieldAddrA, fieldA, indexAddrA, indexA, builtinA, callOpA, callV, target, ptrV, lenS, binA, intOp, strOp, unA, num, lk, over, allocA, pickA, buildA, fillA, convertA, extractA, ofComp, nilCheckA, makeFuncA, ptrs, ofValue, cellB, Nat.reduceAdd, Nat.reduceSub, Nat.reduceMul, Nat.reduceLT, Nat.reduceLeDiff, Nat.reduceGT, ↓reduceIte, Nat.reduceEqDiff, Nat.reduceBEq, reduceCtorEq, Int.reduceBEq, Int.reduceBNe, Int.reduceLT, Int.reduceLE, Int.reduceGT, Int.reduceGE, aggT_25, sizeT_25, bytesT_25, fieldT_25_0, fieldT_25_1, fieldT_25_2, fieldT_25_3, placesT_25, zeroT_25, aggT_23, sizeT_23, bytesT_23, und_23, elemT_23, zero1_23, zeroT_23, aggT_29, sizeT_29, bytesT_29, und_29, zero1_29, zeroT_29, aggT_3, sizeT_3, bytesT_3, und_3, zero1_3, zeroT_3, aggT_4, sizeT_4, bytesT_4, und_4, zero1_4, zeroT_4, ecall, he]
  (refine Eq.trans ?_ rfl; kernel_rfl)
theorem ok9 (nd cd : D) (c : Cd) (fu n : Int) (h : run Tryd.prog E1 (.call 13 (argsB nd cd c fu) (objsB c)) = some (.ret [iV 0] [.box (cdC c), iB n])) :
    run Tryd.prog E1 (.call 9 [.c (.d nd), .c (.d cd), cdV c, iV fu] []) = some (.ret [iV n, iV 0] []) := by
  have hx : E1 9 = none := rfl
  have ecall := callA_of (rec := run Tryd.prog E1) (look := lk (objsB c)) (slot := 2) (f := 13) (args := [.c (.d nd), .c (.d cd), cdV c, iV fu, .c (.fn 20 [] [0, 1])]) (ids := [0, 1]) (bor := []) (e := ⟨.val (iV 0), [(0, .box (cdC c)), (1, iB n)], [0, 1]⟩) (by kernel_rfl) h (by kernel_rfl)
  simp only [cdV, cdC, iV, iB, objsB, zrow, List.map_cons, List.map_nil] at ecall ⊢
  (rw [run_eq]; simp only [stepA, hx, Tryd.func9, Tryd.f9]; simp only [List.length_cons, List.length_nil, Nat.reduceAdd, Nat.reduceLeDiff, Nat.zero_le, ↓reduceIte, List.zipIdx_cons, List.zipIdx_nil, List.map_cons, List.map_nil])
  simp only [zS, wantedA, opA, eff, boxA, cells, ev, gt, pt, putO, updO, setO, okC, loadA, cutC, fieldAddrA, fieldA, indexAddrA, indexA, builtinA, callOpA, callV, target, ptrV, lenS, binA, intOp, strOp, unA, num, lk, over, allocA, pickA, buildA, fillA, convertA, extractA, ofComp, nilCheckA, makeFuncA, ptrs, ofValue, cellB, Nat.reduceAdd, Nat.reduceSub, Nat.reduceMul, Nat.reduceLT, Nat.reduceLeDiff, Nat.reduceGT, ↓reduceIte, Nat.reduceEqDiff, Nat.reduceBEq, reduceCtorEq, Int.reduceBEq, Int.reduceBNe, Int.reduceLT, Int.reduceLE, Int.reduceGT, Int.reduceGE, aggT_25, sizeT_25, bytesT_25, fieldT_25_0, fieldT_25_1, fieldT_25_2, fieldT_25_3, placesT_25, zeroT_25, aggT_23, sizeT_23, bytesT_23, und_23, elemT_23, zero1_23, zeroT_23, aggT_29, sizeT_29, bytesT_29, und_29, zero1_29, zeroT_29, aggT_3, sizeT_3, bytesT_3, und_3, zero1_3, zeroT_3, aggT_4, sizeT_4, bytesT_4, und_4, zero1_4, zeroT_4, ecall]
  (refine Eq.trans ?_ rfl; kernel_rfl)
end Go.Proofs.YtmjacokkgfophaaDoor.Am
end
