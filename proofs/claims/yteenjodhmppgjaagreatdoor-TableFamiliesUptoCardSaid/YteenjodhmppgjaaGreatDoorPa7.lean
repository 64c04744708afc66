/- Part 7 of the proof of the card of TableFamilies, second form: no statement of its own; no conditions. -/
import Derived.Test.YteenjodhmppgjaaGreatDoorPa6
set_option linter.unusedSimpArgs false
set_option linter.unusedVariables false
set_option linter.defProp false
set_option linter.unusedSectionVars false
section
/- TableFamilies: the walk. -/
namespace Go.Proofs.YteenjodhmppgjaaGreatDoor.Am
open Go
variable (ext : Ext)
set_option maxHeartbeats 8000000
set_option maxRecDepth 4000
theorem heavy9 (hx : ext 9 = none) (x : Tb) (q : Ask) (b1 b2 : Bool) (r13 : run Tryz.prog ext (.call 13 [tbV x] []) = some (.ret [bV b1] [])) (r38 : run Tryz.prog ext (.call 38 [askV q] []) = some (.ret [bV b2] []))
    (r14 : run Tryz.prog ext (.call 14 [] []) = some (.ret [bV true] [])) (h : b1 = true ∨ b2 = true) : run Tryz.prog ext (.call 9 [tbV x, askV q] []) = some (.ret [bV true] []) := by
  cases b1 with
  | true =>
    (rw [run_eq]; simp only [stepA, hx, Tryz.func9, Tryz.f9, show retF 9 = false from rfl]; simp only [List.length_cons, List.length_nil, Nat.reduceAdd, Nat.reduceLeDiff, Nat.zero_le, ↓reduceIte, List.zipIdx_cons, List.zipIdx_nil, List.map_cons, List.map_nil])
    simp only [tbV, tbC, askV, askC, bV] at r13 r38 r14 ⊢
    simp only [zS, nilEq, wantedA, opA, eff, boxA, cells, ev, gt, pt, putO, updO, setO, okC, loadA, cutC, fieldAddrA, fieldA, indexAddrA, indexA, builtinA, callOpA, callV, target, ptrV, lenS, binA, intOp, strOp, unA, num, lk, over, allocA, pickA, buildA, fillA, convertA, extractA, ofComp, nilCheckA, makeFuncA, ptrs, ofValue, cellB, Nat.reduceAdd, Nat.reduceSub, Nat.reduceMul, Nat.reduceLT, Nat.reduceLeDiff, Nat.reduceGT, ↓reduceIte, Nat.reduceEqDiff, Nat.reduceBEq, reduceCtorEq, Int.reduceBEq, Int.reduceBNe, Int.reduceLT, Int.reduceLE, Int.reduceGT, Int.reduceGE, aggT_67, sizeT_67, bytesT_67, fieldT_67_0, fieldT_67_1, fieldT_67_2, fieldT_67_3, fieldT_67_4, placesT_67, zeroT_67, aggT_24, sizeT_24, bytesT_24, fieldT_24_0, placesT_24, zeroT_24, aggT_9, sizeT_9, bytesT_9, und_9, zero1_9, zeroT_9, aggT_30, sizeT_30, bytesT_30, und_30, elemT_30, isSliceT_30, zero1_30, zeroT_30, aggT_3, sizeT_3, bytesT_3, und_3, zero1_3, zeroT_3, r13, r14]
    (refine Eq.trans ?_ rfl; kernel_rfl)
  | false =>
    have h2 : b2 = true := by rcases h with h | h; (· cases h); (· exact h)
    rw [h2] at r38
    (rw [run_eq]; simp only [stepA, hx, Tryz.func9, Tryz.f9, show retF 9 = false from rfl]; simp only [List.length_cons, List.length_nil, Nat.reduceAdd, Nat.reduceLeDiff, Nat.zero_le, ↓reduceIte, List.zipIdx_cons, List.zipIdx_nil, List.map_cons, List.map_nil])
    simp only [tbV, tbC, askV, askC, bV] at r13 r38 r14 ⊢
    simp only [zS, nilEq, wantedA, opA, eff, boxA, cells, ev, gt, pt, putO, updO, setO, okC, loadA, cutC, fieldAddrA, fieldA, indexAddrA, indexA, builtinA, callOpA, callV, target, ptrV, lenS, binA, intOp, strOp, unA, num, lk, over, allocA, pickA, buildA, fillA, convertA, extractA, ofComp, nilCheckA, makeFuncA, ptrs, ofValue, cellB, Nat.reduceAdd, Nat.reduceSub, Nat.reduceMul, Nat.reduceLT, Nat.reduceLeDiff, Nat.reduceGT, ↓reduceIte, Nat.reduceEqDiff, Nat.reduceBEq, reduceCtorEq, Int.reduceBEq, Int.reduceBNe, Int.reduceLT, Int.reduceLE, Int.reduceGT, Int.reduceGE, aggT_67, sizeT_67, bytesT_67, fieldT_67_0, fieldT_67_1, fieldT_67_2, fieldT_67_3, fieldT_67_4, placesT_67, zeroT_67, aggT_24, sizeT_24, bytesT_24, fieldT_24_0, placesT_24, zeroT_24, aggT_9, sizeT_9, bytesT_9, und_9, zero1_9, zeroT_9, aggT_30, sizeT_30, bytesT_30, und_30, elemT_30, isSliceT_30, zero1_30, zeroT_30, aggT_3, sizeT_3, bytesT_3, und_3, zero1_3, zeroT_3, r13, r38, r14]
    (refine Eq.trans ?_ rfl; kernel_rfl)
theorem light9 (hx : ext 9 = none) (x : Tb) (q : Ask) (p p' a a' : Tm) (l l' m m' : Lev) (e1 e2 e3 e4 : Int) (r13 : run Tryz.prog ext (.call 13 [tbV x] []) = some (.ret [bV false] [])) (r38 : run Tryz.prog ext (.call 38 [askV q] []) = some (.ret [bV false] []))
    (r14 : run Tryz.prog ext (.call 14 [] []) = some (.ret [bV true] []))
    (r39 : run Tryz.prog ext (.call 39 [tbV x, sV q.s, dV q.d] []) = some (.ret [tmV p, iV e1] [])) (r40 : run Tryz.prog ext (.call 40 [tbV x, sV q.s, dV q.d] []) = some (.ret [tmV p', iV e1] [])) (k1 : run Tryz.prog ext (.call 36 [tmV p, tmV p'] []) = some (.ret [bV true] []))
    (r41 : run Tryz.prog ext (.call 41 [tbV x, sV q.s, dV q.d] []) = some (.ret [levV l, iV e2] [])) (r42 : run Tryz.prog ext (.call 42 [tbV x, sV q.s, dV q.d] []) = some (.ret [levV l', iV e2] [])) (k2 : run Tryz.prog ext (.call 43 [levV l, levV l'] []) = some (.ret [bV true] []))
    (r44 : run Tryz.prog ext (.call 44 [tbV x, sV q.s, dV q.d] []) = some (.ret [levV m, iV e3] [])) (r45 : run Tryz.prog ext (.call 45 [tbV x, sV q.s, dV q.d] []) = some (.ret [levV m', iV e3] [])) (k3 : run Tryz.prog ext (.call 43 [levV m, levV m'] []) = some (.ret [bV true] []))
    (r46 : run Tryz.prog ext (.call 46 [tbV x, sV q.s, dV q.d, iV q.n, tmV q.a] []) = some (.ret [tmV a, iV e4] [])) (r47 : run Tryz.prog ext (.call 47 [tbV x, sV q.s, dV q.d, iV q.n, tmV q.a] []) = some (.ret [tmV a', iV e4] [])) (k4 : run Tryz.prog ext (.call 36 [tmV a, tmV a'] []) = some (.ret [bV true] [])) :
    run Tryz.prog ext (.call 9 [tbV x, askV q] []) = some (.ret [bV true] []) := by
  (rw [run_eq]; simp only [stepA, hx, Tryz.func9, Tryz.f9, show retF 9 = false from rfl]; simp only [List.length_cons, List.length_nil, Nat.reduceAdd, Nat.reduceLeDiff, Nat.zero_le, ↓reduceIte, List.zipIdx_cons, List.zipIdx_nil, List.map_cons, List.map_nil])
  simp only [tbV, tbC, askV, askC, sV, iV, bV, dV, tmV, tmC, levV, levC] at r13 r38 r14 r39 r40 k1 r41 r42 k2 r44 r45 k3 r46 r47 k4 ⊢
  simp only [zS, nilEq, wantedA, opA, eff, boxA, cells, ev, gt, pt, putO, updO, setO, okC, loadA, cutC, fieldAddrA, fieldA, indexAddrA, indexA, builtinA, callOpA, callV, target, ptrV, lenS, binA, intOp, strOp, unA, num, lk, over, allocA, pickA, buildA, fillA, convertA, extractA, ofComp, nilCheckA, makeFuncA, ptrs, ofValue, cellB, Nat.reduceAdd, Nat.reduceSub, Nat.reduceMul, Nat.reduceLT, Nat.reduceLeDiff, Nat.reduceGT, ↓reduceIte, Nat.reduceEqDiff, Nat.reduceBEq, reduceCtorEq, Int.reduceBEq, Int.reduceBNe, Int.reduceLT, Int.reduceLE, Int.reduceGT, Int.reduceGE, aggT_67, sizeT_67, bytesT_67, fieldT_67_0, fieldT_67_1, fieldT_67_2, fieldT_67_3, fieldT_67_4, placesT_67, zeroT_67, aggT_24, sizeT_24, bytesT_24, fieldT_24_0, placesT_24, zeroT_24, aggT_9, sizeT_9, bytesT_9, und_9, zero1_9, zeroT_9, aggT_30, sizeT_30, bytesT_30, und_30, elemT_30, isSliceT_30, zero1_30, zeroT_30, aggT_33, sizeT_33, bytesT_33, fieldT_33_0, fieldT_33_1, fieldT_33_2, fieldT_33_3, fieldT_33_4, placesT_33, zeroT_33, aggT_36, sizeT_36, bytesT_36, fieldT_36_0, fieldT_36_1, placesT_36, zeroT_36, aggT_27, sizeT_27, bytesT_27, und_27, zero1_27, zeroT_27, aggT_4, sizeT_4, bytesT_4, und_4, zero1_4, zeroT_4, aggT_3, sizeT_3, bytesT_3, und_3, zero1_3, zeroT_3, r13]
  simp only [zS, nilEq, wantedA, opA, eff, boxA, cells, ev, gt, pt, putO, updO, setO, okC, loadA, cutC, fieldAddrA, fieldA, indexAddrA, indexA, builtinA, callOpA, callV, target, ptrV, lenS, binA, intOp, strOp, unA, num, lk, over, allocA, pickA, buildA, fillA, convertA, extractA, ofComp, nilCheckA, makeFuncA, ptrs, ofValue, cellB, Nat.reduceAdd, Nat.reduceSub, Nat.reduceMul, Nat.reduceLT, Nat.reduceLeDiff, Nat.reduceGT, ↓reduceIte, Nat.reduceEqDiff, Nat.reduceBEq, reduceCtorEq, Int.reduceBEq, Int.reduceBNe, Int.reduceLT, Int.reduceLE, Int.reduceGT, Int.reduceGE, aggT_67, sizeT_67, bytesT_67, fieldT_67_0, fieldT_67_1, fieldT_67_2, fieldT_67_3, fieldT_67_4, placesT_67, zeroT_67, aggT_24, sizeT_24, bytesT_24, fieldT_24_0, placesT_24, zeroT_24, aggT_9, sizeT_9, bytesT_9, und_9, zero1_9, zeroT_9, aggT_30, sizeT_30, bytesT_30, und_30, elemT_30, isSliceT_30, zero1_30, zeroT_30, aggT_33, sizeT_33, bytesT_33, fieldT_33_0, fieldT_33_1, fieldT_33_2, fieldT_33_3, fieldT_33_4, placesT_33, zeroT_33, aggT_36, sizeT_36, bytesT_36, fieldT_36_0, fieldT_36_1, placesT_36, zeroT_36, aggT_27, sizeT_27, bytesT_27, und_27, zero1_27, zeroT_27, aggT_4, sizeT_4, bytesT_4, und_4, zero1_4, zeroT_4, aggT_3, sizeT_3, bytesT_3, und_3, zero1_3, zeroT_3, r38]
  simp only [zS, nilEq, wantedA, opA, eff, boxA, cells, ev, gt, pt, putO, updO, setO, okC, loadA, cutC, fieldAddrA, fieldA, indexAddrA, indexA, builtinA, callOpA, callV, target, ptrV, lenS, binA, intOp, strOp, unA, num, lk, over, allocA, pickA, buildA, fillA, convertA, extractA, ofComp, nilCheckA, makeFuncA, ptrs, ofValue, cellB, Nat.reduceAdd, Nat.reduceSub, Nat.reduceMul, Nat.reduceLT, Nat.reduceLeDiff, Nat.reduceGT, ↓reduceIte, Nat.reduceEqDiff, Nat.reduceBEq, reduceCtorEq, Int.reduceBEq, Int.reduceBNe, Int.reduceLT, Int.reduceLE, Int.reduceGT, Int.reduceGE, aggT_67, sizeT_67, bytesT_67, fieldT_67_0, fieldT_67_1, fieldT_67_2, fieldT_67_3, fieldT_67_4, placesT_67, zeroT_67, aggT_24, sizeT_24, bytesT_24, fieldT_24_0, placesT_24, zeroT_24, aggT_9, sizeT_9, bytesT_9, und_9, zero1_9, zeroT_9, aggT_30, sizeT_30, bytesT_30, und_30, elemT_30, isSliceT_30, zero1_30, zeroT_30, aggT_33, sizeT_33, bytesT_33, fieldT_33_0, fieldT_33_1, fieldT_33_2, fieldT_33_3, fieldT_33_4, placesT_33, zeroT_33, aggT_36, sizeT_36, bytesT_36, fieldT_36_0, fieldT_36_1, placesT_36, zeroT_36, aggT_27, sizeT_27, bytesT_27, und_27, zero1_27, zeroT_27, aggT_4, sizeT_4, bytesT_4, und_4, zero1_4, zeroT_4, aggT_3, sizeT_3, bytesT_3, und_3, zero1_3, zeroT_3, r39, callOut_vi]
  simp only [zS, nilEq, wantedA, opA, eff, boxA, cells, ev, gt, pt, putO, updO, setO, okC, loadA, cutC, fieldAddrA, fieldA, indexAddrA, indexA, builtinA, callOpA, callV, target, ptrV, lenS, binA, intOp, strOp, unA, num, lk, over, allocA, pickA, buildA, fillA, convertA, extractA, ofComp, nilCheckA, makeFuncA, ptrs, ofValue, cellB, Nat.reduceAdd, Nat.reduceSub, Nat.reduceMul, Nat.reduceLT, Nat.reduceLeDiff, Nat.reduceGT, ↓reduceIte, Nat.reduceEqDiff, Nat.reduceBEq, reduceCtorEq, Int.reduceBEq, Int.reduceBNe, Int.reduceLT, Int.reduceLE, Int.reduceGT, Int.reduceGE, aggT_67, sizeT_67, bytesT_67, fieldT_67_0, fieldT_67_1, fieldT_67_2, fieldT_67_3, fieldT_67_4, placesT_67, zeroT_67, aggT_24, sizeT_24, bytesT_24, fieldT_24_0, placesT_24, zeroT_24, aggT_9, sizeT_9, bytesT_9, und_9, zero1_9, zeroT_9, aggT_30, sizeT_30, bytesT_30, und_30, elemT_30, isSliceT_30, zero1_30, zeroT_30, aggT_33, sizeT_33, bytesT_33, fieldT_33_0, fieldT_33_1, fieldT_33_2, fieldT_33_3, fieldT_33_4, placesT_33, zeroT_33, aggT_36, sizeT_36, bytesT_36, fieldT_36_0, fieldT_36_1, placesT_36, zeroT_36, aggT_27, sizeT_27, bytesT_27, und_27, zero1_27, zeroT_27, aggT_4, sizeT_4, bytesT_4, und_4, zero1_4, zeroT_4, aggT_3, sizeT_3, bytesT_3, und_3, zero1_3, zeroT_3, r40, callOut_vi]
  simp only [zS, nilEq, wantedA, opA, eff, boxA, cells, ev, gt, pt, putO, updO, setO, okC, loadA, cutC, fieldAddrA, fieldA, indexAddrA, indexA, builtinA, callOpA, callV, target, ptrV, lenS, binA, intOp, strOp, unA, num, lk, over, allocA, pickA, buildA, fillA, convertA, extractA, ofComp, nilCheckA, makeFuncA, ptrs, ofValue, cellB, Nat.reduceAdd, Nat.reduceSub, Nat.reduceMul, Nat.reduceLT, Nat.reduceLeDiff, Nat.reduceGT, ↓reduceIte, Nat.reduceEqDiff, Nat.reduceBEq, reduceCtorEq, Int.reduceBEq, Int.reduceBNe, Int.reduceLT, Int.reduceLE, Int.reduceGT, Int.reduceGE, aggT_67, sizeT_67, bytesT_67, fieldT_67_0, fieldT_67_1, fieldT_67_2, fieldT_67_3, fieldT_67_4, placesT_67, zeroT_67, aggT_24, sizeT_24, bytesT_24, fieldT_24_0, placesT_24, zeroT_24, aggT_9, sizeT_9, bytesT_9, und_9, zero1_9, zeroT_9, aggT_30, sizeT_30, bytesT_30, und_30, elemT_30, isSliceT_30, zero1_30, zeroT_30, aggT_33, sizeT_33, bytesT_33, fieldT_33_0, fieldT_33_1, fieldT_33_2, fieldT_33_3, fieldT_33_4, placesT_33, zeroT_33, aggT_36, sizeT_36, bytesT_36, fieldT_36_0, fieldT_36_1, placesT_36, zeroT_36, aggT_27, sizeT_27, bytesT_27, und_27, zero1_27, zeroT_27, aggT_4, sizeT_4, bytesT_4, und_4, zero1_4, zeroT_4, aggT_3, sizeT_3, bytesT_3, und_3, zero1_3, zeroT_3, k1]
  simp only [zS, nilEq, wantedA, opA, eff, boxA, cells, ev, gt, pt, putO, updO, setO, okC, loadA, cutC, fieldAddrA, fieldA, indexAddrA, indexA, builtinA, callOpA, callV, target, ptrV, lenS, binA, intOp, strOp, unA, num, lk, over, allocA, pickA, buildA, fillA, convertA, extractA, ofComp, nilCheckA, makeFuncA, ptrs, ofValue, cellB, Nat.reduceAdd, Nat.reduceSub, Nat.reduceMul, Nat.reduceLT, Nat.reduceLeDiff, Nat.reduceGT, ↓reduceIte, Nat.reduceEqDiff, Nat.reduceBEq, reduceCtorEq, Int.reduceBEq, Int.reduceBNe, Int.reduceLT, Int.reduceLE, Int.reduceGT, Int.reduceGE, aggT_67, sizeT_67, bytesT_67, fieldT_67_0, fieldT_67_1, fieldT_67_2, fieldT_67_3, fieldT_67_4, placesT_67, zeroT_67, aggT_24, sizeT_24, bytesT_24, fieldT_24_0, placesT_24, zeroT_24, aggT_9, sizeT_9, bytesT_9, und_9, zero1_9, zeroT_9, aggT_30, sizeT_30, bytesT_30, und_30, elemT_30, isSliceT_30, zero1_30, zeroT_30, aggT_33, sizeT_33, bytesT_33, fieldT_33_0, fieldT_33_1, fieldT_33_2, fieldT_33_3, fieldT_33_4, placesT_33, zeroT_33, aggT_36, sizeT_36, bytesT_36, fieldT_36_0, fieldT_36_1, placesT_36, zeroT_36, aggT_27, sizeT_27, bytesT_27, und_27, zero1_27, zeroT_27, aggT_4, sizeT_4, bytesT_4, und_4, zero1_4, zeroT_4, aggT_3, sizeT_3, bytesT_3, und_3, zero1_3, zeroT_3, r41, callOut_vi]
  simp only [zS, nilEq, wantedA, opA, eff, boxA, cells, ev, gt, pt, putO, updO, setO, okC, loadA, cutC, fieldAddrA, fieldA, indexAddrA, indexA, builtinA, callOpA, callV, target, ptrV, lenS, binA, intOp, strOp, unA, num, lk, over, allocA, pickA, buildA, fillA, convertA, extractA, ofComp, nilCheckA, makeFuncA, ptrs, ofValue, cellB, Nat.reduceAdd, Nat.reduceSub, Nat.reduceMul, Nat.reduceLT, Nat.reduceLeDiff, Nat.reduceGT, ↓reduceIte, Nat.reduceEqDiff, Nat.reduceBEq, reduceCtorEq, Int.reduceBEq, Int.reduceBNe, Int.reduceLT, Int.reduceLE, Int.reduceGT, Int.reduceGE, aggT_67, sizeT_67, bytesT_67, fieldT_67_0, fieldT_67_1, fieldT_67_2, fieldT_67_3, fieldT_67_4, placesT_67, zeroT_67, aggT_24, sizeT_24, bytesT_24, fieldT_24_0, placesT_24, zeroT_24, aggT_9, sizeT_9, bytesT_9, und_9, zero1_9, zeroT_9, aggT_30, sizeT_30, bytesT_30, und_30, elemT_30, isSliceT_30, zero1_30, zeroT_30, aggT_33, sizeT_33, bytesT_33, fieldT_33_0, fieldT_33_1, fieldT_33_2, fieldT_33_3, fieldT_33_4, placesT_33, zeroT_33, aggT_36, sizeT_36, bytesT_36, fieldT_36_0, fieldT_36_1, placesT_36, zeroT_36, aggT_27, sizeT_27, bytesT_27, und_27, zero1_27, zeroT_27, aggT_4, sizeT_4, bytesT_4, und_4, zero1_4, zeroT_4, aggT_3, sizeT_3, bytesT_3, und_3, zero1_3, zeroT_3, r42, callOut_vi]
  simp only [zS, nilEq, wantedA, opA, eff, boxA, cells, ev, gt, pt, putO, updO, setO, okC, loadA, cutC, fieldAddrA, fieldA, indexAddrA, indexA, builtinA, callOpA, callV, target, ptrV, lenS, binA, intOp, strOp, unA, num, lk, over, allocA, pickA, buildA, fillA, convertA, extractA, ofComp, nilCheckA, makeFuncA, ptrs, ofValue, cellB, Nat.reduceAdd, Nat.reduceSub, Nat.reduceMul, Nat.reduceLT, Nat.reduceLeDiff, Nat.reduceGT, ↓reduceIte, Nat.reduceEqDiff, Nat.reduceBEq, reduceCtorEq, Int.reduceBEq, Int.reduceBNe, Int.reduceLT, Int.reduceLE, Int.reduceGT, Int.reduceGE, aggT_67, sizeT_67, bytesT_67, fieldT_67_0, fieldT_67_1, fieldT_67_2, fieldT_67_3, fieldT_67_4, placesT_67, zeroT_67, aggT_24, sizeT_24, bytesT_24, fieldT_24_0, placesT_24, zeroT_24, aggT_9, sizeT_9, bytesT_9, und_9, zero1_9, zeroT_9, aggT_30, sizeT_30, bytesT_30, und_30, elemT_30, isSliceT_30, zero1_30, zeroT_30, aggT_33, sizeT_33, bytesT_33, fieldT_33_0, fieldT_33_1, fieldT_33_2, fieldT_33_3, fieldT_33_4, placesT_33, zeroT_33, aggT_36, sizeT_36, bytesT_36, fieldT_36_0, fieldT_36_1, placesT_36, zeroT_36, aggT_27, sizeT_27, bytesT_27, und_27, zero1_27, zeroT_27, aggT_4, sizeT_4, bytesT_4, und_4, zero1_4, zeroT_4, aggT_3, sizeT_3, bytesT_3, und_3, zero1_3, zeroT_3, k2]
  simp only [zS, nilEq, wantedA, opA, eff, boxA, cells, ev, gt, pt, putO, updO, setO, okC, loadA, cutC, fieldAddrA, fieldA, indexAddrA, indexA, builtinA, callOpA, callV, target, ptrV, lenS, binA, intOp, strOp, unA, num, lk, over, allocA, pickA, buildA, fillA, convertA, extractA, ofComp, nilCheckA, makeFuncA, ptrs, ofValue, cellB, Nat.reduceAdd, Nat.reduceSub, Nat.reduceMul, Nat.reduceLT, Nat.reduceLeDiff, Nat.reduceGT, ↓reduceIte, Nat.reduceEqDiff, Nat.reduceBEq, reduceCtorEq, Int.reduceBEq, Int.reduceBNe, Int.reduceLT, Int.reduceLE, Int.reduceGT, Int.reduceGE, aggT_67, sizeT_67, bytesT_67, fieldT_67_0, fieldT_67_1, fieldT_67_2, fieldT_67_3, fieldT_67_4, placesT_67, zeroT_67, aggT_24, sizeT_24, bytesT_24, fieldT_24_0, placesT_24, zeroT_24, aggT_9, sizeT_9, bytesT_9, und_9, zero1_9, zeroT_9, aggT_30, sizeT_30, bytesT_30, und_30, elemT_30, isSliceT_30, zero1_30, zeroT_30, aggT_33, sizeT_33, bytesT_33, fieldT_33_0, fieldT_33_1, fieldT_33_2, fieldT_33_3, fieldT_33_4, placesT_33, zeroT_33, aggT_36, sizeT_36, bytesT_36, fieldT_36_0, fieldT_36_1, placesT_36, zeroT_36, aggT_27, sizeT_27, bytesT_27, und_27, zero1_27, zeroT_27, aggT_4, sizeT_4, bytesT_4, und_4, zero1_4, zeroT_4, aggT_3, sizeT_3, bytesT_3, und_3, zero1_3, zeroT_3, r44, callOut_vi]
  simp only [zS, nilEq, wantedA, opA, eff, boxA, cells, ev, gt, pt, putO, updO, setO, okC, loadA, cutC, fieldAddrA, fieldA, indexAddrA, indexA, builtinA, callOpA, callV, target, ptrV, lenS, binA, intOp, strOp, unA, num, lk, over, allocA, pickA, buildA, fillA, convertA, extractA, ofComp, nilCheckA, makeFuncA, ptrs, ofValue, cellB, Nat.reduceAdd, Nat.reduceSub, Nat.reduceMul, Nat.reduceLT, Nat.reduceLeDiff, Nat.reduceGT, ↓reduceIte, Nat.reduceEqDiff, Nat.reduceBEq, reduceCtorEq, Int.reduceBEq, Int.reduceBNe, Int.reduceLT, Int.reduceLE, Int.reduceGT, Int.reduceGE, aggT_67, sizeT_67, bytesT_67, fieldT_67_0, fieldT_67_1, fieldT_67_2, fieldT_67_3, fieldT_67_4, placesT_67, zeroT_67, aggT_24, sizeT_24, bytesT_24, fieldT_24_0, placesT_24, zeroT_24, aggT_9, sizeT_9, bytesT_9, und_9, zero1_9, zeroT_9, aggT_30, sizeT_30, bytesT_30, und_30, elemT_30, isSliceT_30, zero1_30, zeroT_30, aggT_33, sizeT_33, bytesT_33, fieldT_33_0, fieldT_33_1, fieldT_33_2, fieldT_33_3, fieldT_33_4, placesT_33, zeroT_33, aggT_36, sizeT_36, bytesT_36, fieldT_36_0, fieldT_36_1, placesT_36, zeroT_36, aggT_27, sizeT_27, bytesT_27, und_27, zero1_27, zeroT_27, aggT_4, sizeT_4, bytesT_4, und_4, zero1_4, zeroT_4, aggT_3, sizeT_3, bytesT_3, und_3, zero1_3, zeroT_3, r45, callOut_vi]
  simp only [zS, nilEq, wantedA, opA, eff, boxA, cells, ev, gt, pt, putO, updO, setO, okC, loadA, cutC, fieldAddrA, fieldA, indexAddrA, indexA, builtinA, callOpA, callV, target, ptrV, lenS, binA, intOp, strOp, unA, num, lk, over, allocA, pickA, buildA, fillA, convertA, extractA, ofComp, nilCheckA, makeFuncA, ptrs, ofValue, cellB, Nat.reduceAdd, Nat.reduceSub, Nat.reduceMul, Nat.reduceLT, Nat.reduceLeDiff, Nat.reduceGT, ↓reduceIte, Nat.reduceEqDiff, Nat.reduceBEq, reduceCtorEq, Int.reduceBEq, Int.reduceBNe, Int.reduceLT, Int.reduceLE, Int.reduceGT, Int.reduceGE, aggT_67, sizeT_67, bytesT_67, fieldT_67_0, fieldT_67_1, fieldT_67_2, fieldT_67_3, fieldT_67_4, placesT_67, zeroT_67, aggT_24, sizeT_24, bytesT_24, fieldT_24_0, placesT_24, zeroT_24, aggT_9, sizeT_9, bytesT_9, und_9, zero1_9, zeroT_9, aggT_30, sizeT_30, bytesT_30, und_30, elemT_30, isSliceT_30, zero1_30, zeroT_30, aggT_33, sizeT_33, bytesT_33, fieldT_33_0, fieldT_33_1, fieldT_33_2, fieldT_33_3, fieldT_33_4, placesT_33, zeroT_33, aggT_36, sizeT_36, bytesT_36, fieldT_36_0, fieldT_36_1, placesT_36, zeroT_36, aggT_27, sizeT_27, bytesT_27, und_27, zero1_27, zeroT_27, aggT_4, sizeT_4, bytesT_4, und_4, zero1_4, zeroT_4, aggT_3, sizeT_3, bytesT_3, und_3, zero1_3, zeroT_3, k3]
  simp only [zS, nilEq, wantedA, opA, eff, boxA, cells, ev, gt, pt, putO, updO, setO, okC, loadA, cutC, fieldAddrA, fieldA, indexAddrA, indexA, builtinA, callOpA, callV, target, ptrV, lenS, binA, intOp, strOp, unA, num, lk, over, allocA, pickA, buildA, fillA, convertA, extractA, ofComp, nilCheckA, makeFuncA, ptrs, ofValue, cellB, Nat.reduceAdd, Nat.reduceSub, Nat.reduceMul, Nat.reduceLT, Nat.reduceLeDiff, Nat.reduceGT, ↓reduceIte, Nat.reduceEqDiff, Nat.reduceBEq, reduceCtorEq, Int.reduceBEq, Int.reduceBNe, Int.reduceLT, Int.reduceLE, Int.reduceGT, Int.reduceGE, aggT_67, sizeT_67, bytesT_67, fieldT_67_0, fieldT_67_1, fieldT_67_2, fieldT_67_3, fieldT_67_4, placesT_67, zeroT_67, aggT_24, sizeT_24, bytesT_24, fieldT_24_0, placesT_24, zeroT_24, aggT_9, sizeT_9, bytesT_9, und_9, zero1_9, zeroT_9, aggT_30, sizeT_30, bytesT_30, und_30, elemT_30, isSliceT_30, zero1_30, zeroT_30, aggT_33, sizeT_33, bytesT_33, fieldT_33_0, fieldT_33_1, fieldT_33_2, fieldT_33_3, fieldT_33_4, placesT_33, zeroT_33, aggT_36, sizeT_36, bytesT_36, fieldT_36_0, fieldT_36_1, placesT_36, zeroT_36, aggT_27, sizeT_27, bytesT_27, und_27, zero1_27, zeroT_27, aggT_4, sizeT_4, bytesT_4, und_4, zero1_4, zeroT_4, aggT_3, sizeT_3, bytesT_3, und_3, zero1_3, zeroT_3, r46, callOut_vi]
  simp only [zS, nilEq, wantedA, opA, eff, boxA, cells, ev, gt, pt, putO, updO, setO, okC, loadA, cutC, fieldAddrA, fieldA, indexAddrA, indexA, builtinA, callOpA, callV, target, ptrV, lenS, binA, intOp, strOp, unA, num, lk, over, allocA, pickA, buildA, fillA, convertA, extractA, ofComp, nilCheckA, makeFuncA, ptrs, ofValue, cellB, Nat.reduceAdd, Nat.reduceSub, Nat.reduceMul, Nat.reduceLT, Nat.reduceLeDiff, Nat.reduceGT, ↓reduceIte, Nat.reduceEqDiff, Nat.reduceBEq, reduceCtorEq, Int.reduceBEq, Int.reduceBNe, Int.reduceLT, Int.reduceLE, Int.reduceGT, Int.reduceGE, aggT_67, sizeT_67, bytesT_67, fieldT_67_0, fieldT_67_1, fieldT_67_2, fieldT_67_3, fieldT_67_4, placesT_67, zeroT_67, aggT_24, sizeT_24, bytesT_24, fieldT_24_0, placesT_24, zeroT_24, aggT_9, sizeT_9, bytesT_9, und_9, zero1_9, zeroT_9, aggT_30, sizeT_30, bytesT_30, und_30, elemT_30, isSliceT_30, zero1_30, zeroT_30, aggT_33, sizeT_33, bytesT_33, fieldT_33_0, fieldT_33_1, fieldT_33_2, fieldT_33_3, fieldT_33_4, placesT_33, zeroT_33, aggT_36, sizeT_36, bytesT_36, fieldT_36_0, fieldT_36_1, placesT_36, zeroT_36, aggT_27, sizeT_27, bytesT_27, und_27, zero1_27, zeroT_27, aggT_4, sizeT_4, bytesT_4, und_4, zero1_4, zeroT_4, aggT_3, sizeT_3, bytesT_3, und_3, zero1_3, zeroT_3, r47, callOut_vi]
  simp only [zS, nilEq, wantedA, opA, eff, boxA, cells, ev, gt, pt, putO, updO, setO, okC, loadA, cutC, fieldAddrA, fieldA, indexAddrA, indexA, builtinA, callOpA, callV, target, ptrV, lenS, binA, intOp, strOp, unA, num, lk, over, allocA, pickA, buildA, fillA, convertA, extractA, ofComp, nilCheckA, makeFuncA, ptrs, ofValue, cellB, Nat.reduceAdd, Nat.reduceSub, Nat.reduceMul, Nat.reduceLT, Nat.reduceLeDiff, Nat.reduceGT, ↓reduceIte, Nat.reduceEqDiff, Nat.reduceBEq, reduceCtorEq, Int.reduceBEq, Int.reduceBNe, Int.reduceLT, Int.reduceLE, Int.reduceGT, Int.reduceGE, aggT_67, sizeT_67, bytesT_67, fieldT_67_0, fieldT_67_1, fieldT_67_2, fieldT_67_3, fieldT_67_4, placesT_67, zeroT_67, aggT_24, sizeT_24, bytesT_24, fieldT_24_0, placesT_24, zeroT_24, aggT_9, sizeT_9, bytesT_9, und_9, zero1_9, zeroT_9, aggT_30, sizeT_30, bytesT_30, und_30, elemT_30, isSliceT_30, zero1_30, zeroT_30, aggT_33, sizeT_33, bytesT_33, fieldT_33_0, fieldT_33_1, fieldT_33_2, fieldT_33_3, fieldT_33_4, placesT_33, zeroT_33, aggT_36, sizeT_36, bytesT_36, fieldT_36_0, fieldT_36_1, placesT_36, zeroT_36, aggT_27, sizeT_27, bytesT_27, und_27, zero1_27, zeroT_27, aggT_4, sizeT_4, bytesT_4, und_4, zero1_4, zeroT_4, aggT_3, sizeT_3, bytesT_3, und_3, zero1_3, zeroT_3, k4, r14]
  (refine Eq.trans ?_ rfl; kernel_rfl)
end Go.Proofs.YteenjodhmppgjaaGreatDoor.Am
end
section
/- TableFamilies: the law. -/
namespace Go.Proofs.YteenjodhmppgjaaGreatDoor.Am
open Go
variable (ext : Ext)
def Dc.sm9 (x : Dc) : Prop := x.param.sz < 2 ^ 21 ∧ ∀ c ∈ x.cons, c.arg.sz < 2 ^ 21
theorem family_sz (x : Tb) (s : ByteArray) (h : ∀ d ∈ x.ds, d.sm9) : (family x s).1.sm9 := by
  have hz : zDc.sm9 := ⟨by show zTm.sz < _; rw [zTm_sz]; omega, fun c hc => by cases hc⟩
  unfold family
  split
  · exact hz
  · rename_i d e
    split
    · exact h d (List.mem_of_find?_eq_some e)
    · exact hz
theorem conArg_sz (d : Dc) (i : Int) (h : d.sm9) : (conArg d i).sz < 2 ^ 21 := by
  unfold conArg
  split
  · rename_i c e
    exact h.2 c (List.mem_of_getElem? e)
  · rw [zTm_sz]; omega
theorem eqLev_zL0 : eqLev zL0 zL0 = true := eqLev_iff zL0 zL0 |>.2 rfl
theorem param_same (x : Tb) (s : ByteArray) (n : Nat) (l : List Lev) (h : (family x s).1.sm9) : (paramOf (fun u => substP u l) x s n).2 = (paramOf (fun u => substR u l) x s n).2 ∧ eqTm (paramOf (fun u => substP u l) x s n).1 (paramOf (fun u => substR u l) x s n).1 = true ∧ (paramOf (fun u => substP u l) x s n).1.sz < 2 ^ 50 := by
  unfold paramOf
  split
  · have := setL_same (fun u => subst_same u l) _ (inst x s n).1.param (Nat.le_refl _)
    have h2 := setL_sz (fun u => substP_sz l u) _ (inst x s n).1.param (Nat.le_refl _)
    have h3 : (inst x s n).1.param.sz < 2 ^ 21 := h.1
    exact ⟨this.1, this.2, by omega⟩
  · exact ⟨rfl, eqTm_zTm, by show zTm.sz < _; rw [zTm_sz]; omega⟩
theorem over_same (x : Tb) (s : ByteArray) (n : Nat) (l : List Lev) : (overOf (fun u => substP u l) x s n).2 = (overOf (fun u => substR u l) x s n).2 ∧ eqLev (overOf (fun u => substP u l) x s n).1 (overOf (fun u => substR u l) x s n).1 = true ∧ (overOf (fun u => substP u l) x s n).1.vs.length < 2 ^ 50 := by
  unfold overOf
  split
  · have := subst_same (inst x s n).1.over l
    have h2 := substP_sz l (inst x s n).1.over
    exact ⟨this.1, this.2, by unfold Lev.sz at h2; dsimp only; omega⟩
  · exact ⟨rfl, eqLev_zL0, by show (0 : Nat) < _; omega⟩
theorem sort_same (x : Tb) (s : ByteArray) (n : Nat) (l : List Lev) : (sortOf (fun u => substP u l) x s n).2 = (sortOf (fun u => substR u l) x s n).2 ∧ eqLev (sortOf (fun u => substP u l) x s n).1 (sortOf (fun u => substR u l) x s n).1 = true ∧ (sortOf (fun u => substP u l) x s n).1.vs.length < 2 ^ 50 := by
  unfold sortOf
  split
  · have := subst_same (inst x s n).1.sort l
    have h2 := substP_sz l (inst x s n).1.sort
    exact ⟨this.1, this.2, by unfold Lev.sz at h2; dsimp only; omega⟩
  · exact ⟨rfl, eqLev_zL0, by show (0 : Nat) < _; omega⟩
theorem decl_same (x : Tb) (s : ByteArray) (n : Nat) (i : Int) (l : List Lev) (h : (family x s).1.sm9) : (declOf (fun u => substP u l) x s n i).2 = (declOf (fun u => substR u l) x s n i).2 ∧ eqTm (declOf (fun u => substP u l) x s n i).1 (declOf (fun u => substR u l) x s n i).1 = true ∧ (declOf (fun u => substP u l) x s n i).1.sz < 2 ^ 25 := by
  unfold declOf
  split
  · split
    · have := setL_same (fun u => subst_same u l) _ (conArg (inst x s n).1 i) (Nat.le_refl _)
      have h2 := setL_sz (fun u => substP_sz l u) _ (conArg (inst x s n).1 i) (Nat.le_refl _)
      have h3 : (conArg (inst x s n).1 i).sz < 2 ^ 21 := conArg_sz _ _ h
      exact ⟨this.1, this.2, by omega⟩
    · exact ⟨rfl, eqTm_zTm, by show zTm.sz < _; rw [zTm_sz]; omega⟩
  · exact ⟨rfl, eqTm_zTm, by show zTm.sz < _; rw [zTm_sz]; omega⟩
theorem arg_same (x : Tb) (s : ByteArray) (n : Nat) (i : Int) (l : List Lev) (A : Tm) (hA : A.sz < 2 ^ 21) (h : (family x s).1.sm9) :
    (argOf (fun u => substP u l) (flP A) x s n i).2 = (argOf (fun u => substR u l) (fun t => flR A t.sz t 0) x s n i).2 ∧ eqTm (argOf (fun u => substP u l) (flP A) x s n i).1 (argOf (fun u => substR u l) (fun t => flR A t.sz t 0) x s n i).1 = true ∧ (argOf (fun u => substP u l) (flP A) x s n i).1.sz < 2 ^ 50 := by
  obtain ⟨h1, h2, h3⟩ := decl_same x s n i l h
  unfold argOf
  rw [← h1]
  split
  · refine ⟨rfl, fill_same A _ _ (by omega) (by omega) h2, ?_⟩
    have := flP_sz A (declOf (fun u => substP u l) x s n i).1
    have h4 : A.sz * (declOf (fun u => substP u l) x s n i).1.sz ≤ 2 ^ 21 * 2 ^ 25 := Nat.mul_le_mul (by omega) (by omega)
    dsimp only
    omega
  · exact ⟨rfl, eqTm_zTm, by show zTm.sz < _; rw [zTm_sz]; omega⟩
theorem law9 (hx : ∀ n, n ≠ 14 → n ≠ 121 → n ≠ 240 → ext n = none) (hs : Sorts ext) (hc : Clones ext) (r14 : run Tryz.prog ext (.call 14 [] []) = some (.ret [bV true] []))
    (x : Tb) (q : Ask) (hok : x.ok) (hsm : ∀ d ∈ x.ds, d.sm9) (hl : q.ls.length < 2 ^ 50) (ha : q.a.sz < 2 ^ 21) (hb : q.b.sz < 2 ^ 50) : run Tryz.prog ext (.call 9 [tbV x, askV q] []) = some (.ret [bV true] []) := by
  have H : ∀ n, n ≠ 14 ∧ n ≠ 121 ∧ n ≠ 240 → ext n = none := fun n h => hx n h.1 h.2.1 h.2.2
  obtain ⟨b1, r13⟩ := heavy13 ext (H _ (by decide)) (H _ (by decide)) (H _ (by decide)) (H _ (by decide)) (H _ (by decide)) (H _ (by decide)) x hok
  obtain ⟨b2, r31⟩ := levels31 ext (H _ (by decide)) q.z q.ls hl
  obtain ⟨b3, ra⟩ := heavy17 ext (H _ (by decide)) (H _ (by decide)) (H _ (by decide)) q.a 400 (by omega)
  obtain ⟨b4, rb⟩ := heavy17 ext (H _ (by decide)) (H _ (by decide)) (H _ (by decide)) q.b 400 hb
  have r38 := heavy38 ext (H _ (by decide)) q b2 b3 b4 r31 ra rb
  generalize (decide ((q.s.size : Int) > 200) || (b2 || (b3 || b4))) = b5 at r38
  by_cases c1 : b1 = true ∨ b5 = true
  · exact heavy9 ext (H _ (by decide)) x q b1 b5 r13 r38 r14 c1
  · have hb1 : b1 = false := by cases b1; rfl; exact absurd (.inl rfl) c1
    have hb5 : b5 = false := by cases b5; rfl; exact absurd (.inr rfl) c1
    subst hb1 hb5
    have hts := family_sz x q.s hsm
    have hca := conArg_sz _ q.n hts
    have g71 := fam71 ext (H _ (by decide)) (H _ (by decide)) (H _ (by decide)) (H _ (by decide)) x q.s hok.1
    have g73 := fam73 ext (H _ (by decide)) (H _ (by decide)) x q.s hok.1
    have g83 := inst83 ext (H _ (by decide)) x q.s q.z q.ls g71
    have fP := fun u => subst84 ext (H _ (by decide)) (H _ (by decide)) (H _ (by decide)) (H _ (by decide)) (H _ (by decide)) (H _ (by decide)) (H _ (by decide)) hs (H _ (by decide)) (H _ (by decide)) (H _ (by decide)) (H _ (by decide)) (H _ (by decide)) u q.z q.ls
    have fR := fun u => subst85 ext (H _ (by decide)) (H _ (by decide)) (H _ (by decide)) (H _ (by decide)) (H _ (by decide)) (H _ (by decide)) u q.z q.ls
    have sP := fun (t : Tm) (ht : t.sz < 2 ^ 21) => set79 ext (H _ (by decide)) (fun u => substP u q.ls) _ fP t.sz t (Nat.le_refl _) (by omega)
    have sR := fun (t : Tm) (ht : t.sz < 2 ^ 21) => set81 ext (H _ (by decide)) (fun u => substR u q.ls) _ fR t.sz t (Nat.le_refl _) (by omega)
    have r39 := f39_ ext (H _ (by decide)) (fun u => substP u q.ls) x q.s q.z q.ls g83 (sP _ hts.1)
    have r40 := f40_ ext (H _ (by decide)) (fun u => substR u q.ls) x q.s q.z q.ls g73 (sR _ hts.1)
    have r41 := f41_ ext (H _ (by decide)) (fun u => substP u q.ls) x q.s q.z q.ls g83 (fP _)
    have r42 := f42_ ext (H _ (by decide)) (fun u => substR u q.ls) x q.s q.z q.ls g73 (fR _)
    have r44 := f44_ ext (H _ (by decide)) (fun u => substP u q.ls) x q.s q.z q.ls g83 (fP _)
    have r45 := f45_ ext (H _ (by decide)) (fun u => substR u q.ls) x q.s q.z q.ls g73 (fR _)
    obtain ⟨d1, d2, d3⟩ := decl_same x q.s q.ls.length q.n q.ls hts
    have d4 : (declOf (fun u => substR u q.ls) x q.s q.ls.length q.n).1.sz < 2 ^ 25 := by rw [← sz_nf (eqTm_nf.1 d2)]; exact d3
    have r87 := decl87 ext (H _ (by decide)) (fun u => substR u q.ls) x q.s q.z q.ls q.n g73 (sR _ hca)
    have r47 := arg47 ext (H _ (by decide)) (fun u => substR u q.ls) (fun t => flR q.a t.sz t 0) x q.s _ q.ls.length q.n q.a r87 (fun _ => fill88 ext (H _ (by decide)) _ q.a _
      (fill133 ext (H _ (by decide)) (H _ (by decide)) (H _ (by decide)) (H _ (by decide)) (H _ (by decide)) (H _ (by decide)) (H _ (by decide)) (H _ (by decide)) (H _ (by decide)) q.a (by omega) _ _ 0 (Nat.le_refl _) (by omega) (by omega) (by omega)))
    have hfl : ∀ t : Tm, t.sz < 2 ^ 25 → run Tryz.prog ext (.call 86 [tmV t, dV (argD q.a)] []) = some (.ret [tmV (flP q.a t)] []) := fun t ht =>
      fillP ext (H _ (by decide)) (H _ (by decide)) (H _ (by decide)) (H _ (by decide)) (H _ (by decide)) (H _ (by decide)) (H _ (by decide)) (H _ (by decide)) hc (H _ (by decide)) (H _ (by decide)) t q.a (by omega) (by omega)
    have r46 := arg46 ext (H _ (by decide)) (fun u => substP u q.ls) (flP q.a) x q.s q.z q.ls q.n q.a g83 (sP _ hca) (fun _ => hfl _ (by
      have h2 := setL_sz (fun u => substP_sz q.ls u) _ (conArg (inst x q.s q.ls.length).1 q.n) (Nat.le_refl _)
      have h3 : (conArg (inst x q.s q.ls.length).1 q.n).sz < 2 ^ 21 := hca
      omega))
    have r36 := fun (a b : Tm) (h : a.sz < 2 ^ 50) => eq36 ext (H _ (by decide)) (H _ (by decide)) (H _ (by decide)) (H _ (by decide)) a.sz a b (Nat.le_refl _) h
    have r43 := fun (a b : Lev) (h : a.vs.length < 2 ^ 50) => eq43 ext (H _ (by decide)) a b h
    obtain ⟨p1, p2, p3⟩ := param_same x q.s q.ls.length q.ls hts
    obtain ⟨o1, o2, o3⟩ := over_same x q.s q.ls.length q.ls
    obtain ⟨s1, s2, s3⟩ := sort_same x q.s q.ls.length q.ls
    obtain ⟨a1, a2, a3⟩ := arg_same x q.s q.ls.length q.n q.ls q.a ha hts
    have e1 := r36 _ (paramOf (fun u => substR u q.ls) x q.s q.ls.length).1 p3
    have e2 := r43 _ (overOf (fun u => substR u q.ls) x q.s q.ls.length).1 o3
    have e3 := r43 _ (sortOf (fun u => substR u q.ls) x q.s q.ls.length).1 s3
    have e4 := r36 _ (argOf (fun u => substR u q.ls) (fun t => flR q.a t.sz t 0) x q.s q.ls.length q.n).1 a3
    rw [p2] at e1
    rw [o2] at e2
    rw [s2] at e3
    rw [a2] at e4
    rw [p1] at r39
    rw [o1] at r41
    rw [s1] at r44
    rw [a1] at r46
    exact light9 ext (H _ (by decide)) x q _ _ _ _ _ _ _ _ _ _ _ _ r13 r38 r14 r39 r40 e1 r41 r42 e2 r44 r45 e3 r46 r47 e4
end Go.Proofs.YteenjodhmppgjaaGreatDoor.Am
end
