/- Part 6 of the proof of the card of TableFamilies, second form: no statement of its own; no conditions. -/
import Derived.Test.YteenjodhmppgjaaGreatDoorPa5
set_option linter.unusedSimpArgs false
set_option linter.unusedVariables false
set_option linter.defProp false
set_option linter.unusedSectionVars false
section
/- What a place binds. -/
namespace Go.Proofs.YteenjodhmppgjaaGreatDoor.Am
open Go
variable (ext : Ext)
set_option maxHeartbeats 8000000
def binds (op : Int) (len : Nat) (i : Int) : Int :=
  if i < 0 ∨ i ≥ len then 0
  else if op = 5 ∨ op = 6 ∨ op = 8 ∨ op = 9 ∨ op = 20 then if i = 1 then 1 else 0
  else if op = 23 then if i = 1 then 2 else 0
  else if op = 25 then if i = 1 ∨ i = 2 then 1 else 0
  else if op = 28 then if i = 0 then 2 else if i < wr ((len : Int) - 2) then 3 else 0
  else 0
theorem binds205 (hx : ext 205 = none) (x : Tm) (i : Int) : run Tryz.prog ext (.call 205 [tmV x, iV i] []) = some (.ret [iV (binds x.op x.l.length i)] []) := by
  by_cases a : i < 0
  · have e : binds x.op x.l.length i = 0 := by unfold binds; simp [a]
    rw [e]
    (rw [run_eq]; simp only [stepA, hx, Tryz.func205, Tryz.f205, show retF 205 = false from rfl]; simp only [List.length_cons, List.length_nil, Nat.reduceAdd, Nat.reduceLeDiff, Nat.zero_le, ↓reduceIte, List.zipIdx_cons, List.zipIdx_nil, List.map_cons, List.map_nil])
    simp only [tmV, tmC, iV]
    simp only [zS, nilEq, wantedA, opA, eff, boxA, cells, ev, gt, pt, putO, updO, setO, okC, loadA, cutC, fieldAddrA, fieldA, indexAddrA, indexA, builtinA, callOpA, callV, target, ptrV, lenS, binA, intOp, strOp, unA, num, lk, over, allocA, pickA, buildA, fillA, convertA, extractA, ofComp, nilCheckA, makeFuncA, ptrs, ofValue, cellB, Nat.reduceAdd, Nat.reduceSub, Nat.reduceMul, Nat.reduceLT, Nat.reduceLeDiff, Nat.reduceGT, ↓reduceIte, Nat.reduceEqDiff, Nat.reduceBEq, reduceCtorEq, Int.reduceBEq, Int.reduceBNe, Int.reduceLT, Int.reduceLE, Int.reduceGT, Int.reduceGE, aggT_33, sizeT_33, bytesT_33, fieldT_33_0, fieldT_33_1, fieldT_33_2, fieldT_33_3, fieldT_33_4, placesT_33, zeroT_33, aggT_31, sizeT_31, bytesT_31, und_31, elemT_31, isSliceT_31, zero1_31, zeroT_31, aggT_3, sizeT_3, bytesT_3, und_3, zero1_3, zeroT_3, lenA_lD, ge_iff_le, a]
    (refine Eq.trans ?_ rfl; kernel_rfl)
  by_cases b : (x.l.length : Int) ≤ i
  · have e : binds x.op x.l.length i = 0 := by unfold binds; simp [a, b]
    rw [e]
    (rw [run_eq]; simp only [stepA, hx, Tryz.func205, Tryz.f205, show retF 205 = false from rfl]; simp only [List.length_cons, List.length_nil, Nat.reduceAdd, Nat.reduceLeDiff, Nat.zero_le, ↓reduceIte, List.zipIdx_cons, List.zipIdx_nil, List.map_cons, List.map_nil])
    simp only [tmV, tmC, iV]
    simp only [zS, nilEq, wantedA, opA, eff, boxA, cells, ev, gt, pt, putO, updO, setO, okC, loadA, cutC, fieldAddrA, fieldA, indexAddrA, indexA, builtinA, callOpA, callV, target, ptrV, lenS, binA, intOp, strOp, unA, num, lk, over, allocA, pickA, buildA, fillA, convertA, extractA, ofComp, nilCheckA, makeFuncA, ptrs, ofValue, cellB, Nat.reduceAdd, Nat.reduceSub, Nat.reduceMul, Nat.reduceLT, Nat.reduceLeDiff, Nat.reduceGT, ↓reduceIte, Nat.reduceEqDiff, Nat.reduceBEq, reduceCtorEq, Int.reduceBEq, Int.reduceBNe, Int.reduceLT, Int.reduceLE, Int.reduceGT, Int.reduceGE, aggT_33, sizeT_33, bytesT_33, fieldT_33_0, fieldT_33_1, fieldT_33_2, fieldT_33_3, fieldT_33_4, placesT_33, zeroT_33, aggT_31, sizeT_31, bytesT_31, und_31, elemT_31, isSliceT_31, zero1_31, zeroT_31, aggT_3, sizeT_3, bytesT_3, und_3, zero1_3, zeroT_3, lenA_lD, ge_iff_le, a, b]
    (refine Eq.trans ?_ rfl; kernel_rfl)
  by_cases o5 : x.op = 5
  · by_cases c : i = 1
    · subst c
      have e : binds x.op x.l.length 1 = 1 := by unfold binds; simp [a, b, o5]
      rw [e]
      (rw [run_eq]; simp only [stepA, hx, Tryz.func205, Tryz.f205, show retF 205 = false from rfl]; simp only [List.length_cons, List.length_nil, Nat.reduceAdd, Nat.reduceLeDiff, Nat.zero_le, ↓reduceIte, List.zipIdx_cons, List.zipIdx_nil, List.map_cons, List.map_nil])
      simp only [tmV, tmC, iV]
      simp only [zS, nilEq, wantedA, opA, eff, boxA, cells, ev, gt, pt, putO, updO, setO, okC, loadA, cutC, fieldAddrA, fieldA, indexAddrA, indexA, builtinA, callOpA, callV, target, ptrV, lenS, binA, intOp, strOp, unA, num, lk, over, allocA, pickA, buildA, fillA, convertA, extractA, ofComp, nilCheckA, makeFuncA, ptrs, ofValue, cellB, Nat.reduceAdd, Nat.reduceSub, Nat.reduceMul, Nat.reduceLT, Nat.reduceLeDiff, Nat.reduceGT, ↓reduceIte, Nat.reduceEqDiff, Nat.reduceBEq, reduceCtorEq, Int.reduceBEq, Int.reduceBNe, Int.reduceLT, Int.reduceLE, Int.reduceGT, Int.reduceGE, aggT_33, sizeT_33, bytesT_33, fieldT_33_0, fieldT_33_1, fieldT_33_2, fieldT_33_3, fieldT_33_4, placesT_33, zeroT_33, aggT_31, sizeT_31, bytesT_31, und_31, elemT_31, isSliceT_31, zero1_31, zeroT_31, aggT_3, sizeT_3, bytesT_3, und_3, zero1_3, zeroT_3, lenA_lD, ge_iff_le, a, b, o5]
      (refine Eq.trans ?_ rfl; kernel_rfl)
    · have e : binds x.op x.l.length i = 0 := by unfold binds; simp [a, b, o5, c]
      rw [e]
      (rw [run_eq]; simp only [stepA, hx, Tryz.func205, Tryz.f205, show retF 205 = false from rfl]; simp only [List.length_cons, List.length_nil, Nat.reduceAdd, Nat.reduceLeDiff, Nat.zero_le, ↓reduceIte, List.zipIdx_cons, List.zipIdx_nil, List.map_cons, List.map_nil])
      simp only [tmV, tmC, iV]
      simp only [zS, nilEq, wantedA, opA, eff, boxA, cells, ev, gt, pt, putO, updO, setO, okC, loadA, cutC, fieldAddrA, fieldA, indexAddrA, indexA, builtinA, callOpA, callV, target, ptrV, lenS, binA, intOp, strOp, unA, num, lk, over, allocA, pickA, buildA, fillA, convertA, extractA, ofComp, nilCheckA, makeFuncA, ptrs, ofValue, cellB, Nat.reduceAdd, Nat.reduceSub, Nat.reduceMul, Nat.reduceLT, Nat.reduceLeDiff, Nat.reduceGT, ↓reduceIte, Nat.reduceEqDiff, Nat.reduceBEq, reduceCtorEq, Int.reduceBEq, Int.reduceBNe, Int.reduceLT, Int.reduceLE, Int.reduceGT, Int.reduceGE, aggT_33, sizeT_33, bytesT_33, fieldT_33_0, fieldT_33_1, fieldT_33_2, fieldT_33_3, fieldT_33_4, placesT_33, zeroT_33, aggT_31, sizeT_31, bytesT_31, und_31, elemT_31, isSliceT_31, zero1_31, zeroT_31, aggT_3, sizeT_3, bytesT_3, und_3, zero1_3, zeroT_3, lenA_lD, ge_iff_le, a, b, o5, c]
      (refine Eq.trans ?_ rfl; kernel_rfl)
  by_cases o6 : x.op = 6
  · by_cases c : i = 1
    · subst c
      have e : binds x.op x.l.length 1 = 1 := by unfold binds; simp [a, b, o6]
      rw [e]
      (rw [run_eq]; simp only [stepA, hx, Tryz.func205, Tryz.f205, show retF 205 = false from rfl]; simp only [List.length_cons, List.length_nil, Nat.reduceAdd, Nat.reduceLeDiff, Nat.zero_le, ↓reduceIte, List.zipIdx_cons, List.zipIdx_nil, List.map_cons, List.map_nil])
      simp only [tmV, tmC, iV]
      simp only [zS, nilEq, wantedA, opA, eff, boxA, cells, ev, gt, pt, putO, updO, setO, okC, loadA, cutC, fieldAddrA, fieldA, indexAddrA, indexA, builtinA, callOpA, callV, target, ptrV, lenS, binA, intOp, strOp, unA, num, lk, over, allocA, pickA, buildA, fillA, convertA, extractA, ofComp, nilCheckA, makeFuncA, ptrs, ofValue, cellB, Nat.reduceAdd, Nat.reduceSub, Nat.reduceMul, Nat.reduceLT, Nat.reduceLeDiff, Nat.reduceGT, ↓reduceIte, Nat.reduceEqDiff, Nat.reduceBEq, reduceCtorEq, Int.reduceBEq, Int.reduceBNe, Int.reduceLT, Int.reduceLE, Int.reduceGT, Int.reduceGE, aggT_33, sizeT_33, bytesT_33, fieldT_33_0, fieldT_33_1, fieldT_33_2, fieldT_33_3, fieldT_33_4, placesT_33, zeroT_33, aggT_31, sizeT_31, bytesT_31, und_31, elemT_31, isSliceT_31, zero1_31, zeroT_31, aggT_3, sizeT_3, bytesT_3, und_3, zero1_3, zeroT_3, lenA_lD, ge_iff_le, a, b, o6]
      (refine Eq.trans ?_ rfl; kernel_rfl)
    · have e : binds x.op x.l.length i = 0 := by unfold binds; simp [a, b, o6, c]
      rw [e]
      (rw [run_eq]; simp only [stepA, hx, Tryz.func205, Tryz.f205, show retF 205 = false from rfl]; simp only [List.length_cons, List.length_nil, Nat.reduceAdd, Nat.reduceLeDiff, Nat.zero_le, ↓reduceIte, List.zipIdx_cons, List.zipIdx_nil, List.map_cons, List.map_nil])
      simp only [tmV, tmC, iV]
      simp only [zS, nilEq, wantedA, opA, eff, boxA, cells, ev, gt, pt, putO, updO, setO, okC, loadA, cutC, fieldAddrA, fieldA, indexAddrA, indexA, builtinA, callOpA, callV, target, ptrV, lenS, binA, intOp, strOp, unA, num, lk, over, allocA, pickA, buildA, fillA, convertA, extractA, ofComp, nilCheckA, makeFuncA, ptrs, ofValue, cellB, Nat.reduceAdd, Nat.reduceSub, Nat.reduceMul, Nat.reduceLT, Nat.reduceLeDiff, Nat.reduceGT, ↓reduceIte, Nat.reduceEqDiff, Nat.reduceBEq, reduceCtorEq, Int.reduceBEq, Int.reduceBNe, Int.reduceLT, Int.reduceLE, Int.reduceGT, Int.reduceGE, aggT_33, sizeT_33, bytesT_33, fieldT_33_0, fieldT_33_1, fieldT_33_2, fieldT_33_3, fieldT_33_4, placesT_33, zeroT_33, aggT_31, sizeT_31, bytesT_31, und_31, elemT_31, isSliceT_31, zero1_31, zeroT_31, aggT_3, sizeT_3, bytesT_3, und_3, zero1_3, zeroT_3, lenA_lD, ge_iff_le, a, b, o6, c]
      (refine Eq.trans ?_ rfl; kernel_rfl)
  by_cases o8 : x.op = 8
  · by_cases c : i = 1
    · subst c
      have e : binds x.op x.l.length 1 = 1 := by unfold binds; simp [a, b, o8]
      rw [e]
      (rw [run_eq]; simp only [stepA, hx, Tryz.func205, Tryz.f205, show retF 205 = false from rfl]; simp only [List.length_cons, List.length_nil, Nat.reduceAdd, Nat.reduceLeDiff, Nat.zero_le, ↓reduceIte, List.zipIdx_cons, List.zipIdx_nil, List.map_cons, List.map_nil])
      simp only [tmV, tmC, iV]
      simp only [zS, nilEq, wantedA, opA, eff, boxA, cells, ev, gt, pt, putO, updO, setO, okC, loadA, cutC, fieldAddrA, fieldA, indexAddrA, indexA, builtinA, callOpA, callV, target, ptrV, lenS, binA, intOp, strOp, unA, num, lk, over, allocA, pickA, buildA, fillA, convertA, extractA, ofComp, nilCheckA, makeFuncA, ptrs, ofValue, cellB, Nat.reduceAdd, Nat.reduceSub, Nat.reduceMul, Nat.reduceLT, Nat.reduceLeDiff, Nat.reduceGT, ↓reduceIte, Nat.reduceEqDiff, Nat.reduceBEq, reduceCtorEq, Int.reduceBEq, Int.reduceBNe, Int.reduceLT, Int.reduceLE, Int.reduceGT, Int.reduceGE, aggT_33, sizeT_33, bytesT_33, fieldT_33_0, fieldT_33_1, fieldT_33_2, fieldT_33_3, fieldT_33_4, placesT_33, zeroT_33, aggT_31, sizeT_31, bytesT_31, und_31, elemT_31, isSliceT_31, zero1_31, zeroT_31, aggT_3, sizeT_3, bytesT_3, und_3, zero1_3, zeroT_3, lenA_lD, ge_iff_le, a, b, o8]
      (refine Eq.trans ?_ rfl; kernel_rfl)
    · have e : binds x.op x.l.length i = 0 := by unfold binds; simp [a, b, o8, c]
      rw [e]
      (rw [run_eq]; simp only [stepA, hx, Tryz.func205, Tryz.f205, show retF 205 = false from rfl]; simp only [List.length_cons, List.length_nil, Nat.reduceAdd, Nat.reduceLeDiff, Nat.zero_le, ↓reduceIte, List.zipIdx_cons, List.zipIdx_nil, List.map_cons, List.map_nil])
      simp only [tmV, tmC, iV]
      simp only [zS, nilEq, wantedA, opA, eff, boxA, cells, ev, gt, pt, putO, updO, setO, okC, loadA, cutC, fieldAddrA, fieldA, indexAddrA, indexA, builtinA, callOpA, callV, target, ptrV, lenS, binA, intOp, strOp, unA, num, lk, over, allocA, pickA, buildA, fillA, convertA, extractA, ofComp, nilCheckA, makeFuncA, ptrs, ofValue, cellB, Nat.reduceAdd, Nat.reduceSub, Nat.reduceMul, Nat.reduceLT, Nat.reduceLeDiff, Nat.reduceGT, ↓reduceIte, Nat.reduceEqDiff, Nat.reduceBEq, reduceCtorEq, Int.reduceBEq, Int.reduceBNe, Int.reduceLT, Int.reduceLE, Int.reduceGT, Int.reduceGE, aggT_33, sizeT_33, bytesT_33, fieldT_33_0, fieldT_33_1, fieldT_33_2, fieldT_33_3, fieldT_33_4, placesT_33, zeroT_33, aggT_31, sizeT_31, bytesT_31, und_31, elemT_31, isSliceT_31, zero1_31, zeroT_31, aggT_3, sizeT_3, bytesT_3, und_3, zero1_3, zeroT_3, lenA_lD, ge_iff_le, a, b, o8, c]
      (refine Eq.trans ?_ rfl; kernel_rfl)
  by_cases o9 : x.op = 9
  · by_cases c : i = 1
    · subst c
      have e : binds x.op x.l.length 1 = 1 := by unfold binds; simp [a, b, o9]
      rw [e]
      (rw [run_eq]; simp only [stepA, hx, Tryz.func205, Tryz.f205, show retF 205 = false from rfl]; simp only [List.length_cons, List.length_nil, Nat.reduceAdd, Nat.reduceLeDiff, Nat.zero_le, ↓reduceIte, List.zipIdx_cons, List.zipIdx_nil, List.map_cons, List.map_nil])
      simp only [tmV, tmC, iV]
      simp only [zS, nilEq, wantedA, opA, eff, boxA, cells, ev, gt, pt, putO, updO, setO, okC, loadA, cutC, fieldAddrA, fieldA, indexAddrA, indexA, builtinA, callOpA, callV, target, ptrV, lenS, binA, intOp, strOp, unA, num, lk, over, allocA, pickA, buildA, fillA, convertA, extractA, ofComp, nilCheckA, makeFuncA, ptrs, ofValue, cellB, Nat.reduceAdd, Nat.reduceSub, Nat.reduceMul, Nat.reduceLT, Nat.reduceLeDiff, Nat.reduceGT, ↓reduceIte, Nat.reduceEqDiff, Nat.reduceBEq, reduceCtorEq, Int.reduceBEq, Int.reduceBNe, Int.reduceLT, Int.reduceLE, Int.reduceGT, Int.reduceGE, aggT_33, sizeT_33, bytesT_33, fieldT_33_0, fieldT_33_1, fieldT_33_2, fieldT_33_3, fieldT_33_4, placesT_33, zeroT_33, aggT_31, sizeT_31, bytesT_31, und_31, elemT_31, isSliceT_31, zero1_31, zeroT_31, aggT_3, sizeT_3, bytesT_3, und_3, zero1_3, zeroT_3, lenA_lD, ge_iff_le, a, b, o9]
      (refine Eq.trans ?_ rfl; kernel_rfl)
    · have e : binds x.op x.l.length i = 0 := by unfold binds; simp [a, b, o9, c]
      rw [e]
      (rw [run_eq]; simp only [stepA, hx, Tryz.func205, Tryz.f205, show retF 205 = false from rfl]; simp only [List.length_cons, List.length_nil, Nat.reduceAdd, Nat.reduceLeDiff, Nat.zero_le, ↓reduceIte, List.zipIdx_cons, List.zipIdx_nil, List.map_cons, List.map_nil])
      simp only [tmV, tmC, iV]
      simp only [zS, nilEq, wantedA, opA, eff, boxA, cells, ev, gt, pt, putO, updO, setO, okC, loadA, cutC, fieldAddrA, fieldA, indexAddrA, indexA, builtinA, callOpA, callV, target, ptrV, lenS, binA, intOp, strOp, unA, num, lk, over, allocA, pickA, buildA, fillA, convertA, extractA, ofComp, nilCheckA, makeFuncA, ptrs, ofValue, cellB, Nat.reduceAdd, Nat.reduceSub, Nat.reduceMul, Nat.reduceLT, Nat.reduceLeDiff, Nat.reduceGT, ↓reduceIte, Nat.reduceEqDiff, Nat.reduceBEq, reduceCtorEq, Int.reduceBEq, Int.reduceBNe, Int.reduceLT, Int.reduceLE, Int.reduceGT, Int.reduceGE, aggT_33, sizeT_33, bytesT_33, fieldT_33_0, fieldT_33_1, fieldT_33_2, fieldT_33_3, fieldT_33_4, placesT_33, zeroT_33, aggT_31, sizeT_31, bytesT_31, und_31, elemT_31, isSliceT_31, zero1_31, zeroT_31, aggT_3, sizeT_3, bytesT_3, und_3, zero1_3, zeroT_3, lenA_lD, ge_iff_le, a, b, o9, c]
      (refine Eq.trans ?_ rfl; kernel_rfl)
  by_cases o20 : x.op = 20
  · by_cases c : i = 1
    · subst c
      have e : binds x.op x.l.length 1 = 1 := by unfold binds; simp [a, b, o20]
      rw [e]
      (rw [run_eq]; simp only [stepA, hx, Tryz.func205, Tryz.f205, show retF 205 = false from rfl]; simp only [List.length_cons, List.length_nil, Nat.reduceAdd, Nat.reduceLeDiff, Nat.zero_le, ↓reduceIte, List.zipIdx_cons, List.zipIdx_nil, List.map_cons, List.map_nil])
      simp only [tmV, tmC, iV]
      simp only [zS, nilEq, wantedA, opA, eff, boxA, cells, ev, gt, pt, putO, updO, setO, okC, loadA, cutC, fieldAddrA, fieldA, indexAddrA, indexA, builtinA, callOpA, callV, target, ptrV, lenS, binA, intOp, strOp, unA, num, lk, over, allocA, pickA, buildA, fillA, convertA, extractA, ofComp, nilCheckA, makeFuncA, ptrs, ofValue, cellB, Nat.reduceAdd, Nat.reduceSub, Nat.reduceMul, Nat.reduceLT, Nat.reduceLeDiff, Nat.reduceGT, ↓reduceIte, Nat.reduceEqDiff, Nat.reduceBEq, reduceCtorEq, Int.reduceBEq, Int.reduceBNe, Int.reduceLT, Int.reduceLE, Int.reduceGT, Int.reduceGE, aggT_33, sizeT_33, bytesT_33, fieldT_33_0, fieldT_33_1, fieldT_33_2, fieldT_33_3, fieldT_33_4, placesT_33, zeroT_33, aggT_31, sizeT_31, bytesT_31, und_31, elemT_31, isSliceT_31, zero1_31, zeroT_31, aggT_3, sizeT_3, bytesT_3, und_3, zero1_3, zeroT_3, lenA_lD, ge_iff_le, a, b, o20]
      (refine Eq.trans ?_ rfl; kernel_rfl)
    · have e : binds x.op x.l.length i = 0 := by unfold binds; simp [a, b, o20, c]
      rw [e]
      (rw [run_eq]; simp only [stepA, hx, Tryz.func205, Tryz.f205, show retF 205 = false from rfl]; simp only [List.length_cons, List.length_nil, Nat.reduceAdd, Nat.reduceLeDiff, Nat.zero_le, ↓reduceIte, List.zipIdx_cons, List.zipIdx_nil, List.map_cons, List.map_nil])
      simp only [tmV, tmC, iV]
      simp only [zS, nilEq, wantedA, opA, eff, boxA, cells, ev, gt, pt, putO, updO, setO, okC, loadA, cutC, fieldAddrA, fieldA, indexAddrA, indexA, builtinA, callOpA, callV, target, ptrV, lenS, binA, intOp, strOp, unA, num, lk, over, allocA, pickA, buildA, fillA, convertA, extractA, ofComp, nilCheckA, makeFuncA, ptrs, ofValue, cellB, Nat.reduceAdd, Nat.reduceSub, Nat.reduceMul, Nat.reduceLT, Nat.reduceLeDiff, Nat.reduceGT, ↓reduceIte, Nat.reduceEqDiff, Nat.reduceBEq, reduceCtorEq, Int.reduceBEq, Int.reduceBNe, Int.reduceLT, Int.reduceLE, Int.reduceGT, Int.reduceGE, aggT_33, sizeT_33, bytesT_33, fieldT_33_0, fieldT_33_1, fieldT_33_2, fieldT_33_3, fieldT_33_4, placesT_33, zeroT_33, aggT_31, sizeT_31, bytesT_31, und_31, elemT_31, isSliceT_31, zero1_31, zeroT_31, aggT_3, sizeT_3, bytesT_3, und_3, zero1_3, zeroT_3, lenA_lD, ge_iff_le, a, b, o20, c]
      (refine Eq.trans ?_ rfl; kernel_rfl)
  by_cases o23 : x.op = 23
  · by_cases c : i = 1
    · subst c
      have e : binds x.op x.l.length 1 = 2 := by unfold binds; simp [a, b, o23]
      rw [e]
      (rw [run_eq]; simp only [stepA, hx, Tryz.func205, Tryz.f205, show retF 205 = false from rfl]; simp only [List.length_cons, List.length_nil, Nat.reduceAdd, Nat.reduceLeDiff, Nat.zero_le, ↓reduceIte, List.zipIdx_cons, List.zipIdx_nil, List.map_cons, List.map_nil])
      simp only [tmV, tmC, iV]
      simp only [zS, nilEq, wantedA, opA, eff, boxA, cells, ev, gt, pt, putO, updO, setO, okC, loadA, cutC, fieldAddrA, fieldA, indexAddrA, indexA, builtinA, callOpA, callV, target, ptrV, lenS, binA, intOp, strOp, unA, num, lk, over, allocA, pickA, buildA, fillA, convertA, extractA, ofComp, nilCheckA, makeFuncA, ptrs, ofValue, cellB, Nat.reduceAdd, Nat.reduceSub, Nat.reduceMul, Nat.reduceLT, Nat.reduceLeDiff, Nat.reduceGT, ↓reduceIte, Nat.reduceEqDiff, Nat.reduceBEq, reduceCtorEq, Int.reduceBEq, Int.reduceBNe, Int.reduceLT, Int.reduceLE, Int.reduceGT, Int.reduceGE, aggT_33, sizeT_33, bytesT_33, fieldT_33_0, fieldT_33_1, fieldT_33_2, fieldT_33_3, fieldT_33_4, placesT_33, zeroT_33, aggT_31, sizeT_31, bytesT_31, und_31, elemT_31, isSliceT_31, zero1_31, zeroT_31, aggT_3, sizeT_3, bytesT_3, und_3, zero1_3, zeroT_3, lenA_lD, ge_iff_le, a, b, o23]
      (refine Eq.trans ?_ rfl; kernel_rfl)
    · have e : binds x.op x.l.length i = 0 := by unfold binds; simp [a, b, o23, c]
      rw [e]
      (rw [run_eq]; simp only [stepA, hx, Tryz.func205, Tryz.f205, show retF 205 = false from rfl]; simp only [List.length_cons, List.length_nil, Nat.reduceAdd, Nat.reduceLeDiff, Nat.zero_le, ↓reduceIte, List.zipIdx_cons, List.zipIdx_nil, List.map_cons, List.map_nil])
      simp only [tmV, tmC, iV]
      simp only [zS, nilEq, wantedA, opA, eff, boxA, cells, ev, gt, pt, putO, updO, setO, okC, loadA, cutC, fieldAddrA, fieldA, indexAddrA, indexA, builtinA, callOpA, callV, target, ptrV, lenS, binA, intOp, strOp, unA, num, lk, over, allocA, pickA, buildA, fillA, convertA, extractA, ofComp, nilCheckA, makeFuncA, ptrs, ofValue, cellB, Nat.reduceAdd, Nat.reduceSub, Nat.reduceMul, Nat.reduceLT, Nat.reduceLeDiff, Nat.reduceGT, ↓reduceIte, Nat.reduceEqDiff, Nat.reduceBEq, reduceCtorEq, Int.reduceBEq, Int.reduceBNe, Int.reduceLT, Int.reduceLE, Int.reduceGT, Int.reduceGE, aggT_33, sizeT_33, bytesT_33, fieldT_33_0, fieldT_33_1, fieldT_33_2, fieldT_33_3, fieldT_33_4, placesT_33, zeroT_33, aggT_31, sizeT_31, bytesT_31, und_31, elemT_31, isSliceT_31, zero1_31, zeroT_31, aggT_3, sizeT_3, bytesT_3, und_3, zero1_3, zeroT_3, lenA_lD, ge_iff_le, a, b, o23, c]
      (refine Eq.trans ?_ rfl; kernel_rfl)
  by_cases o25 : x.op = 25
  · by_cases c : i = 1
    · subst c
      have e : binds x.op x.l.length 1 = 1 := by unfold binds; simp [a, b, o25]
      rw [e]
      (rw [run_eq]; simp only [stepA, hx, Tryz.func205, Tryz.f205, show retF 205 = false from rfl]; simp only [List.length_cons, List.length_nil, Nat.reduceAdd, Nat.reduceLeDiff, Nat.zero_le, ↓reduceIte, List.zipIdx_cons, List.zipIdx_nil, List.map_cons, List.map_nil])
      simp only [tmV, tmC, iV]
      simp only [zS, nilEq, wantedA, opA, eff, boxA, cells, ev, gt, pt, putO, updO, setO, okC, loadA, cutC, fieldAddrA, fieldA, indexAddrA, indexA, builtinA, callOpA, callV, target, ptrV, lenS, binA, intOp, strOp, unA, num, lk, over, allocA, pickA, buildA, fillA, convertA, extractA, ofComp, nilCheckA, makeFuncA, ptrs, ofValue, cellB, Nat.reduceAdd, Nat.reduceSub, Nat.reduceMul, Nat.reduceLT, Nat.reduceLeDiff, Nat.reduceGT, ↓reduceIte, Nat.reduceEqDiff, Nat.reduceBEq, reduceCtorEq, Int.reduceBEq, Int.reduceBNe, Int.reduceLT, Int.reduceLE, Int.reduceGT, Int.reduceGE, aggT_33, sizeT_33, bytesT_33, fieldT_33_0, fieldT_33_1, fieldT_33_2, fieldT_33_3, fieldT_33_4, placesT_33, zeroT_33, aggT_31, sizeT_31, bytesT_31, und_31, elemT_31, isSliceT_31, zero1_31, zeroT_31, aggT_3, sizeT_3, bytesT_3, und_3, zero1_3, zeroT_3, lenA_lD, ge_iff_le, a, b, o25]
      (refine Eq.trans ?_ rfl; kernel_rfl)
    by_cases d : i = 2
    · subst d
      have e : binds x.op x.l.length 2 = 1 := by unfold binds; simp [a, b, o25]
      rw [e]
      (rw [run_eq]; simp only [stepA, hx, Tryz.func205, Tryz.f205, show retF 205 = false from rfl]; simp only [List.length_cons, List.length_nil, Nat.reduceAdd, Nat.reduceLeDiff, Nat.zero_le, ↓reduceIte, List.zipIdx_cons, List.zipIdx_nil, List.map_cons, List.map_nil])
      simp only [tmV, tmC, iV]
      simp only [zS, nilEq, wantedA, opA, eff, boxA, cells, ev, gt, pt, putO, updO, setO, okC, loadA, cutC, fieldAddrA, fieldA, indexAddrA, indexA, builtinA, callOpA, callV, target, ptrV, lenS, binA, intOp, strOp, unA, num, lk, over, allocA, pickA, buildA, fillA, convertA, extractA, ofComp, nilCheckA, makeFuncA, ptrs, ofValue, cellB, Nat.reduceAdd, Nat.reduceSub, Nat.reduceMul, Nat.reduceLT, Nat.reduceLeDiff, Nat.reduceGT, ↓reduceIte, Nat.reduceEqDiff, Nat.reduceBEq, reduceCtorEq, Int.reduceBEq, Int.reduceBNe, Int.reduceLT, Int.reduceLE, Int.reduceGT, Int.reduceGE, aggT_33, sizeT_33, bytesT_33, fieldT_33_0, fieldT_33_1, fieldT_33_2, fieldT_33_3, fieldT_33_4, placesT_33, zeroT_33, aggT_31, sizeT_31, bytesT_31, und_31, elemT_31, isSliceT_31, zero1_31, zeroT_31, aggT_3, sizeT_3, bytesT_3, und_3, zero1_3, zeroT_3, lenA_lD, ge_iff_le, a, b, o25]
      (refine Eq.trans ?_ rfl; kernel_rfl)
    have e : binds x.op x.l.length i = 0 := by unfold binds; simp [a, b, o25, c, d]
    rw [e]
    (rw [run_eq]; simp only [stepA, hx, Tryz.func205, Tryz.f205, show retF 205 = false from rfl]; simp only [List.length_cons, List.length_nil, Nat.reduceAdd, Nat.reduceLeDiff, Nat.zero_le, ↓reduceIte, List.zipIdx_cons, List.zipIdx_nil, List.map_cons, List.map_nil])
    simp only [tmV, tmC, iV]
    simp only [zS, nilEq, wantedA, opA, eff, boxA, cells, ev, gt, pt, putO, updO, setO, okC, loadA, cutC, fieldAddrA, fieldA, indexAddrA, indexA, builtinA, callOpA, callV, target, ptrV, lenS, binA, intOp, strOp, unA, num, lk, over, allocA, pickA, buildA, fillA, convertA, extractA, ofComp, nilCheckA, makeFuncA, ptrs, ofValue, cellB, Nat.reduceAdd, Nat.reduceSub, Nat.reduceMul, Nat.reduceLT, Nat.reduceLeDiff, Nat.reduceGT, ↓reduceIte, Nat.reduceEqDiff, Nat.reduceBEq, reduceCtorEq, Int.reduceBEq, Int.reduceBNe, Int.reduceLT, Int.reduceLE, Int.reduceGT, Int.reduceGE, aggT_33, sizeT_33, bytesT_33, fieldT_33_0, fieldT_33_1, fieldT_33_2, fieldT_33_3, fieldT_33_4, placesT_33, zeroT_33, aggT_31, sizeT_31, bytesT_31, und_31, elemT_31, isSliceT_31, zero1_31, zeroT_31, aggT_3, sizeT_3, bytesT_3, und_3, zero1_3, zeroT_3, lenA_lD, ge_iff_le, a, b, o25, c, d]
    (refine Eq.trans ?_ rfl; kernel_rfl)
  by_cases o28 : x.op = 28
  · by_cases c : i = 0
    · subst c
      have e : binds x.op x.l.length 0 = 2 := by unfold binds; rw [if_neg (by omega)]; simp [o28]
      rw [e]
      (rw [run_eq]; simp only [stepA, hx, Tryz.func205, Tryz.f205, show retF 205 = false from rfl]; simp only [List.length_cons, List.length_nil, Nat.reduceAdd, Nat.reduceLeDiff, Nat.zero_le, ↓reduceIte, List.zipIdx_cons, List.zipIdx_nil, List.map_cons, List.map_nil])
      simp only [tmV, tmC, iV]
      simp only [zS, nilEq, wantedA, opA, eff, boxA, cells, ev, gt, pt, putO, updO, setO, okC, loadA, cutC, fieldAddrA, fieldA, indexAddrA, indexA, builtinA, callOpA, callV, target, ptrV, lenS, binA, intOp, strOp, unA, num, lk, over, allocA, pickA, buildA, fillA, convertA, extractA, ofComp, nilCheckA, makeFuncA, ptrs, ofValue, cellB, Nat.reduceAdd, Nat.reduceSub, Nat.reduceMul, Nat.reduceLT, Nat.reduceLeDiff, Nat.reduceGT, ↓reduceIte, Nat.reduceEqDiff, Nat.reduceBEq, reduceCtorEq, Int.reduceBEq, Int.reduceBNe, Int.reduceLT, Int.reduceLE, Int.reduceGT, Int.reduceGE, aggT_33, sizeT_33, bytesT_33, fieldT_33_0, fieldT_33_1, fieldT_33_2, fieldT_33_3, fieldT_33_4, placesT_33, zeroT_33, aggT_31, sizeT_31, bytesT_31, und_31, elemT_31, isSliceT_31, zero1_31, zeroT_31, aggT_3, sizeT_3, bytesT_3, und_3, zero1_3, zeroT_3, lenA_lD, ge_iff_le, a, b, o28]
      (refine Eq.trans ?_ rfl; kernel_rfl)
    by_cases d : i < wr ((x.l.length : Int) - 2)
    · have e : binds x.op x.l.length i = 3 := by unfold binds; simp [a, b, o28, c, d]
      rw [e]
      (rw [run_eq]; simp only [stepA, hx, Tryz.func205, Tryz.f205, show retF 205 = false from rfl]; simp only [List.length_cons, List.length_nil, Nat.reduceAdd, Nat.reduceLeDiff, Nat.zero_le, ↓reduceIte, List.zipIdx_cons, List.zipIdx_nil, List.map_cons, List.map_nil])
      simp only [tmV, tmC, iV]
      simp only [zS, nilEq, wantedA, opA, eff, boxA, cells, ev, gt, pt, putO, updO, setO, okC, loadA, cutC, fieldAddrA, fieldA, indexAddrA, indexA, builtinA, callOpA, callV, target, ptrV, lenS, binA, intOp, strOp, unA, num, lk, over, allocA, pickA, buildA, fillA, convertA, extractA, ofComp, nilCheckA, makeFuncA, ptrs, ofValue, cellB, Nat.reduceAdd, Nat.reduceSub, Nat.reduceMul, Nat.reduceLT, Nat.reduceLeDiff, Nat.reduceGT, ↓reduceIte, Nat.reduceEqDiff, Nat.reduceBEq, reduceCtorEq, Int.reduceBEq, Int.reduceBNe, Int.reduceLT, Int.reduceLE, Int.reduceGT, Int.reduceGE, aggT_33, sizeT_33, bytesT_33, fieldT_33_0, fieldT_33_1, fieldT_33_2, fieldT_33_3, fieldT_33_4, placesT_33, zeroT_33, aggT_31, sizeT_31, bytesT_31, und_31, elemT_31, isSliceT_31, zero1_31, zeroT_31, aggT_3, sizeT_3, bytesT_3, und_3, zero1_3, zeroT_3, lenA_lD, ge_iff_le, a, b, o28, c, d]
      (refine Eq.trans ?_ rfl; kernel_rfl)
    have e : binds x.op x.l.length i = 0 := by unfold binds; simp [a, b, o28, c, d]
    rw [e]
    (rw [run_eq]; simp only [stepA, hx, Tryz.func205, Tryz.f205, show retF 205 = false from rfl]; simp only [List.length_cons, List.length_nil, Nat.reduceAdd, Nat.reduceLeDiff, Nat.zero_le, ↓reduceIte, List.zipIdx_cons, List.zipIdx_nil, List.map_cons, List.map_nil])
    simp only [tmV, tmC, iV]
    simp only [zS, nilEq, wantedA, opA, eff, boxA, cells, ev, gt, pt, putO, updO, setO, okC, loadA, cutC, fieldAddrA, fieldA, indexAddrA, indexA, builtinA, callOpA, callV, target, ptrV, lenS, binA, intOp, strOp, unA, num, lk, over, allocA, pickA, buildA, fillA, convertA, extractA, ofComp, nilCheckA, makeFuncA, ptrs, ofValue, cellB, Nat.reduceAdd, Nat.reduceSub, Nat.reduceMul, Nat.reduceLT, Nat.reduceLeDiff, Nat.reduceGT, ↓reduceIte, Nat.reduceEqDiff, Nat.reduceBEq, reduceCtorEq, Int.reduceBEq, Int.reduceBNe, Int.reduceLT, Int.reduceLE, Int.reduceGT, Int.reduceGE, aggT_33, sizeT_33, bytesT_33, fieldT_33_0, fieldT_33_1, fieldT_33_2, fieldT_33_3, fieldT_33_4, placesT_33, zeroT_33, aggT_31, sizeT_31, bytesT_31, und_31, elemT_31, isSliceT_31, zero1_31, zeroT_31, aggT_3, sizeT_3, bytesT_3, und_3, zero1_3, zeroT_3, lenA_lD, ge_iff_le, a, b, o28, c, d]
    (refine Eq.trans ?_ rfl; kernel_rfl)
  have e : binds x.op x.l.length i = 0 := by unfold binds; simp [a, b, o5, o6, o8, o9, o20, o23, o25, o28]
  rw [e]
  (rw [run_eq]; simp only [stepA, hx, Tryz.func205, Tryz.f205, show retF 205 = false from rfl]; simp only [List.length_cons, List.length_nil, Nat.reduceAdd, Nat.reduceLeDiff, Nat.zero_le, ↓reduceIte, List.zipIdx_cons, List.zipIdx_nil, List.map_cons, List.map_nil])
  simp only [tmV, tmC, iV]
  simp only [zS, nilEq, wantedA, opA, eff, boxA, cells, ev, gt, pt, putO, updO, setO, okC, loadA, cutC, fieldAddrA, fieldA, indexAddrA, indexA, builtinA, callOpA, callV, target, ptrV, lenS, binA, intOp, strOp, unA, num, lk, over, allocA, pickA, buildA, fillA, convertA, extractA, ofComp, nilCheckA, makeFuncA, ptrs, ofValue, cellB, Nat.reduceAdd, Nat.reduceSub, Nat.reduceMul, Nat.reduceLT, Nat.reduceLeDiff, Nat.reduceGT, ↓reduceIte, Nat.reduceEqDiff, Nat.reduceBEq, reduceCtorEq, Int.reduceBEq, Int.reduceBNe, Int.reduceLT, Int.reduceLE, Int.reduceGT, Int.reduceGE, aggT_33, sizeT_33, bytesT_33, fieldT_33_0, fieldT_33_1, fieldT_33_2, fieldT_33_3, fieldT_33_4, placesT_33, zeroT_33, aggT_31, sizeT_31, bytesT_31, und_31, elemT_31, isSliceT_31, zero1_31, zeroT_31, aggT_3, sizeT_3, bytesT_3, und_3, zero1_3, zeroT_3, lenA_lD, ge_iff_le, a, b, o5, o6, o8, o9, o20, o23, o25, o28]
  (refine Eq.trans ?_ rfl; kernel_rfl)
theorem binds199 (hx : ext 199 = none) (x : Tm) (i : Int) : run Tryz.prog ext (.call 199 [tmV x, iV i] []) = some (.ret [iV (binds x.op x.l.length i)] []) := by
  by_cases a : i < 0
  · have e : binds x.op x.l.length i = 0 := by unfold binds; simp [a]
    rw [e]
    (rw [run_eq]; simp only [stepA, hx, Tryz.func199, Tryz.f199, show retF 199 = false from rfl]; simp only [List.length_cons, List.length_nil, Nat.reduceAdd, Nat.reduceLeDiff, Nat.zero_le, ↓reduceIte, List.zipIdx_cons, List.zipIdx_nil, List.map_cons, List.map_nil])
    simp only [tmV, tmC, iV]
    simp only [zS, nilEq, wantedA, opA, eff, boxA, cells, ev, gt, pt, putO, updO, setO, okC, loadA, cutC, fieldAddrA, fieldA, indexAddrA, indexA, builtinA, callOpA, callV, target, ptrV, lenS, binA, intOp, strOp, unA, num, lk, over, allocA, pickA, buildA, fillA, convertA, extractA, ofComp, nilCheckA, makeFuncA, ptrs, ofValue, cellB, Nat.reduceAdd, Nat.reduceSub, Nat.reduceMul, Nat.reduceLT, Nat.reduceLeDiff, Nat.reduceGT, ↓reduceIte, Nat.reduceEqDiff, Nat.reduceBEq, reduceCtorEq, Int.reduceBEq, Int.reduceBNe, Int.reduceLT, Int.reduceLE, Int.reduceGT, Int.reduceGE, aggT_33, sizeT_33, bytesT_33, fieldT_33_0, fieldT_33_1, fieldT_33_2, fieldT_33_3, fieldT_33_4, placesT_33, zeroT_33, aggT_31, sizeT_31, bytesT_31, und_31, elemT_31, isSliceT_31, zero1_31, zeroT_31, aggT_3, sizeT_3, bytesT_3, und_3, zero1_3, zeroT_3, lenA_lD, ge_iff_le, a]
    (refine Eq.trans ?_ rfl; kernel_rfl)
  by_cases b : (x.l.length : Int) ≤ i
  · have e : binds x.op x.l.length i = 0 := by unfold binds; simp [a, b]
    rw [e]
    (rw [run_eq]; simp only [stepA, hx, Tryz.func199, Tryz.f199, show retF 199 = false from rfl]; simp only [List.length_cons, List.length_nil, Nat.reduceAdd, Nat.reduceLeDiff, Nat.zero_le, ↓reduceIte, List.zipIdx_cons, List.zipIdx_nil, List.map_cons, List.map_nil])
    simp only [tmV, tmC, iV]
    simp only [zS, nilEq, wantedA, opA, eff, boxA, cells, ev, gt, pt, putO, updO, setO, okC, loadA, cutC, fieldAddrA, fieldA, indexAddrA, indexA, builtinA, callOpA, callV, target, ptrV, lenS, binA, intOp, strOp, unA, num, lk, over, allocA, pickA, buildA, fillA, convertA, extractA, ofComp, nilCheckA, makeFuncA, ptrs, ofValue, cellB, Nat.reduceAdd, Nat.reduceSub, Nat.reduceMul, Nat.reduceLT, Nat.reduceLeDiff, Nat.reduceGT, ↓reduceIte, Nat.reduceEqDiff, Nat.reduceBEq, reduceCtorEq, Int.reduceBEq, Int.reduceBNe, Int.reduceLT, Int.reduceLE, Int.reduceGT, Int.reduceGE, aggT_33, sizeT_33, bytesT_33, fieldT_33_0, fieldT_33_1, fieldT_33_2, fieldT_33_3, fieldT_33_4, placesT_33, zeroT_33, aggT_31, sizeT_31, bytesT_31, und_31, elemT_31, isSliceT_31, zero1_31, zeroT_31, aggT_3, sizeT_3, bytesT_3, und_3, zero1_3, zeroT_3, lenA_lD, ge_iff_le, a, b]
    (refine Eq.trans ?_ rfl; kernel_rfl)
  by_cases o5 : x.op = 5
  · by_cases c : i = 1
    · subst c
      have e : binds x.op x.l.length 1 = 1 := by unfold binds; simp [a, b, o5]
      rw [e]
      (rw [run_eq]; simp only [stepA, hx, Tryz.func199, Tryz.f199, show retF 199 = false from rfl]; simp only [List.length_cons, List.length_nil, Nat.reduceAdd, Nat.reduceLeDiff, Nat.zero_le, ↓reduceIte, List.zipIdx_cons, List.zipIdx_nil, List.map_cons, List.map_nil])
      simp only [tmV, tmC, iV]
      simp only [zS, nilEq, wantedA, opA, eff, boxA, cells, ev, gt, pt, putO, updO, setO, okC, loadA, cutC, fieldAddrA, fieldA, indexAddrA, indexA, builtinA, callOpA, callV, target, ptrV, lenS, binA, intOp, strOp, unA, num, lk, over, allocA, pickA, buildA, fillA, convertA, extractA, ofComp, nilCheckA, makeFuncA, ptrs, ofValue, cellB, Nat.reduceAdd, Nat.reduceSub, Nat.reduceMul, Nat.reduceLT, Nat.reduceLeDiff, Nat.reduceGT, ↓reduceIte, Nat.reduceEqDiff, Nat.reduceBEq, reduceCtorEq, Int.reduceBEq, Int.reduceBNe, Int.reduceLT, Int.reduceLE, Int.reduceGT, Int.reduceGE, aggT_33, sizeT_33, bytesT_33, fieldT_33_0, fieldT_33_1, fieldT_33_2, fieldT_33_3, fieldT_33_4, placesT_33, zeroT_33, aggT_31, sizeT_31, bytesT_31, und_31, elemT_31, isSliceT_31, zero1_31, zeroT_31, aggT_3, sizeT_3, bytesT_3, und_3, zero1_3, zeroT_3, lenA_lD, ge_iff_le, a, b, o5]
      (refine Eq.trans ?_ rfl; kernel_rfl)
    · have e : binds x.op x.l.length i = 0 := by unfold binds; simp [a, b, o5, c]
      rw [e]
      (rw [run_eq]; simp only [stepA, hx, Tryz.func199, Tryz.f199, show retF 199 = false from rfl]; simp only [List.length_cons, List.length_nil, Nat.reduceAdd, Nat.reduceLeDiff, Nat.zero_le, ↓reduceIte, List.zipIdx_cons, List.zipIdx_nil, List.map_cons, List.map_nil])
      simp only [tmV, tmC, iV]
      simp only [zS, nilEq, wantedA, opA, eff, boxA, cells, ev, gt, pt, putO, updO, setO, okC, loadA, cutC, fieldAddrA, fieldA, indexAddrA, indexA, builtinA, callOpA, callV, target, ptrV, lenS, binA, intOp, strOp, unA, num, lk, over, allocA, pickA, buildA, fillA, convertA, extractA, ofComp, nilCheckA, makeFuncA, ptrs, ofValue, cellB, Nat.reduceAdd, Nat.reduceSub, Nat.reduceMul, Nat.reduceLT, Nat.reduceLeDiff, Nat.reduceGT, ↓reduceIte, Nat.reduceEqDiff, Nat.reduceBEq, reduceCtorEq, Int.reduceBEq, Int.reduceBNe, Int.reduceLT, Int.reduceLE, Int.reduceGT, Int.reduceGE, aggT_33, sizeT_33, bytesT_33, fieldT_33_0, fieldT_33_1, fieldT_33_2, fieldT_33_3, fieldT_33_4, placesT_33, zeroT_33, aggT_31, sizeT_31, bytesT_31, und_31, elemT_31, isSliceT_31, zero1_31, zeroT_31, aggT_3, sizeT_3, bytesT_3, und_3, zero1_3, zeroT_3, lenA_lD, ge_iff_le, a, b, o5, c]
      (refine Eq.trans ?_ rfl; kernel_rfl)
  by_cases o6 : x.op = 6
  · by_cases c : i = 1
    · subst c
      have e : binds x.op x.l.length 1 = 1 := by unfold binds; simp [a, b, o6]
      rw [e]
      (rw [run_eq]; simp only [stepA, hx, Tryz.func199, Tryz.f199, show retF 199 = false from rfl]; simp only [List.length_cons, List.length_nil, Nat.reduceAdd, Nat.reduceLeDiff, Nat.zero_le, ↓reduceIte, List.zipIdx_cons, List.zipIdx_nil, List.map_cons, List.map_nil])
      simp only [tmV, tmC, iV]
      simp only [zS, nilEq, wantedA, opA, eff, boxA, cells, ev, gt, pt, putO, updO, setO, okC, loadA, cutC, fieldAddrA, fieldA, indexAddrA, indexA, builtinA, callOpA, callV, target, ptrV, lenS, binA, intOp, strOp, unA, num, lk, over, allocA, pickA, buildA, fillA, convertA, extractA, ofComp, nilCheckA, makeFuncA, ptrs, ofValue, cellB, Nat.reduceAdd, Nat.reduceSub, Nat.reduceMul, Nat.reduceLT, Nat.reduceLeDiff, Nat.reduceGT, ↓reduceIte, Nat.reduceEqDiff, Nat.reduceBEq, reduceCtorEq, Int.reduceBEq, Int.reduceBNe, Int.reduceLT, Int.reduceLE, Int.reduceGT, Int.reduceGE, aggT_33, sizeT_33, bytesT_33, fieldT_33_0, fieldT_33_1, fieldT_33_2, fieldT_33_3, fieldT_33_4, placesT_33, zeroT_33, aggT_31, sizeT_31, bytesT_31, und_31, elemT_31, isSliceT_31, zero1_31, zeroT_31, aggT_3, sizeT_3, bytesT_3, und_3, zero1_3, zeroT_3, lenA_lD, ge_iff_le, a, b, o6]
      (refine Eq.trans ?_ rfl; kernel_rfl)
    · have e : binds x.op x.l.length i = 0 := by unfold binds; simp [a, b, o6, c]
      rw [e]
      (rw [run_eq]; simp only [stepA, hx, Tryz.func199, Tryz.f199, show retF 199 = false from rfl]; simp only [List.length_cons, List.length_nil, Nat.reduceAdd, Nat.reduceLeDiff, Nat.zero_le, ↓reduceIte, List.zipIdx_cons, List.zipIdx_nil, List.map_cons, List.map_nil])
      simp only [tmV, tmC, iV]
      simp only [zS, nilEq, wantedA, opA, eff, boxA, cells, ev, gt, pt, putO, updO, setO, okC, loadA, cutC, fieldAddrA, fieldA, indexAddrA, indexA, builtinA, callOpA, callV, target, ptrV, lenS, binA, intOp, strOp, unA, num, lk, over, allocA, pickA, buildA, fillA, convertA, extractA, ofComp, nilCheckA, makeFuncA, ptrs, ofValue, cellB, Nat.reduceAdd, Nat.reduceSub, Nat.reduceMul, Nat.reduceLT, Nat.reduceLeDiff, Nat.reduceGT, ↓reduceIte, Nat.reduceEqDiff, Nat.reduceBEq, reduceCtorEq, Int.reduceBEq, Int.reduceBNe, Int.reduceLT, Int.reduceLE, Int.reduceGT, Int.reduceGE, aggT_33, sizeT_33, bytesT_33, fieldT_33_0, fieldT_33_1, fieldT_33_2, fieldT_33_3, fieldT_33_4, placesT_33, zeroT_33, aggT_31, sizeT_31, bytesT_31, und_31, elemT_31, isSliceT_31, zero1_31, zeroT_31, aggT_3, sizeT_3, bytesT_3, und_3, zero1_3, zeroT_3, lenA_lD, ge_iff_le, a, b, o6, c]
      (refine Eq.trans ?_ rfl; kernel_rfl)
  by_cases o8 : x.op = 8
  · by_cases c : i = 1
    · subst c
      have e : binds x.op x.l.length 1 = 1 := by unfold binds; simp [a, b, o8]
      rw [e]
      (rw [run_eq]; simp only [stepA, hx, Tryz.func199, Tryz.f199, show retF 199 = false from rfl]; simp only [List.length_cons, List.length_nil, Nat.reduceAdd, Nat.reduceLeDiff, Nat.zero_le, ↓reduceIte, List.zipIdx_cons, List.zipIdx_nil, List.map_cons, List.map_nil])
      simp only [tmV, tmC, iV]
      simp only [zS, nilEq, wantedA, opA, eff, boxA, cells, ev, gt, pt, putO, updO, setO, okC, loadA, cutC, fieldAddrA, fieldA, indexAddrA, indexA, builtinA, callOpA, callV, target, ptrV, lenS, binA, intOp, strOp, unA, num, lk, over, allocA, pickA, buildA, fillA, convertA, extractA, ofComp, nilCheckA, makeFuncA, ptrs, ofValue, cellB, Nat.reduceAdd, Nat.reduceSub, Nat.reduceMul, Nat.reduceLT, Nat.reduceLeDiff, Nat.reduceGT, ↓reduceIte, Nat.reduceEqDiff, Nat.reduceBEq, reduceCtorEq, Int.reduceBEq, Int.reduceBNe, Int.reduceLT, Int.reduceLE, Int.reduceGT, Int.reduceGE, aggT_33, sizeT_33, bytesT_33, fieldT_33_0, fieldT_33_1, fieldT_33_2, fieldT_33_3, fieldT_33_4, placesT_33, zeroT_33, aggT_31, sizeT_31, bytesT_31, und_31, elemT_31, isSliceT_31, zero1_31, zeroT_31, aggT_3, sizeT_3, bytesT_3, und_3, zero1_3, zeroT_3, lenA_lD, ge_iff_le, a, b, o8]
      (refine Eq.trans ?_ rfl; kernel_rfl)
    · have e : binds x.op x.l.length i = 0 := by unfold binds; simp [a, b, o8, c]
      rw [e]
      (rw [run_eq]; simp only [stepA, hx, Tryz.func199, Tryz.f199, show retF 199 = false from rfl]; simp only [List.length_cons, List.length_nil, Nat.reduceAdd, Nat.reduceLeDiff, Nat.zero_le, ↓reduceIte, List.zipIdx_cons, List.zipIdx_nil, List.map_cons, List.map_nil])
      simp only [tmV, tmC, iV]
      simp only [zS, nilEq, wantedA, opA, eff, boxA, cells, ev, gt, pt, putO, updO, setO, okC, loadA, cutC, fieldAddrA, fieldA, indexAddrA, indexA, builtinA, callOpA, callV, target, ptrV, lenS, binA, intOp, strOp, unA, num, lk, over, allocA, pickA, buildA, fillA, convertA, extractA, ofComp, nilCheckA, makeFuncA, ptrs, ofValue, cellB, Nat.reduceAdd, Nat.reduceSub, Nat.reduceMul, Nat.reduceLT, Nat.reduceLeDiff, Nat.reduceGT, ↓reduceIte, Nat.reduceEqDiff, Nat.reduceBEq, reduceCtorEq, Int.reduceBEq, Int.reduceBNe, Int.reduceLT, Int.reduceLE, Int.reduceGT, Int.reduceGE, aggT_33, sizeT_33, bytesT_33, fieldT_33_0, fieldT_33_1, fieldT_33_2, fieldT_33_3, fieldT_33_4, placesT_33, zeroT_33, aggT_31, sizeT_31, bytesT_31, und_31, elemT_31, isSliceT_31, zero1_31, zeroT_31, aggT_3, sizeT_3, bytesT_3, und_3, zero1_3, zeroT_3, lenA_lD, ge_iff_le, a, b, o8, c]
      (refine Eq.trans ?_ rfl; kernel_rfl)
  by_cases o9 : x.op = 9
  · by_cases c : i = 1
    · subst c
      have e : binds x.op x.l.length 1 = 1 := by unfold binds; simp [a, b, o9]
      rw [e]
      (rw [run_eq]; simp only [stepA, hx, Tryz.func199, Tryz.f199, show retF 199 = false from rfl]; simp only [List.length_cons, List.length_nil, Nat.reduceAdd, Nat.reduceLeDiff, Nat.zero_le, ↓reduceIte, List.zipIdx_cons, List.zipIdx_nil, List.map_cons, List.map_nil])
      simp only [tmV, tmC, iV]
      simp only [zS, nilEq, wantedA, opA, eff, boxA, cells, ev, gt, pt, putO, updO, setO, okC, loadA, cutC, fieldAddrA, fieldA, indexAddrA, indexA, builtinA, callOpA, callV, target, ptrV, lenS, binA, intOp, strOp, unA, num, lk, over, allocA, pickA, buildA, fillA, convertA, extractA, ofComp, nilCheckA, makeFuncA, ptrs, ofValue, cellB, Nat.reduceAdd, Nat.reduceSub, Nat.reduceMul, Nat.reduceLT, Nat.reduceLeDiff, Nat.reduceGT, ↓reduceIte, Nat.reduceEqDiff, Nat.reduceBEq, reduceCtorEq, Int.reduceBEq, Int.reduceBNe, Int.reduceLT, Int.reduceLE, Int.reduceGT, Int.reduceGE, aggT_33, sizeT_33, bytesT_33, fieldT_33_0, fieldT_33_1, fieldT_33_2, fieldT_33_3, fieldT_33_4, placesT_33, zeroT_33, aggT_31, sizeT_31, bytesT_31, und_31, elemT_31, isSliceT_31, zero1_31, zeroT_31, aggT_3, sizeT_3, bytesT_3, und_3, zero1_3, zeroT_3, lenA_lD, ge_iff_le, a, b, o9]
      (refine Eq.trans ?_ rfl; kernel_rfl)
    · have e : binds x.op x.l.length i = 0 := by unfold binds; simp [a, b, o9, c]
      rw [e]
      (rw [run_eq]; simp only [stepA, hx, Tryz.func199, Tryz.f199, show retF 199 = false from rfl]; simp only [List.length_cons, List.length_nil, Nat.reduceAdd, Nat.reduceLeDiff, Nat.zero_le, ↓reduceIte, List.zipIdx_cons, List.zipIdx_nil, List.map_cons, List.map_nil])
      simp only [tmV, tmC, iV]
      simp only [zS, nilEq, wantedA, opA, eff, boxA, cells, ev, gt, pt, putO, updO, setO, okC, loadA, cutC, fieldAddrA, fieldA, indexAddrA, indexA, builtinA, callOpA, callV, target, ptrV, lenS, binA, intOp, strOp, unA, num, lk, over, allocA, pickA, buildA, fillA, convertA, extractA, ofComp, nilCheckA, makeFuncA, ptrs, ofValue, cellB, Nat.reduceAdd, Nat.reduceSub, Nat.reduceMul, Nat.reduceLT, Nat.reduceLeDiff, Nat.reduceGT, ↓reduceIte, Nat.reduceEqDiff, Nat.reduceBEq, reduceCtorEq, Int.reduceBEq, Int.reduceBNe, Int.reduceLT, Int.reduceLE, Int.reduceGT, Int.reduceGE, aggT_33, sizeT_33, bytesT_33, fieldT_33_0, fieldT_33_1, fieldT_33_2, fieldT_33_3, fieldT_33_4, placesT_33, zeroT_33, aggT_31, sizeT_31, bytesT_31, und_31, elemT_31, isSliceT_31, zero1_31, zeroT_31, aggT_3, sizeT_3, bytesT_3, und_3, zero1_3, zeroT_3, lenA_lD, ge_iff_le, a, b, o9, c]
      (refine Eq.trans ?_ rfl; kernel_rfl)
  by_cases o20 : x.op = 20
  · by_cases c : i = 1
    · subst c
      have e : binds x.op x.l.length 1 = 1 := by unfold binds; simp [a, b, o20]
      rw [e]
      (rw [run_eq]; simp only [stepA, hx, Tryz.func199, Tryz.f199, show retF 199 = false from rfl]; simp only [List.length_cons, List.length_nil, Nat.reduceAdd, Nat.reduceLeDiff, Nat.zero_le, ↓reduceIte, List.zipIdx_cons, List.zipIdx_nil, List.map_cons, List.map_nil])
      simp only [tmV, tmC, iV]
      simp only [zS, nilEq, wantedA, opA, eff, boxA, cells, ev, gt, pt, putO, updO, setO, okC, loadA, cutC, fieldAddrA, fieldA, indexAddrA, indexA, builtinA, callOpA, callV, target, ptrV, lenS, binA, intOp, strOp, unA, num, lk, over, allocA, pickA, buildA, fillA, convertA, extractA, ofComp, nilCheckA, makeFuncA, ptrs, ofValue, cellB, Nat.reduceAdd, Nat.reduceSub, Nat.reduceMul, Nat.reduceLT, Nat.reduceLeDiff, Nat.reduceGT, ↓reduceIte, Nat.reduceEqDiff, Nat.reduceBEq, reduceCtorEq, Int.reduceBEq, Int.reduceBNe, Int.reduceLT, Int.reduceLE, Int.reduceGT, Int.reduceGE, aggT_33, sizeT_33, bytesT_33, fieldT_33_0, fieldT_33_1, fieldT_33_2, fieldT_33_3, fieldT_33_4, placesT_33, zeroT_33, aggT_31, sizeT_31, bytesT_31, und_31, elemT_31, isSliceT_31, zero1_31, zeroT_31, aggT_3, sizeT_3, bytesT_3, und_3, zero1_3, zeroT_3, lenA_lD, ge_iff_le, a, b, o20]
      (refine Eq.trans ?_ rfl; kernel_rfl)
    · have e : binds x.op x.l.length i = 0 := by unfold binds; simp [a, b, o20, c]
      rw [e]
      (rw [run_eq]; simp only [stepA, hx, Tryz.func199, Tryz.f199, show retF 199 = false from rfl]; simp only [List.length_cons, List.length_nil, Nat.reduceAdd, Nat.reduceLeDiff, Nat.zero_le, ↓reduceIte, List.zipIdx_cons, List.zipIdx_nil, List.map_cons, List.map_nil])
      simp only [tmV, tmC, iV]
      simp only [zS, nilEq, wantedA, opA, eff, boxA, cells, ev, gt, pt, putO, updO, setO, okC, loadA, cutC, fieldAddrA, fieldA, indexAddrA, indexA, builtinA, callOpA, callV, target, ptrV, lenS, binA, intOp, strOp, unA, num, lk, over, allocA, pickA, buildA, fillA, convertA, extractA, ofComp, nilCheckA, makeFuncA, ptrs, ofValue, cellB, Nat.reduceAdd, Nat.reduceSub, Nat.reduceMul, Nat.reduceLT, Nat.reduceLeDiff, Nat.reduceGT, ↓reduceIte, Nat.reduceEqDiff, Nat.reduceBEq, reduceCtorEq, Int.reduceBEq, Int.reduceBNe, Int.reduceLT, Int.reduceLE, Int.reduceGT, Int.reduceGE, aggT_33, sizeT_33, bytesT_33, fieldT_33_0, fieldT_33_1, fieldT_33_2, fieldT_33_3, fieldT_33_4, placesT_33, zeroT_33, aggT_31, sizeT_31, bytesT_31, und_31, elemT_31, isSliceT_31, zero1_31, zeroT_31, aggT_3, sizeT_3, bytesT_3, und_3, zero1_3, zeroT_3, lenA_lD, ge_iff_le, a, b, o20, c]
      (refine Eq.trans ?_ rfl; kernel_rfl)
  by_cases o23 : x.op = 23
  · by_cases c : i = 1
    · subst c
      have e : binds x.op x.l.length 1 = 2 := by unfold binds; simp [a, b, o23]
      rw [e]
      (rw [run_eq]; simp only [stepA, hx, Tryz.func199, Tryz.f199, show retF 199 = false from rfl]; simp only [List.length_cons, List.length_nil, Nat.reduceAdd, Nat.reduceLeDiff, Nat.zero_le, ↓reduceIte, List.zipIdx_cons, List.zipIdx_nil, List.map_cons, List.map_nil])
      simp only [tmV, tmC, iV]
      simp only [zS, nilEq, wantedA, opA, eff, boxA, cells, ev, gt, pt, putO, updO, setO, okC, loadA, cutC, fieldAddrA, fieldA, indexAddrA, indexA, builtinA, callOpA, callV, target, ptrV, lenS, binA, intOp, strOp, unA, num, lk, over, allocA, pickA, buildA, fillA, convertA, extractA, ofComp, nilCheckA, makeFuncA, ptrs, ofValue, cellB, Nat.reduceAdd, Nat.reduceSub, Nat.reduceMul, Nat.reduceLT, Nat.reduceLeDiff, Nat.reduceGT, ↓reduceIte, Nat.reduceEqDiff, Nat.reduceBEq, reduceCtorEq, Int.reduceBEq, Int.reduceBNe, Int.reduceLT, Int.reduceLE, Int.reduceGT, Int.reduceGE, aggT_33, sizeT_33, bytesT_33, fieldT_33_0, fieldT_33_1, fieldT_33_2, fieldT_33_3, fieldT_33_4, placesT_33, zeroT_33, aggT_31, sizeT_31, bytesT_31, und_31, elemT_31, isSliceT_31, zero1_31, zeroT_31, aggT_3, sizeT_3, bytesT_3, und_3, zero1_3, zeroT_3, lenA_lD, ge_iff_le, a, b, o23]
      (refine Eq.trans ?_ rfl; kernel_rfl)
    · have e : binds x.op x.l.length i = 0 := by unfold binds; simp [a, b, o23, c]
      rw [e]
      (rw [run_eq]; simp only [stepA, hx, Tryz.func199, Tryz.f199, show retF 199 = false from rfl]; simp only [List.length_cons, List.length_nil, Nat.reduceAdd, Nat.reduceLeDiff, Nat.zero_le, ↓reduceIte, List.zipIdx_cons, List.zipIdx_nil, List.map_cons, List.map_nil])
      simp only [tmV, tmC, iV]
      simp only [zS, nilEq, wantedA, opA, eff, boxA, cells, ev, gt, pt, putO, updO, setO, okC, loadA, cutC, fieldAddrA, fieldA, indexAddrA, indexA, builtinA, callOpA, callV, target, ptrV, lenS, binA, intOp, strOp, unA, num, lk, over, allocA, pickA, buildA, fillA, convertA, extractA, ofComp, nilCheckA, makeFuncA, ptrs, ofValue, cellB, Nat.reduceAdd, Nat.reduceSub, Nat.reduceMul, Nat.reduceLT, Nat.reduceLeDiff, Nat.reduceGT, ↓reduceIte, Nat.reduceEqDiff, Nat.reduceBEq, reduceCtorEq, Int.reduceBEq, Int.reduceBNe, Int.reduceLT, Int.reduceLE, Int.reduceGT, Int.reduceGE, aggT_33, sizeT_33, bytesT_33, fieldT_33_0, fieldT_33_1, fieldT_33_2, fieldT_33_3, fieldT_33_4, placesT_33, zeroT_33, aggT_31, sizeT_31, bytesT_31, und_31, elemT_31, isSliceT_31, zero1_31, zeroT_31, aggT_3, sizeT_3, bytesT_3, und_3, zero1_3, zeroT_3, lenA_lD, ge_iff_le, a, b, o23, c]
      (refine Eq.trans ?_ rfl; kernel_rfl)
  by_cases o25 : x.op = 25
  · by_cases c : i = 1
    · subst c
      have e : binds x.op x.l.length 1 = 1 := by unfold binds; simp [a, b, o25]
      rw [e]
      (rw [run_eq]; simp only [stepA, hx, Tryz.func199, Tryz.f199, show retF 199 = false from rfl]; simp only [List.length_cons, List.length_nil, Nat.reduceAdd, Nat.reduceLeDiff, Nat.zero_le, ↓reduceIte, List.zipIdx_cons, List.zipIdx_nil, List.map_cons, List.map_nil])
      simp only [tmV, tmC, iV]
      simp only [zS, nilEq, wantedA, opA, eff, boxA, cells, ev, gt, pt, putO, updO, setO, okC, loadA, cutC, fieldAddrA, fieldA, indexAddrA, indexA, builtinA, callOpA, callV, target, ptrV, lenS, binA, intOp, strOp, unA, num, lk, over, allocA, pickA, buildA, fillA, convertA, extractA, ofComp, nilCheckA, makeFuncA, ptrs, ofValue, cellB, Nat.reduceAdd, Nat.reduceSub, Nat.reduceMul, Nat.reduceLT, Nat.reduceLeDiff, Nat.reduceGT, ↓reduceIte, Nat.reduceEqDiff, Nat.reduceBEq, reduceCtorEq, Int.reduceBEq, Int.reduceBNe, Int.reduceLT, Int.reduceLE, Int.reduceGT, Int.reduceGE, aggT_33, sizeT_33, bytesT_33, fieldT_33_0, fieldT_33_1, fieldT_33_2, fieldT_33_3, fieldT_33_4, placesT_33, zeroT_33, aggT_31, sizeT_31, bytesT_31, und_31, elemT_31, isSliceT_31, zero1_31, zeroT_31, aggT_3, sizeT_3, bytesT_3, und_3, zero1_3, zeroT_3, lenA_lD, ge_iff_le, a, b, o25]
      (refine Eq.trans ?_ rfl; kernel_rfl)
    by_cases d : i = 2
    · subst d
      have e : binds x.op x.l.length 2 = 1 := by unfold binds; simp [a, b, o25]
      rw [e]
      (rw [run_eq]; simp only [stepA, hx, Tryz.func199, Tryz.f199, show retF 199 = false from rfl]; simp only [List.length_cons, List.length_nil, Nat.reduceAdd, Nat.reduceLeDiff, Nat.zero_le, ↓reduceIte, List.zipIdx_cons, List.zipIdx_nil, List.map_cons, List.map_nil])
      simp only [tmV, tmC, iV]
      simp only [zS, nilEq, wantedA, opA, eff, boxA, cells, ev, gt, pt, putO, updO, setO, okC, loadA, cutC, fieldAddrA, fieldA, indexAddrA, indexA, builtinA, callOpA, callV, target, ptrV, lenS, binA, intOp, strOp, unA, num, lk, over, allocA, pickA, buildA, fillA, convertA, extractA, ofComp, nilCheckA, makeFuncA, ptrs, ofValue, cellB, Nat.reduceAdd, Nat.reduceSub, Nat.reduceMul, Nat.reduceLT, Nat.reduceLeDiff, Nat.reduceGT, ↓reduceIte, Nat.reduceEqDiff, Nat.reduceBEq, reduceCtorEq, Int.reduceBEq, Int.reduceBNe, Int.reduceLT, Int.reduceLE, Int.reduceGT, Int.reduceGE, aggT_33, sizeT_33, bytesT_33, fieldT_33_0, fieldT_33_1, fieldT_33_2, fieldT_33_3, fieldT_33_4, placesT_33, zeroT_33, aggT_31, sizeT_31, bytesT_31, und_31, elemT_31, isSliceT_31, zero1_31, zeroT_31, aggT_3, sizeT_3, bytesT_3, und_3, zero1_3, zeroT_3, lenA_lD, ge_iff_le, a, b, o25]
      (refine Eq.trans ?_ rfl; kernel_rfl)
    have e : binds x.op x.l.length i = 0 := by unfold binds; simp [a, b, o25, c, d]
    rw [e]
    (rw [run_eq]; simp only [stepA, hx, Tryz.func199, Tryz.f199, show retF 199 = false from rfl]; simp only [List.length_cons, List.length_nil, Nat.reduceAdd, Nat.reduceLeDiff, Nat.zero_le, ↓reduceIte, List.zipIdx_cons, List.zipIdx_nil, List.map_cons, List.map_nil])
    simp only [tmV, tmC, iV]
    simp only [zS, nilEq, wantedA, opA, eff, boxA, cells, ev, gt, pt, putO, updO, setO, okC, loadA, cutC, fieldAddrA, fieldA, indexAddrA, indexA, builtinA, callOpA, callV, target, ptrV, lenS, binA, intOp, strOp, unA, num, lk, over, allocA, pickA, buildA, fillA, convertA, extractA, ofComp, nilCheckA, makeFuncA, ptrs, ofValue, cellB, Nat.reduceAdd, Nat.reduceSub, Nat.reduceMul, Nat.reduceLT, Nat.reduceLeDiff, Nat.reduceGT, ↓reduceIte, Nat.reduceEqDiff, Nat.reduceBEq, reduceCtorEq, Int.reduceBEq, Int.reduceBNe, Int.reduceLT, Int.reduceLE, Int.reduceGT, Int.reduceGE, aggT_33, sizeT_33, bytesT_33, fieldT_33_0, fieldT_33_1, fieldT_33_2, fieldT_33_3, fieldT_33_4, placesT_33, zeroT_33, aggT_31, sizeT_31, bytesT_31, und_31, elemT_31, isSliceT_31, zero1_31, zeroT_31, aggT_3, sizeT_3, bytesT_3, und_3, zero1_3, zeroT_3, lenA_lD, ge_iff_le, a, b, o25, c, d]
    (refine Eq.trans ?_ rfl; kernel_rfl)
  by_cases o28 : x.op = 28
  · by_cases c : i = 0
    · subst c
      have e : binds x.op x.l.length 0 = 2 := by unfold binds; rw [if_neg (by omega)]; simp [o28]
      rw [e]
      (rw [run_eq]; simp only [stepA, hx, Tryz.func199, Tryz.f199, show retF 199 = false from rfl]; simp only [List.length_cons, List.length_nil, Nat.reduceAdd, Nat.reduceLeDiff, Nat.zero_le, ↓reduceIte, List.zipIdx_cons, List.zipIdx_nil, List.map_cons, List.map_nil])
      simp only [tmV, tmC, iV]
      simp only [zS, nilEq, wantedA, opA, eff, boxA, cells, ev, gt, pt, putO, updO, setO, okC, loadA, cutC, fieldAddrA, fieldA, indexAddrA, indexA, builtinA, callOpA, callV, target, ptrV, lenS, binA, intOp, strOp, unA, num, lk, over, allocA, pickA, buildA, fillA, convertA, extractA, ofComp, nilCheckA, makeFuncA, ptrs, ofValue, cellB, Nat.reduceAdd, Nat.reduceSub, Nat.reduceMul, Nat.reduceLT, Nat.reduceLeDiff, Nat.reduceGT, ↓reduceIte, Nat.reduceEqDiff, Nat.reduceBEq, reduceCtorEq, Int.reduceBEq, Int.reduceBNe, Int.reduceLT, Int.reduceLE, Int.reduceGT, Int.reduceGE, aggT_33, sizeT_33, bytesT_33, fieldT_33_0, fieldT_33_1, fieldT_33_2, fieldT_33_3, fieldT_33_4, placesT_33, zeroT_33, aggT_31, sizeT_31, bytesT_31, und_31, elemT_31, isSliceT_31, zero1_31, zeroT_31, aggT_3, sizeT_3, bytesT_3, und_3, zero1_3, zeroT_3, lenA_lD, ge_iff_le, a, b, o28]
      (refine Eq.trans ?_ rfl; kernel_rfl)
    by_cases d : i < wr ((x.l.length : Int) - 2)
    · have e : binds x.op x.l.length i = 3 := by unfold binds; simp [a, b, o28, c, d]
      rw [e]
      (rw [run_eq]; simp only [stepA, hx, Tryz.func199, Tryz.f199, show retF 199 = false from rfl]; simp only [List.length_cons, List.length_nil, Nat.reduceAdd, Nat.reduceLeDiff, Nat.zero_le, ↓reduceIte, List.zipIdx_cons, List.zipIdx_nil, List.map_cons, List.map_nil])
      simp only [tmV, tmC, iV]
      simp only [zS, nilEq, wantedA, opA, eff, boxA, cells, ev, gt, pt, putO, updO, setO, okC, loadA, cutC, fieldAddrA, fieldA, indexAddrA, indexA, builtinA, callOpA, callV, target, ptrV, lenS, binA, intOp, strOp, unA, num, lk, over, allocA, pickA, buildA, fillA, convertA, extractA, ofComp, nilCheckA, makeFuncA, ptrs, ofValue, cellB, Nat.reduceAdd, Nat.reduceSub, Nat.reduceMul, Nat.reduceLT, Nat.reduceLeDiff, Nat.reduceGT, ↓reduceIte, Nat.reduceEqDiff, Nat.reduceBEq, reduceCtorEq, Int.reduceBEq, Int.reduceBNe, Int.reduceLT, Int.reduceLE, Int.reduceGT, Int.reduceGE, aggT_33, sizeT_33, bytesT_33, fieldT_33_0, fieldT_33_1, fieldT_33_2, fieldT_33_3, fieldT_33_4, placesT_33, zeroT_33, aggT_31, sizeT_31, bytesT_31, und_31, elemT_31, isSliceT_31, zero1_31, zeroT_31, aggT_3, sizeT_3, bytesT_3, und_3, zero1_3, zeroT_3, lenA_lD, ge_iff_le, a, b, o28, c, d]
      (refine Eq.trans ?_ rfl; kernel_rfl)
    have e : binds x.op x.l.length i = 0 := by unfold binds; simp [a, b, o28, c, d]
    rw [e]
    (rw [run_eq]; simp only [stepA, hx, Tryz.func199, Tryz.f199, show retF 199 = false from rfl]; simp only [List.length_cons, List.length_nil, Nat.reduceAdd, Nat.reduceLeDiff, Nat.zero_le, ↓reduceIte, List.zipIdx_cons, List.zipIdx_nil, List.map_cons, List.map_nil])
    simp only [tmV, tmC, iV]
    simp only [zS, nilEq, wantedA, opA, eff, boxA, cells, ev, gt, pt, putO, updO, setO, okC, loadA, cutC, fieldAddrA, fieldA, indexAddrA, indexA, builtinA, callOpA, callV, target, ptrV, lenS, binA, intOp, strOp, unA, num, lk, over, allocA, pickA, buildA, fillA, convertA, extractA, ofComp, nilCheckA, makeFuncA, ptrs, ofValue, cellB, Nat.reduceAdd, Nat.reduceSub, Nat.reduceMul, Nat.reduceLT, Nat.reduceLeDiff, Nat.reduceGT, ↓reduceIte, Nat.reduceEqDiff, Nat.reduceBEq, reduceCtorEq, Int.reduceBEq, Int.reduceBNe, Int.reduceLT, Int.reduceLE, Int.reduceGT, Int.reduceGE, aggT_33, sizeT_33, bytesT_33, fieldT_33_0, fieldT_33_1, fieldT_33_2, fieldT_33_3, fieldT_33_4, placesT_33, zeroT_33, aggT_31, sizeT_31, bytesT_31, und_31, elemT_31, isSliceT_31, zero1_31, zeroT_31, aggT_3, sizeT_3, bytesT_3, und_3, zero1_3, zeroT_3, lenA_lD, ge_iff_le, a, b, o28, c, d]
    (refine Eq.trans ?_ rfl; kernel_rfl)
  have e : binds x.op x.l.length i = 0 := by unfold binds; simp [a, b, o5, o6, o8, o9, o20, o23, o25, o28]
  rw [e]
  (rw [run_eq]; simp only [stepA, hx, Tryz.func199, Tryz.f199, show retF 199 = false from rfl]; simp only [List.length_cons, List.length_nil, Nat.reduceAdd, Nat.reduceLeDiff, Nat.zero_le, ↓reduceIte, List.zipIdx_cons, List.zipIdx_nil, List.map_cons, List.map_nil])
  simp only [tmV, tmC, iV]
  simp only [zS, nilEq, wantedA, opA, eff, boxA, cells, ev, gt, pt, putO, updO, setO, okC, loadA, cutC, fieldAddrA, fieldA, indexAddrA, indexA, builtinA, callOpA, callV, target, ptrV, lenS, binA, intOp, strOp, unA, num, lk, over, allocA, pickA, buildA, fillA, convertA, extractA, ofComp, nilCheckA, makeFuncA, ptrs, ofValue, cellB, Nat.reduceAdd, Nat.reduceSub, Nat.reduceMul, Nat.reduceLT, Nat.reduceLeDiff, Nat.reduceGT, ↓reduceIte, Nat.reduceEqDiff, Nat.reduceBEq, reduceCtorEq, Int.reduceBEq, Int.reduceBNe, Int.reduceLT, Int.reduceLE, Int.reduceGT, Int.reduceGE, aggT_33, sizeT_33, bytesT_33, fieldT_33_0, fieldT_33_1, fieldT_33_2, fieldT_33_3, fieldT_33_4, placesT_33, zeroT_33, aggT_31, sizeT_31, bytesT_31, und_31, elemT_31, isSliceT_31, zero1_31, zeroT_31, aggT_3, sizeT_3, bytesT_3, und_3, zero1_3, zeroT_3, lenA_lD, ge_iff_le, a, b, o5, o6, o8, o9, o20, o23, o25, o28]
  (refine Eq.trans ?_ rfl; kernel_rfl)
end Go.Proofs.YteenjodhmppgjaaGreatDoor.Am
end
section
/- The reference's shift. -/
namespace Go.Proofs.YteenjodhmppgjaaGreatDoor.Am
open Go
variable (ext : Ext)
set_option maxHeartbeats 8000000
set_option maxRecDepth 4000
noncomputable def B242 : Code := (Tryz.f242.body.getD .skip)
noncomputable def L242a : Code := sub B242 [1, 1, 1, 0, 1, 0, 0]
noncomputable def K242a : List It := [.inBlock 0, .code (sub B242 [1, 1, 1, 1])]
noncomputable def H242a (ext : Ext) (m : Nat) (env : Env) (loc : List O) : Option Out := run Tryz.prog ext (.k ⟨71, m, [.cell 8 33, .tmp 9], false⟩ (.code L242a :: .inLoop L242a :: K242a) env loc)
def shV (frm : Int) (x : Tm) (d : Int) : Bool := isVar x && decide (wr (frm + d) ≤ x.n)
def shN (by_ frm : Int) (x : Tm) (d : Int) : Int := if shV frm x d then wr (x.n + by_) else x.n
def shR (by_ frm : Int) : Nat → Tm → Int → Tm × Int
  | 0, _, _ => (zTm, 1)
  | N + 1, x, d =>
    if shV frm x d = true ∧ wr (x.n + by_) < wr (frm + d) then (zTm, 1) else
    match mapE (fun p : Tm × Nat => shR by_ frm N p.1 (wr (d + binds x.op x.l.length p.2))) x.l.zipIdx with
    | .inr _ => (zTm, 1)
    | .inl l => (.mk x.op (shN by_ frm x d) x.s (x.u.map cpLev) true l true, 0)
def E242 (b f d k : Int) : Env := [(1, iV b), (2, iV f), (3, iV d), (4, .c (.ptr 0 0)), (8, .c (.ptr 1 0)), (10, .c (.ptr 2 0)), (11, iV k)]
def O242 (x : Tm) (n : Int) (ls : List Tm) : List O :=
  .box (tmC x) :: .box (tmC zTm) :: .box [.d (.v (.int .i64 x.op)), .d (.v (.int .i64 n)), .d (.v (.string x.s)), .d (listD true 2 ((x.u.map cpLev).map levD)), mkC 3 (ls.map tmD)] :: mkO 5 (ls.map tmD)
theorem enter242 (hx : ext 242 = none) (h202 : ext 202 = none) (x : Tm) (b f d : Int) (hw : run Tryz.prog ext (.call 204 [tmV x, dV (.v (.slice none 0 0))] []) = some (.ret [tmV (withL x)] [])) (hn : ¬ (shV f x d = true ∧ wr (x.n + b) < wr (f + d))) (out : Option Out)
    (h : H242a ext 0 (E242 b f d 0) (O242 x (shN b f x d) []) = out) : run Tryz.prog ext (.call 242 [tmV x, iV b, iV f, iV d] []) = out := by
  have hv := var202 ext h202 x
  unfold shN shV at *
  cases c : isVar x with
  | false =>
    rw [c] at hv h
    unfold H242a at h
    (rw [run_eq]; simp only [stepA, hx, Tryz.func242, Tryz.f242, show retF 242 = false from rfl]; simp only [List.length_cons, List.length_nil, Nat.reduceAdd, Nat.reduceLeDiff, Nat.zero_le, ↓reduceIte, List.zipIdx_cons, List.zipIdx_nil, List.map_cons, List.map_nil])
    simp only [tmV, tmC_mk, withL, tmC_z, dV, iV, bV, E242, O242, Bool.false_and, Bool.false_eq_true, if_false, List.map_nil, mkC_nil, mkO_nil] at hv hw h ⊢
    simp only [tmC] at hv hw h ⊢
    simp only [zS, nilEq, wantedA, opA, eff, boxA, cells, ev, gt, pt, putO, updO, setO, okC, loadA, cutC, fieldAddrA, fieldA, indexAddrA, indexA, builtinA, callOpA, callV, target, ptrV, lenS, binA, intOp, strOp, unA, num, lk, over, allocA, pickA, buildA, fillA, convertA, extractA, ofComp, nilCheckA, makeFuncA, ptrs, ofValue, cellB, Nat.reduceAdd, Nat.reduceSub, Nat.reduceMul, Nat.reduceLT, Nat.reduceLeDiff, Nat.reduceGT, ↓reduceIte, Nat.reduceEqDiff, Nat.reduceBEq, reduceCtorEq, Int.reduceBEq, Int.reduceBNe, Int.reduceLT, Int.reduceLE, Int.reduceGT, Int.reduceGE, aggT_33, sizeT_33, bytesT_33, fieldT_33_0, fieldT_33_1, fieldT_33_2, fieldT_33_3, fieldT_33_4, placesT_33, zeroT_33, aggT_30, sizeT_30, bytesT_30, und_30, elemT_30, isSliceT_30, zero1_30, zeroT_30, aggT_31, sizeT_31, bytesT_31, und_31, elemT_31, isSliceT_31, zero1_31, zeroT_31, aggT_9, sizeT_9, bytesT_9, und_9, zero1_9, zeroT_9, aggT_3, sizeT_3, bytesT_3, und_3, zero1_3, zeroT_3, hv, hw, lenA_lD]
    (refine (r_inLoop_some ?_).trans h; kernel_rfl)
  | true =>
    rw [c] at hv h hn
    by_cases e : wr (f + d) ≤ x.n
    · have hn' : ¬ wr (x.n + b) < wr (f + d) := fun h => hn ⟨by simp [e], h⟩
      unfold H242a at h
      (rw [run_eq]; simp only [stepA, hx, Tryz.func242, Tryz.f242, show retF 242 = false from rfl]; simp only [List.length_cons, List.length_nil, Nat.reduceAdd, Nat.reduceLeDiff, Nat.zero_le, ↓reduceIte, List.zipIdx_cons, List.zipIdx_nil, List.map_cons, List.map_nil])
      simp only [tmV, tmC_mk, withL, tmC_z, dV, iV, bV, E242, O242, Bool.true_and, e, decide_true, if_true, List.map_nil, mkC_nil, mkO_nil] at hv hw h ⊢
      simp only [tmC] at hv hw h ⊢
      simp only [zS, nilEq, wantedA, opA, eff, boxA, cells, ev, gt, pt, putO, updO, setO, okC, loadA, cutC, fieldAddrA, fieldA, indexAddrA, indexA, builtinA, callOpA, callV, target, ptrV, lenS, binA, intOp, strOp, unA, num, lk, over, allocA, pickA, buildA, fillA, convertA, extractA, ofComp, nilCheckA, makeFuncA, ptrs, ofValue, cellB, Nat.reduceAdd, Nat.reduceSub, Nat.reduceMul, Nat.reduceLT, Nat.reduceLeDiff, Nat.reduceGT, ↓reduceIte, Nat.reduceEqDiff, Nat.reduceBEq, reduceCtorEq, Int.reduceBEq, Int.reduceBNe, Int.reduceLT, Int.reduceLE, Int.reduceGT, Int.reduceGE, aggT_33, sizeT_33, bytesT_33, fieldT_33_0, fieldT_33_1, fieldT_33_2, fieldT_33_3, fieldT_33_4, placesT_33, zeroT_33, aggT_30, sizeT_30, bytesT_30, und_30, elemT_30, isSliceT_30, zero1_30, zeroT_30, aggT_31, sizeT_31, bytesT_31, und_31, elemT_31, isSliceT_31, zero1_31, zeroT_31, aggT_9, sizeT_9, bytesT_9, und_9, zero1_9, zeroT_9, aggT_3, sizeT_3, bytesT_3, und_3, zero1_3, zeroT_3, hv, hw, lenA_lD, ge_iff_le, e, hn']
      (refine (r_inLoop_some ?_).trans h; kernel_rfl)
    · unfold H242a at h
      (rw [run_eq]; simp only [stepA, hx, Tryz.func242, Tryz.f242, show retF 242 = false from rfl]; simp only [List.length_cons, List.length_nil, Nat.reduceAdd, Nat.reduceLeDiff, Nat.zero_le, ↓reduceIte, List.zipIdx_cons, List.zipIdx_nil, List.map_cons, List.map_nil])
      simp only [tmV, tmC_mk, withL, tmC_z, dV, iV, bV, E242, O242, Bool.true_and, e, decide_false, Bool.false_eq_true, if_false, List.map_nil, mkC_nil, mkO_nil] at hv hw h ⊢
      simp only [tmC] at hv hw h ⊢
      simp only [zS, nilEq, wantedA, opA, eff, boxA, cells, ev, gt, pt, putO, updO, setO, okC, loadA, cutC, fieldAddrA, fieldA, indexAddrA, indexA, builtinA, callOpA, callV, target, ptrV, lenS, binA, intOp, strOp, unA, num, lk, over, allocA, pickA, buildA, fillA, convertA, extractA, ofComp, nilCheckA, makeFuncA, ptrs, ofValue, cellB, Nat.reduceAdd, Nat.reduceSub, Nat.reduceMul, Nat.reduceLT, Nat.reduceLeDiff, Nat.reduceGT, ↓reduceIte, Nat.reduceEqDiff, Nat.reduceBEq, reduceCtorEq, Int.reduceBEq, Int.reduceBNe, Int.reduceLT, Int.reduceLE, Int.reduceGT, Int.reduceGE, aggT_33, sizeT_33, bytesT_33, fieldT_33_0, fieldT_33_1, fieldT_33_2, fieldT_33_3, fieldT_33_4, placesT_33, zeroT_33, aggT_30, sizeT_30, bytesT_30, und_30, elemT_30, isSliceT_30, zero1_30, zeroT_30, aggT_31, sizeT_31, bytesT_31, und_31, elemT_31, isSliceT_31, zero1_31, zeroT_31, aggT_9, sizeT_9, bytesT_9, und_9, zero1_9, zeroT_9, aggT_3, sizeT_3, bytesT_3, und_3, zero1_3, zeroT_3, hv, hw, lenA_lD, ge_iff_le, e]
      (refine (r_inLoop_some ?_).trans h; kernel_rfl)
theorem low242 (hx : ext 242 = none) (h202 : ext 202 = none) (x : Tm) (b f d : Int) (hw : run Tryz.prog ext (.call 204 [tmV x, dV (.v (.slice none 0 0))] []) = some (.ret [tmV (withL x)] [])) (hn : shV f x d = true ∧ wr (x.n + b) < wr (f + d)) :
    run Tryz.prog ext (.call 242 [tmV x, iV b, iV f, iV d] []) = some (.ret [tmV zTm, bV false] []) := by
  have hv := var202 ext h202 x
  obtain ⟨h1, h2⟩ := hn
  simp only [shV, Bool.and_eq_true, decide_eq_true_eq] at h1
  rw [h1.1] at hv
  have e := h1.2
  (rw [run_eq]; simp only [stepA, hx, Tryz.func242, Tryz.f242, show retF 242 = false from rfl]; simp only [List.length_cons, List.length_nil, Nat.reduceAdd, Nat.reduceLeDiff, Nat.zero_le, ↓reduceIte, List.zipIdx_cons, List.zipIdx_nil, List.map_cons, List.map_nil])
  simp only [tmV, tmC_mk, withL, tmC_z, dV, iV, bV] at hv hw ⊢
  simp only [tmC] at hv hw ⊢
  simp only [zS, nilEq, wantedA, opA, eff, boxA, cells, ev, gt, pt, putO, updO, setO, okC, loadA, cutC, fieldAddrA, fieldA, indexAddrA, indexA, builtinA, callOpA, callV, target, ptrV, lenS, binA, intOp, strOp, unA, num, lk, over, allocA, pickA, buildA, fillA, convertA, extractA, ofComp, nilCheckA, makeFuncA, ptrs, ofValue, cellB, Nat.reduceAdd, Nat.reduceSub, Nat.reduceMul, Nat.reduceLT, Nat.reduceLeDiff, Nat.reduceGT, ↓reduceIte, Nat.reduceEqDiff, Nat.reduceBEq, reduceCtorEq, Int.reduceBEq, Int.reduceBNe, Int.reduceLT, Int.reduceLE, Int.reduceGT, Int.reduceGE, aggT_33, sizeT_33, bytesT_33, fieldT_33_0, fieldT_33_1, fieldT_33_2, fieldT_33_3, fieldT_33_4, placesT_33, zeroT_33, aggT_30, sizeT_30, bytesT_30, und_30, elemT_30, isSliceT_30, zero1_30, zeroT_30, aggT_31, sizeT_31, bytesT_31, und_31, elemT_31, isSliceT_31, zero1_31, zeroT_31, aggT_9, sizeT_9, bytesT_9, und_9, zero1_9, zeroT_9, aggT_3, sizeT_3, bytesT_3, und_3, zero1_3, zeroT_3, hv, hw, lenA_lD, ge_iff_le, e, h2]
  (refine Eq.trans ?_ rfl; kernel_rfl)
theorem step242 (h205 : ext 205 = none) (x t y : Tm) (b f d n : Int) (ls : List Tm) (k : Nat) (hb : ls.length < 2 ^ 29) (hk : x.l[k]? = some t) (hl : (k : Int) < x.l.length)
    (hr : run Tryz.prog ext (.call 242 [tmV t, iV b, iV f, iV (wr (d + binds x.op x.l.length k))] []) = some (.ret [tmV y, bV true] [])) (out : Option Out)
    (h : H242a ext 0 (E242 b f d (wr ((k : Int) + 1))) (O242 x n (ls ++ [y])) = out) : H242a ext 0 (E242 b f d k) (O242 x n ls) = out := by
  have h0 : (0 : Int) ≤ k := by omega
  have hB := binds205 ext h205 x k
  generalize binds x.op x.l.length k = bd at hB hr
  unfold H242a at h ⊢
  cases ls with
  | nil =>
    simp only [tmV, tmC_z, tmC, dV, iV, bV, E242, O242, lD_lt hl, List.map_append, List.map_cons, List.map_nil, mkC_nil, mkC_snoc, mkO_snoc, mkO_nil, List.nil_append, tmD_eq y] at h hr hB ⊢
    (rw [show (It.code L242a) = It.code (sub B242 [1, 1, 1, 0, 1, 0, 0]) from rfl]; simp only [B242, K242a, sub, Option.getD_some, Tryz.f242, ↓reduceIte, Nat.one_ne_zero])
    simp only [zS, nilEq, wantedA, opA, eff, boxA, cells, ev, gt, pt, putO, updO, setO, okC, loadA, cutC, fieldAddrA, fieldA, indexAddrA, indexA, builtinA, callOpA, callV, target, ptrV, lenS, binA, intOp, strOp, unA, num, lk, over, allocA, pickA, buildA, fillA, convertA, extractA, ofComp, nilCheckA, makeFuncA, ptrs, ofValue, cellB, Nat.reduceAdd, Nat.reduceSub, Nat.reduceMul, Nat.reduceLT, Nat.reduceLeDiff, Nat.reduceGT, ↓reduceIte, Nat.reduceEqDiff, Nat.reduceBEq, reduceCtorEq, Int.reduceBEq, Int.reduceBNe, Int.reduceLT, Int.reduceLE, Int.reduceGT, Int.reduceGE, aggT_33, sizeT_33, bytesT_33, fieldT_33_0, fieldT_33_1, fieldT_33_2, fieldT_33_3, fieldT_33_4, placesT_33, zeroT_33, aggT_31, sizeT_31, bytesT_31, und_31, elemT_31, isSliceT_31, zero1_31, zeroT_31, aggT_3, sizeT_3, bytesT_3, und_3, zero1_3, zeroT_3, drawA, holes_succ, holes_zero, Array.size, List.length, lenA_lD, h0, hl, Int.toNat_natCast, hk, tmD_eq t, hB, hr, callOut_vd]
    rw [afterDraw_some _ _ _ _ (by kernel_rfl)]
    simp only [zS, nilEq, wantedA, opA, eff, boxA, cells, ev, gt, pt, putO, updO, setO, okC, loadA, cutC, fieldAddrA, fieldA, indexAddrA, indexA, builtinA, callOpA, callV, target, ptrV, lenS, binA, intOp, strOp, unA, num, lk, over, allocA, pickA, buildA, fillA, convertA, extractA, ofComp, nilCheckA, makeFuncA, ptrs, ofValue, cellB, Nat.reduceAdd, Nat.reduceSub, Nat.reduceMul, Nat.reduceLT, Nat.reduceLeDiff, Nat.reduceGT, ↓reduceIte, Nat.reduceEqDiff, Nat.reduceBEq, reduceCtorEq, Int.reduceBEq, Int.reduceBNe, Int.reduceLT, Int.reduceLE, Int.reduceGT, Int.reduceGE, aggT_33, sizeT_33, bytesT_33, fieldT_33_0, fieldT_33_1, fieldT_33_2, fieldT_33_3, fieldT_33_4, placesT_33, zeroT_33, aggT_31, sizeT_31, bytesT_31, und_31, elemT_31, isSliceT_31, zero1_31, zeroT_31, aggT_3, sizeT_3, bytesT_3, und_3, zero1_3, zeroT_3, bsTm, no31, apH_arr, Nat.zero_le]
    (refine (r_inLoop_some ?_).trans h; kernel_rfl)
  | cons a r =>
    have hb' : r.length + 1 ≤ 1000000000 := by simp only [List.length_cons] at hb; omega
    simp only [tmV, tmC_z, tmC, dV, iV, bV, E242, O242, lD_lt hl, List.map_append, List.map_cons, List.map_nil, mkC_cons, mkC_snoc, mkO_snoc, mkO_cons, List.cons_append, List.nil_append, tmD_eq y] at h hr hB ⊢
    (rw [show (It.code L242a) = It.code (sub B242 [1, 1, 1, 0, 1, 0, 0]) from rfl]; simp only [B242, K242a, sub, Option.getD_some, Tryz.f242, ↓reduceIte, Nat.one_ne_zero])
    simp only [zS, nilEq, wantedA, opA, eff, boxA, cells, ev, gt, pt, putO, updO, setO, okC, loadA, cutC, fieldAddrA, fieldA, indexAddrA, indexA, builtinA, callOpA, callV, target, ptrV, lenS, binA, intOp, strOp, unA, num, lk, over, allocA, pickA, buildA, fillA, convertA, extractA, ofComp, nilCheckA, makeFuncA, ptrs, ofValue, cellB, Nat.reduceAdd, Nat.reduceSub, Nat.reduceMul, Nat.reduceLT, Nat.reduceLeDiff, Nat.reduceGT, ↓reduceIte, Nat.reduceEqDiff, Nat.reduceBEq, reduceCtorEq, Int.reduceBEq, Int.reduceBNe, Int.reduceLT, Int.reduceLE, Int.reduceGT, Int.reduceGE, aggT_33, sizeT_33, bytesT_33, fieldT_33_0, fieldT_33_1, fieldT_33_2, fieldT_33_3, fieldT_33_4, placesT_33, zeroT_33, aggT_31, sizeT_31, bytesT_31, und_31, elemT_31, isSliceT_31, zero1_31, zeroT_31, aggT_3, sizeT_3, bytesT_3, und_3, zero1_3, zeroT_3, drawA, holes_succ, holes_zero, Array.size, List.length, lenA_lD, h0, hl, Int.toNat_natCast, hk, tmD_eq t, hB, hr, callOut_vd]
    rw [afterDraw_some _ _ _ _ (by kernel_rfl)]
    simp only [zS, nilEq, wantedA, opA, eff, boxA, cells, ev, gt, pt, putO, updO, setO, okC, loadA, cutC, fieldAddrA, fieldA, indexAddrA, indexA, builtinA, callOpA, callV, target, ptrV, lenS, binA, intOp, strOp, unA, num, lk, over, allocA, pickA, buildA, fillA, convertA, extractA, ofComp, nilCheckA, makeFuncA, ptrs, ofValue, cellB, Nat.reduceAdd, Nat.reduceSub, Nat.reduceMul, Nat.reduceLT, Nat.reduceLeDiff, Nat.reduceGT, ↓reduceIte, Nat.reduceEqDiff, Nat.reduceBEq, reduceCtorEq, Int.reduceBEq, Int.reduceBNe, Int.reduceLT, Int.reduceLE, Int.reduceGT, Int.reduceGE, aggT_33, sizeT_33, bytesT_33, fieldT_33_0, fieldT_33_1, fieldT_33_2, fieldT_33_3, fieldT_33_4, placesT_33, zeroT_33, aggT_31, sizeT_31, bytesT_31, und_31, elemT_31, isSliceT_31, zero1_31, zeroT_31, aggT_3, sizeT_3, bytesT_3, und_3, zero1_3, zeroT_3, bsTm, oo31, apG_arr, hb']
    (refine (r_inLoop_some ?_).trans h; kernel_rfl)
theorem bad242 (h205 : ext 205 = none) (x t y : Tm) (b f d n : Int) (ls : List Tm) (k : Nat) (hk : x.l[k]? = some t) (hl : (k : Int) < x.l.length)
    (hr : run Tryz.prog ext (.call 242 [tmV t, iV b, iV f, iV (wr (d + binds x.op x.l.length k))] []) = some (.ret [tmV y, bV false] [])) : H242a ext 0 (E242 b f d k) (O242 x n ls) = some (.ret [tmV zTm, bV false] []) := by
  have h0 : (0 : Int) ≤ k := by omega
  have hB := binds205 ext h205 x k
  generalize binds x.op x.l.length k = bd at hB hr
  unfold H242a
  cases ls
  all_goals
    simp only [tmV, tmC_z, tmC, dV, iV, bV, E242, O242, lD_lt hl, List.map_cons, List.map_nil, mkC_nil, mkC_cons, mkO_nil, mkO_cons] at hr hB ⊢
    (rw [show (It.code L242a) = It.code (sub B242 [1, 1, 1, 0, 1, 0, 0]) from rfl]; simp only [B242, K242a, sub, Option.getD_some, Tryz.f242, ↓reduceIte, Nat.one_ne_zero])
    simp only [zS, nilEq, wantedA, opA, eff, boxA, cells, ev, gt, pt, putO, updO, setO, okC, loadA, cutC, fieldAddrA, fieldA, indexAddrA, indexA, builtinA, callOpA, callV, target, ptrV, lenS, binA, intOp, strOp, unA, num, lk, over, allocA, pickA, buildA, fillA, convertA, extractA, ofComp, nilCheckA, makeFuncA, ptrs, ofValue, cellB, Nat.reduceAdd, Nat.reduceSub, Nat.reduceMul, Nat.reduceLT, Nat.reduceLeDiff, Nat.reduceGT, ↓reduceIte, Nat.reduceEqDiff, Nat.reduceBEq, reduceCtorEq, Int.reduceBEq, Int.reduceBNe, Int.reduceLT, Int.reduceLE, Int.reduceGT, Int.reduceGE, aggT_33, sizeT_33, bytesT_33, fieldT_33_0, fieldT_33_1, fieldT_33_2, fieldT_33_3, fieldT_33_4, placesT_33, zeroT_33, aggT_31, sizeT_31, bytesT_31, und_31, elemT_31, isSliceT_31, zero1_31, zeroT_31, aggT_3, sizeT_3, bytesT_3, und_3, zero1_3, zeroT_3, drawA, holes_succ, holes_zero, Array.size, List.length, lenA_lD, h0, hl, Int.toNat_natCast, hk, tmD_eq t, hB, hr, callOut_vd]
    rw [afterDraw_some _ _ _ _ (by kernel_rfl)]
    simp only [zS, nilEq, wantedA, opA, eff, boxA, cells, ev, gt, pt, putO, updO, setO, okC, loadA, cutC, fieldAddrA, fieldA, indexAddrA, indexA, builtinA, callOpA, callV, target, ptrV, lenS, binA, intOp, strOp, unA, num, lk, over, allocA, pickA, buildA, fillA, convertA, extractA, ofComp, nilCheckA, makeFuncA, ptrs, ofValue, cellB, Nat.reduceAdd, Nat.reduceSub, Nat.reduceMul, Nat.reduceLT, Nat.reduceLeDiff, Nat.reduceGT, ↓reduceIte, Nat.reduceEqDiff, Nat.reduceBEq, reduceCtorEq, Int.reduceBEq, Int.reduceBNe, Int.reduceLT, Int.reduceLE, Int.reduceGT, Int.reduceGE, aggT_33, sizeT_33, bytesT_33, fieldT_33_0, fieldT_33_1, fieldT_33_2, fieldT_33_3, fieldT_33_4, placesT_33, zeroT_33, aggT_31, sizeT_31, bytesT_31, und_31, elemT_31, isSliceT_31, zero1_31, zeroT_31, aggT_3, sizeT_3, bytesT_3, und_3, zero1_3, zeroT_3]
    (refine Eq.trans ?_ rfl; kernel_rfl)
theorem done242 (x : Tm) (b f d n : Int) (ls : List Tm) : H242a ext 0 (E242 b f d x.l.length) (O242 x n ls) = some (.ret [tmV (.mk x.op n x.s (x.u.map cpLev) true ls true), bV true] []) := by
  unfold H242a
  cases ls
  all_goals
    simp only [tmV, tmC_mk, tmC_z, dV, iV, bV, E242, O242, List.map_cons, List.map_nil, mkC_nil, mkC_cons, mkO_nil, mkO_cons]
    simp only [tmC]
    (rw [show (It.code L242a) = It.code (sub B242 [1, 1, 1, 0, 1, 0, 0]) from rfl]; simp only [B242, K242a, sub, Option.getD_some, Tryz.f242, ↓reduceIte, Nat.one_ne_zero])
    simp only [zS, nilEq, wantedA, opA, eff, boxA, cells, ev, gt, pt, putO, updO, setO, okC, loadA, cutC, fieldAddrA, fieldA, indexAddrA, indexA, builtinA, callOpA, callV, target, ptrV, lenS, binA, intOp, strOp, unA, num, lk, over, allocA, pickA, buildA, fillA, convertA, extractA, ofComp, nilCheckA, makeFuncA, ptrs, ofValue, cellB, Nat.reduceAdd, Nat.reduceSub, Nat.reduceMul, Nat.reduceLT, Nat.reduceLeDiff, Nat.reduceGT, ↓reduceIte, Nat.reduceEqDiff, Nat.reduceBEq, reduceCtorEq, Int.reduceBEq, Int.reduceBNe, Int.reduceLT, Int.reduceLE, Int.reduceGT, Int.reduceGE, aggT_33, sizeT_33, bytesT_33, fieldT_33_0, fieldT_33_1, fieldT_33_2, fieldT_33_3, fieldT_33_4, placesT_33, zeroT_33, aggT_31, sizeT_31, bytesT_31, und_31, elemT_31, isSliceT_31, zero1_31, zeroT_31, aggT_30, sizeT_30, bytesT_30, und_30, elemT_30, isSliceT_30, zero1_30, zeroT_30, aggT_3, sizeT_3, bytesT_3, und_3, zero1_3, zeroT_3, lenA_lD, Int.lt_irrefl]
    (refine Eq.trans ?_ rfl; kernel_rfl)
theorem zipIdx_get {α : Type} {l : List α} {k : Nat} {p : α × Nat} (h : l.zipIdx[k]? = some p) : l[k]? = some p.1 ∧ p.2 = k := by
  rw [List.getElem?_zipIdx] at h
  cases hk : l[k]? with
  | none => rw [hk] at h; cases h
  | some a => rw [hk] at h; simp at h; subst h; exact ⟨rfl, rfl⟩
theorem shift242 (hx : ext 242 = none) (h202 : ext 202 = none) (h205 : ext 205 = none) (h204 : ext 204 = none) (h89 : ext 89 = none) (h49 : ext 49 = none) (b f : Int) : ∀ (N : Nat) (x : Tm) (d : Int), x.sz ≤ N → N < 2 ^ 29 →
    run Tryz.prog ext (.call 242 [tmV x, iV b, iV f, iV d] []) = some (.ret [tmV (shR b f N x d).1, bV (decide ((shR b f N x d).2 = 0))] [])
  | 0, x, d, h, _ => by have := x.sz_pos; omega
  | N + 1, x, d, h, hN => by
    have hll := x.len_lt
    have hw := with204 ext h204 h89 h49 x (by omega)
    rw [shR]
    by_cases hn : shV f x d = true ∧ wr (x.n + b) < wr (f + d)
    · rw [if_pos hn]; exact low242 ext hx h202 x b f d hw hn
    · rw [if_neg hn]
      refine enter242 ext hx h202 x b f d hw hn _ ?_
      have ha := loop_mapE (fun p : Tm × Nat => shR b f N p.1 (wr (d + binds x.op x.l.length p.2))) x.l.zipIdx (fun k ls => H242a ext 0 (E242 b f d k) (O242 x (shN b f x d) ls)) (fun _ => some (.ret [tmV zTm, bV false] []))
        (fun ls => some (.ret [tmV (.mk x.op (shN b f x d) x.s (x.u.map cpLev) true ls true), bV true] [])) (by rw [List.length_zipIdx]; omega) (fun k p ls hk hl he => by
          obtain ⟨hk', hp⟩ := zipIdx_get hk
          rw [List.length_zipIdx] at hl
          have hr := shift242 hx h202 h205 h204 h89 h49 b f N p.1 (wr (d + binds x.op x.l.length p.2)) (by have := Tm.sz_lt (List.mem_of_getElem? hk'); omega) (by omega)
          rw [hp] at hr ⊢
          refine ⟨fun h0 out ho => ?_, fun h0 => ?_⟩
          · rw [h0] at hr
            exact step242 ext h205 x p.1 _ b f d _ ls k (by omega) hk' hl hr out ho
          · rw [decide_eq_false h0] at hr
            exact bad242 ext h205 x p.1 _ b f d _ ls k hk' hl hr) (fun ls _ => by rw [List.length_zipIdx]; exact done242 ext x b f d _ ls)
      rw [ha]
      cases mapE (fun p : Tm × Nat => shR b f N p.1 (wr (d + binds x.op x.l.length p.2))) x.l.zipIdx <;> rfl
end Go.Proofs.YteenjodhmppgjaaGreatDoor.Am
end
section
/- The reference's Fill. -/
namespace Go.Proofs.YteenjodhmppgjaaGreatDoor.Am
open Go
variable (ext : Ext)
set_option maxHeartbeats 8000000
set_option maxRecDepth 4000
noncomputable def B133 : Code := (Tryz.f133.body.getD .skip)
noncomputable def L133a : Code := sub B133 [1, 0, 1, 0, 1, 1, 1, 0, 1, 0, 0]
noncomputable def K133a : List It := [.inBlock 0, .code (sub B133 [1, 0, 1, 0, 1, 1, 1, 1]), .code (sub B133 [1, 1])]
noncomputable def H133a (ext : Ext) (m : Nat) (env : Env) (loc : List O) : Option Out := run Tryz.prog ext (.k ⟨91, m, [.cell 6 33], false⟩ (.code L133a :: .inLoop L133a :: K133a) env loc)
noncomputable def L133b : Code := sub B133 [1, 1, 1, 0, 1, 0, 0]
noncomputable def K133b : List It := [.inBlock 2, .code (sub B133 [1, 1, 1, 1])]
noncomputable def H133b (ext : Ext) (m : Nat) (env : Env) (loc : List O) : Option Out := run Tryz.prog ext (.k ⟨91, m, [.cell 6 33], false⟩ (.code L133b :: .inLoop L133b :: K133b) env loc)
theorem binds_le (op : Int) (len : Nat) (i : Int) : 0 ≤ binds op len i ∧ binds op len i ≤ 3 := by
  unfold binds
  repeat' split
  all_goals omega
def argD (A : Tm) : D := .s 5 [tmD A]
def upR (A : Tm) (d : Int) : Tm := (shR d 0 A.sz A 0).1
theorem up203 (hx : ext 203 = none) (h209 : ext 209 = none) (h242 : ext 242 = none) (h202 : ext 202 = none) (h205 : ext 205 = none) (h204 : ext 204 = none) (h89 : ext 89 = none) (h49 : ext 49 = none) (A : Tm) (hA : A.sz < 2 ^ 29) (d : Int) (h0 : 0 ≤ d) (h1 : d ≤ 2147483648) :
    run Tryz.prog ext (.call 203 [tmV A, iV d, iV 0] []) = some (.ret [tmV (upR A d)] []) := by
  have hr := shift242 ext h242 h202 h205 h204 h89 h49 d 0 A.sz A 0 (Nat.le_refl _) hA
  unfold upR
  have h2 : ¬ d < -2147483648 := by omega
  have h3 : ¬ d > 2147483648 := by omega
  have h9 : run Tryz.prog ext (.call 209 [tmV A, iV d, iV 0] []) = some (.ret [tmV (shR d 0 A.sz A 0).1, bV (decide ((shR d 0 A.sz A 0).2 = 0))] []) := by
    generalize shR d 0 A.sz A 0 = q at hr
    have hx := h209
    (rw [run_eq]; simp only [stepA, hx, Tryz.func209, Tryz.f209, show retF 209 = false from rfl]; simp only [List.length_cons, List.length_nil, Nat.reduceAdd, Nat.reduceLeDiff, Nat.zero_le, ↓reduceIte, List.zipIdx_cons, List.zipIdx_nil, List.map_cons, List.map_nil])
    simp only [tmV, tmC, iV, bV] at hr ⊢
    simp only [zS, nilEq, wantedA, opA, eff, boxA, cells, ev, gt, pt, putO, updO, setO, okC, loadA, cutC, fieldAddrA, fieldA, indexAddrA, indexA, builtinA, callOpA, callV, target, ptrV, lenS, binA, intOp, strOp, unA, num, lk, over, allocA, pickA, buildA, fillA, convertA, extractA, ofComp, nilCheckA, makeFuncA, ptrs, ofValue, cellB, Nat.reduceAdd, Nat.reduceSub, Nat.reduceMul, Nat.reduceLT, Nat.reduceLeDiff, Nat.reduceGT, ↓reduceIte, Nat.reduceEqDiff, Nat.reduceBEq, reduceCtorEq, Int.reduceBEq, Int.reduceBNe, Int.reduceLT, Int.reduceLE, Int.reduceGT, Int.reduceGE, aggT_33, sizeT_33, bytesT_33, fieldT_33_0, fieldT_33_1, fieldT_33_2, fieldT_33_3, fieldT_33_4, placesT_33, zeroT_33, aggT_31, sizeT_31, bytesT_31, und_31, elemT_31, isSliceT_31, zero1_31, zeroT_31, aggT_30, sizeT_30, bytesT_30, und_30, elemT_30, isSliceT_30, zero1_30, zeroT_30, aggT_9, sizeT_9, bytesT_9, und_9, zero1_9, zeroT_9, aggT_3, sizeT_3, bytesT_3, und_3, zero1_3, zeroT_3, h2, h3, hr, callOut_vd]
    (refine Eq.trans ?_ rfl; kernel_rfl)
  generalize shR d 0 A.sz A 0 = q at h9
  (rw [run_eq]; simp only [stepA, hx, Tryz.func203, Tryz.f203, show retF 203 = false from rfl]; simp only [List.length_cons, List.length_nil, Nat.reduceAdd, Nat.reduceLeDiff, Nat.zero_le, ↓reduceIte, List.zipIdx_cons, List.zipIdx_nil, List.map_cons, List.map_nil])
  simp only [tmV, tmC, iV, bV] at h9 ⊢
  simp only [zS, nilEq, wantedA, opA, eff, boxA, cells, ev, gt, pt, putO, updO, setO, okC, loadA, cutC, fieldAddrA, fieldA, indexAddrA, indexA, builtinA, callOpA, callV, target, ptrV, lenS, binA, intOp, strOp, unA, num, lk, over, allocA, pickA, buildA, fillA, convertA, extractA, ofComp, nilCheckA, makeFuncA, ptrs, ofValue, cellB, Nat.reduceAdd, Nat.reduceSub, Nat.reduceMul, Nat.reduceLT, Nat.reduceLeDiff, Nat.reduceGT, ↓reduceIte, Nat.reduceEqDiff, Nat.reduceBEq, reduceCtorEq, Int.reduceBEq, Int.reduceBNe, Int.reduceLT, Int.reduceLE, Int.reduceGT, Int.reduceGE, aggT_33, sizeT_33, bytesT_33, fieldT_33_0, fieldT_33_1, fieldT_33_2, fieldT_33_3, fieldT_33_4, placesT_33, zeroT_33, aggT_31, sizeT_31, bytesT_31, und_31, elemT_31, isSliceT_31, zero1_31, zeroT_31, aggT_30, sizeT_30, bytesT_30, und_30, elemT_30, isSliceT_30, zero1_30, zeroT_30, aggT_9, sizeT_9, bytesT_9, und_9, zero1_9, zeroT_9, aggT_3, sizeT_3, bytesT_3, und_3, zero1_3, zeroT_3, h9, callOut_vd]
  (refine Eq.trans ?_ rfl; kernel_rfl)
def flR (A : Tm) : Nat → Tm → Int → Tm
  | 0, _, _ => zTm
  | N + 1, x, d =>
    if isVar x && decide (d ≤ x.n) then
      if x.n - d < 1 then upR A d else .mk x.op (wr (x.n - 1)) x.s (x.u.map cpLev) true (x.l.map fun y => flR A N y d) true
    else .mk x.op x.n x.s (x.u.map cpLev) true (x.l.zipIdx.map fun p => flR A N p.1 (wr (d + binds x.op x.l.length p.2))) true
def E133a (A : Tm) (d k : Int) : Env := [(1, dV (argD A)), (2, iV d), (3, .c (.ptr 0 0)), (6, .c (.ptr 1 0)), (7, .c (.ptr 2 0)), (8, iV k)]
def E133b (A : Tm) (d k : Int) : Env := [(1, dV (argD A)), (2, iV d), (3, .c (.ptr 0 0)), (6, .c (.ptr 1 0)), (9, .c (.ptr 2 0)), (10, iV k)]
theorem argD_len (A : Tm) : ([tmD A] : List (List D)).length = 1 := rfl
theorem hit133 (hx : ext 133 = none) (h202 : ext 202 = none) (x A : Tm) (d : Int) (hd : 0 ≤ d) (hd' : d < 2 ^ 40) (c : isVar x = true) (e : d ≤ x.n) (g : x.n - d < 1) (y : Tm) (hu : run Tryz.prog ext (.call 203 [tmV A, iV d, iV 0] []) = some (.ret [tmV y] [])) :
    run Tryz.prog ext (.call 133 [tmV x, dV (argD A), iV d] []) = some (.ret [tmV y] []) := by
  have hv := var202 ext h202 x
  rw [c] at hv
  have hn : x.n = d := by omega
  have k1 : (0 : Int) < ((1 : Nat) : Int) := by decide
  have hw : wr (d - d) = 0 := by rw [wr_id (by omega) (by omega)]; omega
  (rw [run_eq]; simp only [stepA, hx, Tryz.func133, Tryz.f133, show retF 133 = false from rfl]; simp only [List.length_cons, List.length_nil, Nat.reduceAdd, Nat.reduceLeDiff, Nat.zero_le, ↓reduceIte, List.zipIdx_cons, List.zipIdx_nil, List.map_cons, List.map_nil])
  simp only [tmV, tmC, dV, iV, bV, argD] at hv hu ⊢
  simp only [hn] at hv ⊢
  simp only [zS, nilEq, wantedA, opA, eff, boxA, cells, ev, gt, pt, putO, updO, setO, okC, loadA, cutC, fieldAddrA, fieldA, indexAddrA, indexA, builtinA, callOpA, callV, target, ptrV, lenS, binA, intOp, strOp, unA, num, lk, over, allocA, pickA, buildA, fillA, convertA, extractA, ofComp, nilCheckA, makeFuncA, ptrs, ofValue, cellB, Nat.reduceAdd, Nat.reduceSub, Nat.reduceMul, Nat.reduceLT, Nat.reduceLeDiff, Nat.reduceGT, ↓reduceIte, Nat.reduceEqDiff, Nat.reduceBEq, reduceCtorEq, Int.reduceBEq, Int.reduceBNe, Int.reduceLT, Int.reduceLE, Int.reduceGT, Int.reduceGE, aggT_33, sizeT_33, bytesT_33, fieldT_33_0, fieldT_33_1, fieldT_33_2, fieldT_33_3, fieldT_33_4, placesT_33, zeroT_33, aggT_31, sizeT_31, bytesT_31, und_31, elemT_31, isSliceT_31, zero1_31, zeroT_31, aggT_30, sizeT_30, bytesT_30, und_30, elemT_30, isSliceT_30, zero1_30, zeroT_30, aggT_9, sizeT_9, bytesT_9, und_9, zero1_9, zeroT_9, aggT_3, sizeT_3, bytesT_3, und_3, zero1_3, zeroT_3, hv, hw, k1, ge_iff_le, Int.le_refl, Int.toNat_zero, tmD_eq A, hu]
  (refine Eq.trans ?_ rfl; kernel_rfl)
theorem far133 (hx : ext 133 = none) (h202 : ext 202 = none) (x A : Tm) (d : Int) (hd : 0 ≤ d) (hd' : d < 2 ^ 40) (c : isVar x = true) (e : d ≤ x.n) (g : ¬ x.n - d < 1) (hw : run Tryz.prog ext (.call 204 [tmV x, dV (.v (.slice none 0 0))] []) = some (.ret [tmV (withL x)] [])) (out : Option Out)
    (h : H133a ext 0 (E133a A d 0) (O242 x (wr (x.n - 1)) []) = out) : run Tryz.prog ext (.call 133 [tmV x, dV (argD A), iV d] []) = out := by
  have hv := var202 ext h202 x
  rw [c] at hv
  have hc : x.n ≤ 2147483648 := by
    simp only [isVar, Bool.and_eq_true, decide_eq_true_eq] at c; exact c.2.2
  have hn : wr (x.n - d) = x.n - d := wr_id (by omega) (by omega)
  have g' : ¬ (x.n - d < ((1 : Nat) : Int)) := by simpa using g
  have e1 : x.n - ((1 : Nat) : Int) = x.n - 1 := rfl
  unfold H133a at h
  (rw [run_eq]; simp only [stepA, hx, Tryz.func133, Tryz.f133, show retF 133 = false from rfl]; simp only [List.length_cons, List.length_nil, Nat.reduceAdd, Nat.reduceLeDiff, Nat.zero_le, ↓reduceIte, List.zipIdx_cons, List.zipIdx_nil, List.map_cons, List.map_nil])
  simp only [tmV, tmC_mk, withL, tmC_z, dV, iV, bV, E133a, O242, argD, List.map_nil, mkC_nil, mkO_nil] at hv hw h ⊢
  simp only [tmC] at hv hw h ⊢
  simp only [zS, nilEq, wantedA, opA, eff, boxA, cells, ev, gt, pt, putO, updO, setO, okC, loadA, cutC, fieldAddrA, fieldA, indexAddrA, indexA, builtinA, callOpA, callV, target, ptrV, lenS, binA, intOp, strOp, unA, num, lk, over, allocA, pickA, buildA, fillA, convertA, extractA, ofComp, nilCheckA, makeFuncA, ptrs, ofValue, cellB, Nat.reduceAdd, Nat.reduceSub, Nat.reduceMul, Nat.reduceLT, Nat.reduceLeDiff, Nat.reduceGT, ↓reduceIte, Nat.reduceEqDiff, Nat.reduceBEq, reduceCtorEq, Int.reduceBEq, Int.reduceBNe, Int.reduceLT, Int.reduceLE, Int.reduceGT, Int.reduceGE, aggT_33, sizeT_33, bytesT_33, fieldT_33_0, fieldT_33_1, fieldT_33_2, fieldT_33_3, fieldT_33_4, placesT_33, zeroT_33, aggT_31, sizeT_31, bytesT_31, und_31, elemT_31, isSliceT_31, zero1_31, zeroT_31, aggT_30, sizeT_30, bytesT_30, und_30, elemT_30, isSliceT_30, zero1_30, zeroT_30, aggT_9, sizeT_9, bytesT_9, und_9, zero1_9, zeroT_9, aggT_3, sizeT_3, bytesT_3, und_3, zero1_3, zeroT_3, hv, hw, hn, ge_iff_le, e, g', e1, argD_len]
  (refine (r_inLoop_some ?_).trans h; kernel_rfl)
theorem not133 (hx : ext 133 = none) (h202 : ext 202 = none) (x A : Tm) (d : Int) (c : (isVar x && decide (d ≤ x.n)) = false) (hw : run Tryz.prog ext (.call 204 [tmV x, dV (.v (.slice none 0 0))] []) = some (.ret [tmV (withL x)] [])) (out : Option Out)
    (h : H133b ext 0 (E133b A d 0) (O242 x x.n []) = out) : run Tryz.prog ext (.call 133 [tmV x, dV (argD A), iV d] []) = out := by
  have hv := var202 ext h202 x
  cases c1 : isVar x with
  | false =>
    rw [c1] at hv
    unfold H133b at h
    (rw [run_eq]; simp only [stepA, hx, Tryz.func133, Tryz.f133, show retF 133 = false from rfl]; simp only [List.length_cons, List.length_nil, Nat.reduceAdd, Nat.reduceLeDiff, Nat.zero_le, ↓reduceIte, List.zipIdx_cons, List.zipIdx_nil, List.map_cons, List.map_nil])
    simp only [tmV, tmC_mk, withL, tmC_z, dV, iV, bV, E133b, O242, argD, List.map_nil, mkC_nil, mkO_nil] at hv hw h ⊢
    simp only [tmC] at hv hw h ⊢
    simp only [zS, nilEq, wantedA, opA, eff, boxA, cells, ev, gt, pt, putO, updO, setO, okC, loadA, cutC, fieldAddrA, fieldA, indexAddrA, indexA, builtinA, callOpA, callV, target, ptrV, lenS, binA, intOp, strOp, unA, num, lk, over, allocA, pickA, buildA, fillA, convertA, extractA, ofComp, nilCheckA, makeFuncA, ptrs, ofValue, cellB, Nat.reduceAdd, Nat.reduceSub, Nat.reduceMul, Nat.reduceLT, Nat.reduceLeDiff, Nat.reduceGT, ↓reduceIte, Nat.reduceEqDiff, Nat.reduceBEq, reduceCtorEq, Int.reduceBEq, Int.reduceBNe, Int.reduceLT, Int.reduceLE, Int.reduceGT, Int.reduceGE, aggT_33, sizeT_33, bytesT_33, fieldT_33_0, fieldT_33_1, fieldT_33_2, fieldT_33_3, fieldT_33_4, placesT_33, zeroT_33, aggT_31, sizeT_31, bytesT_31, und_31, elemT_31, isSliceT_31, zero1_31, zeroT_31, aggT_30, sizeT_30, bytesT_30, und_30, elemT_30, isSliceT_30, zero1_30, zeroT_30, aggT_9, sizeT_9, bytesT_9, und_9, zero1_9, zeroT_9, aggT_3, sizeT_3, bytesT_3, und_3, zero1_3, zeroT_3, hv, hw]
    (refine (r_inLoop_some ?_).trans h; kernel_rfl)
  | true =>
    rw [c1] at hv
    have e : ¬ d ≤ x.n := by rw [c1] at c; simpa using c
    unfold H133b at h
    (rw [run_eq]; simp only [stepA, hx, Tryz.func133, Tryz.f133, show retF 133 = false from rfl]; simp only [List.length_cons, List.length_nil, Nat.reduceAdd, Nat.reduceLeDiff, Nat.zero_le, ↓reduceIte, List.zipIdx_cons, List.zipIdx_nil, List.map_cons, List.map_nil])
    simp only [tmV, tmC_mk, withL, tmC_z, dV, iV, bV, E133b, O242, argD, List.map_nil, mkC_nil, mkO_nil] at hv hw h ⊢
    simp only [tmC] at hv hw h ⊢
    simp only [zS, nilEq, wantedA, opA, eff, boxA, cells, ev, gt, pt, putO, updO, setO, okC, loadA, cutC, fieldAddrA, fieldA, indexAddrA, indexA, builtinA, callOpA, callV, target, ptrV, lenS, binA, intOp, strOp, unA, num, lk, over, allocA, pickA, buildA, fillA, convertA, extractA, ofComp, nilCheckA, makeFuncA, ptrs, ofValue, cellB, Nat.reduceAdd, Nat.reduceSub, Nat.reduceMul, Nat.reduceLT, Nat.reduceLeDiff, Nat.reduceGT, ↓reduceIte, Nat.reduceEqDiff, Nat.reduceBEq, reduceCtorEq, Int.reduceBEq, Int.reduceBNe, Int.reduceLT, Int.reduceLE, Int.reduceGT, Int.reduceGE, aggT_33, sizeT_33, bytesT_33, fieldT_33_0, fieldT_33_1, fieldT_33_2, fieldT_33_3, fieldT_33_4, placesT_33, zeroT_33, aggT_31, sizeT_31, bytesT_31, und_31, elemT_31, isSliceT_31, zero1_31, zeroT_31, aggT_30, sizeT_30, bytesT_30, und_30, elemT_30, isSliceT_30, zero1_30, zeroT_30, aggT_9, sizeT_9, bytesT_9, und_9, zero1_9, zeroT_9, aggT_3, sizeT_3, bytesT_3, und_3, zero1_3, zeroT_3, hv, hw, ge_iff_le, e]
    (refine (r_inLoop_some ?_).trans h; kernel_rfl)
theorem step133a (x t y A : Tm) (d n : Int) (ls : List Tm) (k : Nat) (hb : ls.length < 2 ^ 29) (hk : x.l[k]? = some t) (hl : (k : Int) < x.l.length)
    (hr : run Tryz.prog ext (.call 133 [tmV t, dV (argD A), iV d] []) = some (.ret [tmV y] [])) (out : Option Out)
    (h : H133a ext 0 (E133a A d (wr ((k : Int) + 1))) (O242 x n (ls ++ [y])) = out) : H133a ext 0 (E133a A d k) (O242 x n ls) = out := by
  have h0 : (0 : Int) ≤ k := by omega
  unfold H133a at h ⊢
  cases ls with
  | nil =>
    simp only [tmV, tmC_z, tmC, dV, iV, bV, E133a, O242, argD, lD_lt hl, List.map_append, List.map_cons, List.map_nil, mkC_nil, mkC_snoc, mkO_snoc, mkO_nil, List.nil_append, tmD_eq y] at h hr ⊢
    (rw [show (It.code L133a) = It.code (sub B133 [1, 0, 1, 0, 1, 1, 1, 0, 1, 0, 0]) from rfl]; simp only [B133, K133a, sub, Option.getD_some, Tryz.f133, ↓reduceIte, Nat.one_ne_zero])
    simp only [zS, nilEq, wantedA, opA, eff, boxA, cells, ev, gt, pt, putO, updO, setO, okC, loadA, cutC, fieldAddrA, fieldA, indexAddrA, indexA, builtinA, callOpA, callV, target, ptrV, lenS, binA, intOp, strOp, unA, num, lk, over, allocA, pickA, buildA, fillA, convertA, extractA, ofComp, nilCheckA, makeFuncA, ptrs, ofValue, cellB, Nat.reduceAdd, Nat.reduceSub, Nat.reduceMul, Nat.reduceLT, Nat.reduceLeDiff, Nat.reduceGT, ↓reduceIte, Nat.reduceEqDiff, Nat.reduceBEq, reduceCtorEq, Int.reduceBEq, Int.reduceBNe, Int.reduceLT, Int.reduceLE, Int.reduceGT, Int.reduceGE, aggT_33, sizeT_33, bytesT_33, fieldT_33_0, fieldT_33_1, fieldT_33_2, fieldT_33_3, fieldT_33_4, placesT_33, zeroT_33, aggT_31, sizeT_31, bytesT_31, und_31, elemT_31, isSliceT_31, zero1_31, zeroT_31, aggT_3, sizeT_3, bytesT_3, und_3, zero1_3, zeroT_3, drawA, holes_succ, holes_zero, Array.size, List.length, lenA_lD, h0, hl, Int.toNat_natCast, hk, tmD_eq t, hr, bsTm, no31, apH_arr, Nat.zero_le]
    rw [afterDraw_some _ _ _ _ (by kernel_rfl)]
    simp only [zS, nilEq, wantedA, opA, eff, boxA, cells, ev, gt, pt, putO, updO, setO, okC, loadA, cutC, fieldAddrA, fieldA, indexAddrA, indexA, builtinA, callOpA, callV, target, ptrV, lenS, binA, intOp, strOp, unA, num, lk, over, allocA, pickA, buildA, fillA, convertA, extractA, ofComp, nilCheckA, makeFuncA, ptrs, ofValue, cellB, Nat.reduceAdd, Nat.reduceSub, Nat.reduceMul, Nat.reduceLT, Nat.reduceLeDiff, Nat.reduceGT, ↓reduceIte, Nat.reduceEqDiff, Nat.reduceBEq, reduceCtorEq, Int.reduceBEq, Int.reduceBNe, Int.reduceLT, Int.reduceLE, Int.reduceGT, Int.reduceGE, aggT_33, sizeT_33, bytesT_33, fieldT_33_0, fieldT_33_1, fieldT_33_2, fieldT_33_3, fieldT_33_4, placesT_33, zeroT_33, aggT_31, sizeT_31, bytesT_31, und_31, elemT_31, isSliceT_31, zero1_31, zeroT_31, aggT_3, sizeT_3, bytesT_3, und_3, zero1_3, zeroT_3]
    (refine (r_inLoop_some ?_).trans h; kernel_rfl)
  | cons a r =>
    have hb' : r.length + 1 ≤ 1000000000 := by simp only [List.length_cons] at hb; omega
    simp only [tmV, tmC_z, tmC, dV, iV, bV, E133a, O242, argD, lD_lt hl, List.map_append, List.map_cons, List.map_nil, mkC_cons, mkC_snoc, mkO_snoc, mkO_cons, List.cons_append, List.nil_append, tmD_eq y] at h hr ⊢
    (rw [show (It.code L133a) = It.code (sub B133 [1, 0, 1, 0, 1, 1, 1, 0, 1, 0, 0]) from rfl]; simp only [B133, K133a, sub, Option.getD_some, Tryz.f133, ↓reduceIte, Nat.one_ne_zero])
    simp only [zS, nilEq, wantedA, opA, eff, boxA, cells, ev, gt, pt, putO, updO, setO, okC, loadA, cutC, fieldAddrA, fieldA, indexAddrA, indexA, builtinA, callOpA, callV, target, ptrV, lenS, binA, intOp, strOp, unA, num, lk, over, allocA, pickA, buildA, fillA, convertA, extractA, ofComp, nilCheckA, makeFuncA, ptrs, ofValue, cellB, Nat.reduceAdd, Nat.reduceSub, Nat.reduceMul, Nat.reduceLT, Nat.reduceLeDiff, Nat.reduceGT, ↓reduceIte, Nat.reduceEqDiff, Nat.reduceBEq, reduceCtorEq, Int.reduceBEq, Int.reduceBNe, Int.reduceLT, Int.reduceLE, Int.reduceGT, Int.reduceGE, aggT_33, sizeT_33, bytesT_33, fieldT_33_0, fieldT_33_1, fieldT_33_2, fieldT_33_3, fieldT_33_4, placesT_33, zeroT_33, aggT_31, sizeT_31, bytesT_31, und_31, elemT_31, isSliceT_31, zero1_31, zeroT_31, aggT_3, sizeT_3, bytesT_3, und_3, zero1_3, zeroT_3, drawA, holes_succ, holes_zero, Array.size, List.length, lenA_lD, h0, hl, Int.toNat_natCast, hk, tmD_eq t, hr, bsTm, oo31, apG_arr, hb']
    rw [afterDraw_some _ _ _ _ (by kernel_rfl)]
    simp only [zS, nilEq, wantedA, opA, eff, boxA, cells, ev, gt, pt, putO, updO, setO, okC, loadA, cutC, fieldAddrA, fieldA, indexAddrA, indexA, builtinA, callOpA, callV, target, ptrV, lenS, binA, intOp, strOp, unA, num, lk, over, allocA, pickA, buildA, fillA, convertA, extractA, ofComp, nilCheckA, makeFuncA, ptrs, ofValue, cellB, Nat.reduceAdd, Nat.reduceSub, Nat.reduceMul, Nat.reduceLT, Nat.reduceLeDiff, Nat.reduceGT, ↓reduceIte, Nat.reduceEqDiff, Nat.reduceBEq, reduceCtorEq, Int.reduceBEq, Int.reduceBNe, Int.reduceLT, Int.reduceLE, Int.reduceGT, Int.reduceGE, aggT_33, sizeT_33, bytesT_33, fieldT_33_0, fieldT_33_1, fieldT_33_2, fieldT_33_3, fieldT_33_4, placesT_33, zeroT_33, aggT_31, sizeT_31, bytesT_31, und_31, elemT_31, isSliceT_31, zero1_31, zeroT_31, aggT_3, sizeT_3, bytesT_3, und_3, zero1_3, zeroT_3]
    (refine (r_inLoop_some ?_).trans h; kernel_rfl)
theorem done133a (x A : Tm) (d n : Int) (ls : List Tm) : H133a ext 0 (E133a A d x.l.length) (O242 x n ls) = some (.ret [tmV (.mk x.op n x.s (x.u.map cpLev) true ls true)] []) := by
  unfold H133a
  cases ls
  all_goals
    simp only [tmV, tmC_mk, tmC_z, dV, iV, bV, E133a, O242, argD, List.map_cons, List.map_nil, mkC_nil, mkC_cons, mkO_nil, mkO_cons]
    simp only [tmC]
    (rw [show (It.code L133a) = It.code (sub B133 [1, 0, 1, 0, 1, 1, 1, 0, 1, 0, 0]) from rfl]; simp only [B133, K133a, sub, Option.getD_some, Tryz.f133, ↓reduceIte, Nat.one_ne_zero])
    simp only [zS, nilEq, wantedA, opA, eff, boxA, cells, ev, gt, pt, putO, updO, setO, okC, loadA, cutC, fieldAddrA, fieldA, indexAddrA, indexA, builtinA, callOpA, callV, target, ptrV, lenS, binA, intOp, strOp, unA, num, lk, over, allocA, pickA, buildA, fillA, convertA, extractA, ofComp, nilCheckA, makeFuncA, ptrs, ofValue, cellB, Nat.reduceAdd, Nat.reduceSub, Nat.reduceMul, Nat.reduceLT, Nat.reduceLeDiff, Nat.reduceGT, ↓reduceIte, Nat.reduceEqDiff, Nat.reduceBEq, reduceCtorEq, Int.reduceBEq, Int.reduceBNe, Int.reduceLT, Int.reduceLE, Int.reduceGT, Int.reduceGE, aggT_33, sizeT_33, bytesT_33, fieldT_33_0, fieldT_33_1, fieldT_33_2, fieldT_33_3, fieldT_33_4, placesT_33, zeroT_33, aggT_31, sizeT_31, bytesT_31, und_31, elemT_31, isSliceT_31, zero1_31, zeroT_31, aggT_30, sizeT_30, bytesT_30, und_30, elemT_30, isSliceT_30, zero1_30, zeroT_30, aggT_3, sizeT_3, bytesT_3, und_3, zero1_3, zeroT_3, lenA_lD, Int.lt_irrefl]
    (refine Eq.trans ?_ rfl; kernel_rfl)
theorem step133b (h205 : ext 205 = none) (x t y A : Tm) (d n : Int) (ls : List Tm) (k : Nat) (hb : ls.length < 2 ^ 29) (hk : x.l[k]? = some t) (hl : (k : Int) < x.l.length)
    (hr : run Tryz.prog ext (.call 133 [tmV t, dV (argD A), iV (wr (d + binds x.op x.l.length k))] []) = some (.ret [tmV y] [])) (out : Option Out)
    (h : H133b ext 0 (E133b A d (wr ((k : Int) + 1))) (O242 x n (ls ++ [y])) = out) : H133b ext 0 (E133b A d k) (O242 x n ls) = out := by
  have h0 : (0 : Int) ≤ k := by omega
  have hB := binds205 ext h205 x k
  generalize binds x.op x.l.length k = bd at hB hr
  unfold H133b at h ⊢
  cases ls with
  | nil =>
    simp only [tmV, tmC_z, tmC, dV, iV, bV, E133b, O242, argD, lD_lt hl, List.map_append, List.map_cons, List.map_nil, mkC_nil, mkC_snoc, mkO_snoc, mkO_nil, List.nil_append, tmD_eq y] at h hr hB ⊢
    (rw [show (It.code L133b) = It.code (sub B133 [1, 1, 1, 0, 1, 0, 0]) from rfl]; simp only [B133, K133b, sub, Option.getD_some, Tryz.f133, ↓reduceIte, Nat.one_ne_zero])
    simp only [zS, nilEq, wantedA, opA, eff, boxA, cells, ev, gt, pt, putO, updO, setO, okC, loadA, cutC, fieldAddrA, fieldA, indexAddrA, indexA, builtinA, callOpA, callV, target, ptrV, lenS, binA, intOp, strOp, unA, num, lk, over, allocA, pickA, buildA, fillA, convertA, extractA, ofComp, nilCheckA, makeFuncA, ptrs, ofValue, cellB, Nat.reduceAdd, Nat.reduceSub, Nat.reduceMul, Nat.reduceLT, Nat.reduceLeDiff, Nat.reduceGT, ↓reduceIte, Nat.reduceEqDiff, Nat.reduceBEq, reduceCtorEq, Int.reduceBEq, Int.reduceBNe, Int.reduceLT, Int.reduceLE, Int.reduceGT, Int.reduceGE, aggT_33, sizeT_33, bytesT_33, fieldT_33_0, fieldT_33_1, fieldT_33_2, fieldT_33_3, fieldT_33_4, placesT_33, zeroT_33, aggT_31, sizeT_31, bytesT_31, und_31, elemT_31, isSliceT_31, zero1_31, zeroT_31, aggT_3, sizeT_3, bytesT_3, und_3, zero1_3, zeroT_3, drawA, holes_succ, holes_zero, Array.size, List.length, lenA_lD, h0, hl, Int.toNat_natCast, hk, tmD_eq t, hB, hr, bsTm, no31, apH_arr, Nat.zero_le]
    rw [afterDraw_some _ _ _ _ (by kernel_rfl)]
    simp only [zS, nilEq, wantedA, opA, eff, boxA, cells, ev, gt, pt, putO, updO, setO, okC, loadA, cutC, fieldAddrA, fieldA, indexAddrA, indexA, builtinA, callOpA, callV, target, ptrV, lenS, binA, intOp, strOp, unA, num, lk, over, allocA, pickA, buildA, fillA, convertA, extractA, ofComp, nilCheckA, makeFuncA, ptrs, ofValue, cellB, Nat.reduceAdd, Nat.reduceSub, Nat.reduceMul, Nat.reduceLT, Nat.reduceLeDiff, Nat.reduceGT, ↓reduceIte, Nat.reduceEqDiff, Nat.reduceBEq, reduceCtorEq, Int.reduceBEq, Int.reduceBNe, Int.reduceLT, Int.reduceLE, Int.reduceGT, Int.reduceGE, aggT_33, sizeT_33, bytesT_33, fieldT_33_0, fieldT_33_1, fieldT_33_2, fieldT_33_3, fieldT_33_4, placesT_33, zeroT_33, aggT_31, sizeT_31, bytesT_31, und_31, elemT_31, isSliceT_31, zero1_31, zeroT_31, aggT_3, sizeT_3, bytesT_3, und_3, zero1_3, zeroT_3]
    (refine (r_inLoop_some ?_).trans h; kernel_rfl)
  | cons a r =>
    have hb' : r.length + 1 ≤ 1000000000 := by simp only [List.length_cons] at hb; omega
    simp only [tmV, tmC_z, tmC, dV, iV, bV, E133b, O242, argD, lD_lt hl, List.map_append, List.map_cons, List.map_nil, mkC_cons, mkC_snoc, mkO_snoc, mkO_cons, List.cons_append, List.nil_append, tmD_eq y] at h hr hB ⊢
    (rw [show (It.code L133b) = It.code (sub B133 [1, 1, 1, 0, 1, 0, 0]) from rfl]; simp only [B133, K133b, sub, Option.getD_some, Tryz.f133, ↓reduceIte, Nat.one_ne_zero])
    simp only [zS, nilEq, wantedA, opA, eff, boxA, cells, ev, gt, pt, putO, updO, setO, okC, loadA, cutC, fieldAddrA, fieldA, indexAddrA, indexA, builtinA, callOpA, callV, target, ptrV, lenS, binA, intOp, strOp, unA, num, lk, over, allocA, pickA, buildA, fillA, convertA, extractA, ofComp, nilCheckA, makeFuncA, ptrs, ofValue, cellB, Nat.reduceAdd, Nat.reduceSub, Nat.reduceMul, Nat.reduceLT, Nat.reduceLeDiff, Nat.reduceGT, ↓reduceIte, Nat.reduceEqDiff, Nat.reduceBEq, reduceCtorEq, Int.reduceBEq, Int.reduceBNe, Int.reduceLT, Int.reduceLE, Int.reduceGT, Int.reduceGE, aggT_33, sizeT_33, bytesT_33, fieldT_33_0, fieldT_33_1, fieldT_33_2, fieldT_33_3, fieldT_33_4, placesT_33, zeroT_33, aggT_31, sizeT_31, bytesT_31, und_31, elemT_31, isSliceT_31, zero1_31, zeroT_31, aggT_3, sizeT_3, bytesT_3, und_3, zero1_3, zeroT_3, drawA, holes_succ, holes_zero, Array.size, List.length, lenA_lD, h0, hl, Int.toNat_natCast, hk, tmD_eq t, hB, hr, bsTm, oo31, apG_arr, hb']
    rw [afterDraw_some _ _ _ _ (by kernel_rfl)]
    simp only [zS, nilEq, wantedA, opA, eff, boxA, cells, ev, gt, pt, putO, updO, setO, okC, loadA, cutC, fieldAddrA, fieldA, indexAddrA, indexA, builtinA, callOpA, callV, target, ptrV, lenS, binA, intOp, strOp, unA, num, lk, over, allocA, pickA, buildA, fillA, convertA, extractA, ofComp, nilCheckA, makeFuncA, ptrs, ofValue, cellB, Nat.reduceAdd, Nat.reduceSub, Nat.reduceMul, Nat.reduceLT, Nat.reduceLeDiff, Nat.reduceGT, ↓reduceIte, Nat.reduceEqDiff, Nat.reduceBEq, reduceCtorEq, Int.reduceBEq, Int.reduceBNe, Int.reduceLT, Int.reduceLE, Int.reduceGT, Int.reduceGE, aggT_33, sizeT_33, bytesT_33, fieldT_33_0, fieldT_33_1, fieldT_33_2, fieldT_33_3, fieldT_33_4, placesT_33, zeroT_33, aggT_31, sizeT_31, bytesT_31, und_31, elemT_31, isSliceT_31, zero1_31, zeroT_31, aggT_3, sizeT_3, bytesT_3, und_3, zero1_3, zeroT_3]
    (refine (r_inLoop_some ?_).trans h; kernel_rfl)
theorem done133b (x A : Tm) (d n : Int) (ls : List Tm) : H133b ext 0 (E133b A d x.l.length) (O242 x n ls) = some (.ret [tmV (.mk x.op n x.s (x.u.map cpLev) true ls true)] []) := by
  unfold H133b
  cases ls
  all_goals
    simp only [tmV, tmC_mk, tmC_z, dV, iV, bV, E133b, O242, argD, List.map_cons, List.map_nil, mkC_nil, mkC_cons, mkO_nil, mkO_cons]
    simp only [tmC]
    (rw [show (It.code L133b) = It.code (sub B133 [1, 1, 1, 0, 1, 0, 0]) from rfl]; simp only [B133, K133b, sub, Option.getD_some, Tryz.f133, ↓reduceIte, Nat.one_ne_zero])
    simp only [zS, nilEq, wantedA, opA, eff, boxA, cells, ev, gt, pt, putO, updO, setO, okC, loadA, cutC, fieldAddrA, fieldA, indexAddrA, indexA, builtinA, callOpA, callV, target, ptrV, lenS, binA, intOp, strOp, unA, num, lk, over, allocA, pickA, buildA, fillA, convertA, extractA, ofComp, nilCheckA, makeFuncA, ptrs, ofValue, cellB, Nat.reduceAdd, Nat.reduceSub, Nat.reduceMul, Nat.reduceLT, Nat.reduceLeDiff, Nat.reduceGT, ↓reduceIte, Nat.reduceEqDiff, Nat.reduceBEq, reduceCtorEq, Int.reduceBEq, Int.reduceBNe, Int.reduceLT, Int.reduceLE, Int.reduceGT, Int.reduceGE, aggT_33, sizeT_33, bytesT_33, fieldT_33_0, fieldT_33_1, fieldT_33_2, fieldT_33_3, fieldT_33_4, placesT_33, zeroT_33, aggT_31, sizeT_31, bytesT_31, und_31, elemT_31, isSliceT_31, zero1_31, zeroT_31, aggT_30, sizeT_30, bytesT_30, und_30, elemT_30, isSliceT_30, zero1_30, zeroT_30, aggT_3, sizeT_3, bytesT_3, und_3, zero1_3, zeroT_3, lenA_lD, Int.lt_irrefl]
    (refine Eq.trans ?_ rfl; kernel_rfl)
theorem fill133 (hx : ext 133 = none) (h203 : ext 203 = none) (h209 : ext 209 = none) (h242 : ext 242 = none) (h202 : ext 202 = none) (h205 : ext 205 = none) (h204 : ext 204 = none) (h89 : ext 89 = none) (h49 : ext 49 = none) (A : Tm) (hA : A.sz < 2 ^ 29) : ∀ (N : Nat) (x : Tm) (d : Int), x.sz ≤ N → 0 ≤ d → d + 3 * N < 2 ^ 31 → N < 2 ^ 29 →
    run Tryz.prog ext (.call 133 [tmV x, dV (argD A), iV d] []) = some (.ret [tmV (flR A N x d)] [])
  | 0, x, d, h, _, _, _ => by have := x.sz_pos; omega
  | N + 1, x, d, h, h0, h1, hN => by
    have hll := x.len_lt
    have hw := with204 ext h204 h89 h49 x (by omega)
    rw [flR]
    cases c : (isVar x && decide (d ≤ x.n)) with
    | true =>
      rw [if_pos rfl]
      simp only [Bool.and_eq_true, decide_eq_true_eq] at c
      by_cases g : x.n - d < 1
      · rw [if_pos g]
        exact hit133 ext hx h202 x A d h0 (by omega) c.1 c.2 g _ (up203 ext h203 h209 h242 h202 h205 h204 h89 h49 A hA d h0 (by omega))
      · rw [if_neg g]
        refine far133 ext hx h202 x A d h0 (by omega) c.1 c.2 g hw _ ?_
        have ha := loop_mapE (fun y : Tm => (flR A N y d, (0 : Int))) x.l (fun k ls => H133a ext 0 (E133a A d k) (O242 x (wr (x.n - 1)) ls)) (fun _ => none)
          (fun ls => some (.ret [tmV (.mk x.op (wr (x.n - 1)) x.s (x.u.map cpLev) true ls true)] [])) (by omega) (fun k y ls hk hl he => by
            have hr := fill133 hx h203 h209 h242 h202 h205 h204 h89 h49 A hA N y d (by have := Tm.sz_lt (List.mem_of_getElem? hk); omega) h0 (by omega) (by omega)
            exact ⟨fun _ out ho => step133a ext x y _ A d _ ls k (by omega) hk hl hr out ho, fun h => absurd rfl h⟩) (fun ls _ => done133a ext x A d _ ls)
        rw [mapE_pure (fun y => flR A N y d)] at ha
        exact ha
    | false =>
      rw [if_neg (by simp)]
      refine not133 ext hx h202 x A d c hw _ ?_
      have ha := loop_mapE (fun p : Tm × Nat => (flR A N p.1 (wr (d + binds x.op x.l.length p.2)), (0 : Int))) x.l.zipIdx (fun k ls => H133b ext 0 (E133b A d k) (O242 x x.n ls)) (fun _ => none)
        (fun ls => some (.ret [tmV (.mk x.op x.n x.s (x.u.map cpLev) true ls true)] [])) (by rw [List.length_zipIdx]; omega) (fun k p ls hk hl he => by
          obtain ⟨hk', hp⟩ := zipIdx_get hk
          rw [List.length_zipIdx] at hl
          have hbd := binds_le x.op x.l.length p.2
          have hwd : wr (d + binds x.op x.l.length p.2) = d + binds x.op x.l.length p.2 := wr_id (by omega) (by omega)
          have hr := fill133 hx h203 h209 h242 h202 h205 h204 h89 h49 A hA N p.1 (wr (d + binds x.op x.l.length p.2)) (by have := Tm.sz_lt (List.mem_of_getElem? hk'); omega) (by omega) (by omega) (by omega)
          rw [hp] at hr ⊢
          exact ⟨fun _ out ho => step133b ext h205 x p.1 _ A d _ ls k (by omega) hk' hl hr out ho, fun h => absurd rfl h⟩) (fun ls _ => by rw [List.length_zipIdx]; exact done133b ext x A d _ ls)
      rw [mapE_pure (fun p : Tm × Nat => flR A N p.1 (wr (d + binds x.op x.l.length p.2)))] at ha
      exact ha
end Go.Proofs.YteenjodhmppgjaaGreatDoor.Am
end
section
/- Arg, by the reference. -/
namespace Go.Proofs.YteenjodhmppgjaaGreatDoor.Am
open Go
variable (ext : Ext)
set_option maxHeartbeats 8000000
set_option maxRecDepth 4000
theorem fill88 (hx : ext 88 = none) (x A : Tm) (y : Tm) (hr : run Tryz.prog ext (.call 133 [tmV x, dV (argD A), iV 0] []) = some (.ret [tmV y] [])) : run Tryz.prog ext (.call 88 [tmV x, dV (argD A)] []) = some (.ret [tmV y] []) := by
  (rw [run_eq]; simp only [stepA, hx, Tryz.func88, Tryz.f88, show retF 88 = false from rfl]; simp only [List.length_cons, List.length_nil, Nat.reduceAdd, Nat.reduceLeDiff, Nat.zero_le, ↓reduceIte, List.zipIdx_cons, List.zipIdx_nil, List.map_cons, List.map_nil])
  simp only [tmV, tmC, dV, iV, argD] at hr ⊢
  simp only [zS, nilEq, wantedA, opA, eff, boxA, cells, ev, gt, pt, putO, updO, setO, okC, loadA, cutC, fieldAddrA, fieldA, indexAddrA, indexA, builtinA, callOpA, callV, target, ptrV, lenS, binA, intOp, strOp, unA, num, lk, over, allocA, pickA, buildA, fillA, convertA, extractA, ofComp, nilCheckA, makeFuncA, ptrs, ofValue, cellB, Nat.reduceAdd, Nat.reduceSub, Nat.reduceMul, Nat.reduceLT, Nat.reduceLeDiff, Nat.reduceGT, ↓reduceIte, Nat.reduceEqDiff, Nat.reduceBEq, reduceCtorEq, Int.reduceBEq, Int.reduceBNe, Int.reduceLT, Int.reduceLE, Int.reduceGT, Int.reduceGE, aggT_33, sizeT_33, bytesT_33, fieldT_33_0, fieldT_33_1, fieldT_33_2, fieldT_33_3, fieldT_33_4, placesT_33, zeroT_33, aggT_31, sizeT_31, bytesT_31, und_31, elemT_31, isSliceT_31, zero1_31, zeroT_31, aggT_3, sizeT_3, bytesT_3, und_3, zero1_3, zeroT_3, hr]
  (refine Eq.trans ?_ rfl; kernel_rfl)
def conArg (d : Dc) (i : Int) : Tm := match d.cons[i.toNat]? with | some c => c.arg | none => zTm
def declOf (f : Lev → Lev × Int) (x : Tb) (s : ByteArray) (n : Nat) (i : Int) : Tm × Int :=
  if (inst x s n).2 = 0 then if 0 ≤ i ∧ i < (inst x s n).1.cons.length then setL f (conArg (inst x s n).1 i) else (zTm, 42) else (zTm, (inst x s n).2)
theorem decl87 (hx : ext 87 = none) (f : Lev → Lev × Int) (x : Tb) (s : ByteArray) (z : Bool) (l : List Lev) (i : Int) (ht : run Tryz.prog ext (.call 73 [tbV x, sV s] []) = some (.ret [dcV (family x s).1, bV (family x s).2] []))
    (hr : run Tryz.prog ext (.call 81 [tmV (conArg (family x s).1 i), dV (listD z 2 (l.map levD))] []) = some (.ret [tmV (setL f (conArg (family x s).1 i)).1, iV (setL f (conArg (family x s).1 i)).2] [])) :
    run Tryz.prog ext (.call 87 [tbV x, sV s, dV (listD z 2 (l.map levD)), iV i] []) = some (.ret [tmV (declOf f x s l.length i).1, iV (declOf f x s l.length i).2] []) := by
  unfold declOf inst
  generalize family x s = p at ht hr ⊢
  obtain ⟨d, b⟩ := p
  cases b with
  | false =>
    (rw [run_eq]; simp only [stepA, hx, Tryz.func87, Tryz.f87, show retF 87 = false from rfl]; simp only [List.length_cons, List.length_nil, Nat.reduceAdd, Nat.reduceLeDiff, Nat.zero_le, ↓reduceIte, List.zipIdx_cons, List.zipIdx_nil, List.map_cons, List.map_nil])
    simp only [dcV, dcC, tbV, tbC, tmV, tmC_z, tmC, sV, iV, bV, dV] at ht ⊢
    simp only [zS, nilEq, wantedA, opA, eff, boxA, cells, ev, gt, pt, putO, updO, setO, okC, loadA, cutC, fieldAddrA, fieldA, indexAddrA, indexA, builtinA, callOpA, callV, target, ptrV, lenS, binA, intOp, strOp, unA, num, lk, over, allocA, pickA, buildA, fillA, convertA, extractA, ofComp, nilCheckA, makeFuncA, ptrs, ofValue, cellB, Nat.reduceAdd, Nat.reduceSub, Nat.reduceMul, Nat.reduceLT, Nat.reduceLeDiff, Nat.reduceGT, ↓reduceIte, Nat.reduceEqDiff, Nat.reduceBEq, reduceCtorEq, Int.reduceBEq, Int.reduceBNe, Int.reduceLT, Int.reduceLE, Int.reduceGT, Int.reduceGE, aggT_24, sizeT_24, bytesT_24, fieldT_24_0, placesT_24, zeroT_24, aggT_39, sizeT_39, bytesT_39, fieldT_39_0, fieldT_39_1, fieldT_39_2, fieldT_39_3, fieldT_39_4, fieldT_39_5, fieldT_39_6, fieldT_39_7, fieldT_39_8, placesT_39, zeroT_39, aggT_33, sizeT_33, bytesT_33, fieldT_33_0, fieldT_33_1, fieldT_33_2, fieldT_33_3, fieldT_33_4, placesT_33, zeroT_33, aggT_36, sizeT_36, bytesT_36, fieldT_36_0, fieldT_36_1, placesT_36, zeroT_36, aggT_30, sizeT_30, bytesT_30, und_30, elemT_30, isSliceT_30, zero1_30, zeroT_30, aggT_27, sizeT_27, bytesT_27, und_27, zero1_27, zeroT_27, aggT_9, sizeT_9, bytesT_9, und_9, zero1_9, zeroT_9, aggT_3, sizeT_3, bytesT_3, und_3, zero1_3, zeroT_3, ht, callOut_vd]
    (refine Eq.trans ?_ rfl; kernel_rfl)
  | true =>
    by_cases c : (l.length : Int) = d.levels
    · dsimp only
      rw [if_pos rfl, if_pos c, if_pos rfl]
      by_cases c1 : i < 0
      · rw [if_neg (by omega)]
        (rw [run_eq]; simp only [stepA, hx, Tryz.func87, Tryz.f87, show retF 87 = false from rfl]; simp only [List.length_cons, List.length_nil, Nat.reduceAdd, Nat.reduceLeDiff, Nat.zero_le, ↓reduceIte, List.zipIdx_cons, List.zipIdx_nil, List.map_cons, List.map_nil])
        simp only [dcV, dcC, tbV, tbC, tmV, tmC_z, tmC, sV, iV, bV, dV] at ht ⊢
        simp only [zS, nilEq, wantedA, opA, eff, boxA, cells, ev, gt, pt, putO, updO, setO, okC, loadA, cutC, fieldAddrA, fieldA, indexAddrA, indexA, builtinA, callOpA, callV, target, ptrV, lenS, binA, intOp, strOp, unA, num, lk, over, allocA, pickA, buildA, fillA, convertA, extractA, ofComp, nilCheckA, makeFuncA, ptrs, ofValue, cellB, Nat.reduceAdd, Nat.reduceSub, Nat.reduceMul, Nat.reduceLT, Nat.reduceLeDiff, Nat.reduceGT, ↓reduceIte, Nat.reduceEqDiff, Nat.reduceBEq, reduceCtorEq, Int.reduceBEq, Int.reduceBNe, Int.reduceLT, Int.reduceLE, Int.reduceGT, Int.reduceGE, aggT_24, sizeT_24, bytesT_24, fieldT_24_0, placesT_24, zeroT_24, aggT_39, sizeT_39, bytesT_39, fieldT_39_0, fieldT_39_1, fieldT_39_2, fieldT_39_3, fieldT_39_4, fieldT_39_5, fieldT_39_6, fieldT_39_7, fieldT_39_8, placesT_39, zeroT_39, aggT_33, sizeT_33, bytesT_33, fieldT_33_0, fieldT_33_1, fieldT_33_2, fieldT_33_3, fieldT_33_4, placesT_33, zeroT_33, aggT_36, sizeT_36, bytesT_36, fieldT_36_0, fieldT_36_1, placesT_36, zeroT_36, aggT_37, sizeT_37, bytesT_37, und_37, elemT_37, isSliceT_37, zero1_37, zeroT_37, aggT_30, sizeT_30, bytesT_30, und_30, elemT_30, isSliceT_30, zero1_30, zeroT_30, aggT_27, sizeT_27, bytesT_27, und_27, zero1_27, zeroT_27, aggT_9, sizeT_9, bytesT_9, und_9, zero1_9, zeroT_9, aggT_3, sizeT_3, bytesT_3, und_3, zero1_3, zeroT_3, ht, callOut_vd, c, c1]
        (refine Eq.trans ?_ rfl; kernel_rfl)
      by_cases c2 : (d.cons.length : Int) ≤ i
      · rw [if_neg (by omega)]
        (rw [run_eq]; simp only [stepA, hx, Tryz.func87, Tryz.f87, show retF 87 = false from rfl]; simp only [List.length_cons, List.length_nil, Nat.reduceAdd, Nat.reduceLeDiff, Nat.zero_le, ↓reduceIte, List.zipIdx_cons, List.zipIdx_nil, List.map_cons, List.map_nil])
        simp only [dcV, dcC, tbV, tbC, tmV, tmC_z, tmC, sV, iV, bV, dV] at ht ⊢
        simp only [zS, nilEq, wantedA, opA, eff, boxA, cells, ev, gt, pt, putO, updO, setO, okC, loadA, cutC, fieldAddrA, fieldA, indexAddrA, indexA, builtinA, callOpA, callV, target, ptrV, lenS, binA, intOp, strOp, unA, num, lk, over, allocA, pickA, buildA, fillA, convertA, extractA, ofComp, nilCheckA, makeFuncA, ptrs, ofValue, cellB, Nat.reduceAdd, Nat.reduceSub, Nat.reduceMul, Nat.reduceLT, Nat.reduceLeDiff, Nat.reduceGT, ↓reduceIte, Nat.reduceEqDiff, Nat.reduceBEq, reduceCtorEq, Int.reduceBEq, Int.reduceBNe, Int.reduceLT, Int.reduceLE, Int.reduceGT, Int.reduceGE, aggT_24, sizeT_24, bytesT_24, fieldT_24_0, placesT_24, zeroT_24, aggT_39, sizeT_39, bytesT_39, fieldT_39_0, fieldT_39_1, fieldT_39_2, fieldT_39_3, fieldT_39_4, fieldT_39_5, fieldT_39_6, fieldT_39_7, fieldT_39_8, placesT_39, zeroT_39, aggT_33, sizeT_33, bytesT_33, fieldT_33_0, fieldT_33_1, fieldT_33_2, fieldT_33_3, fieldT_33_4, placesT_33, zeroT_33, aggT_36, sizeT_36, bytesT_36, fieldT_36_0, fieldT_36_1, placesT_36, zeroT_36, aggT_37, sizeT_37, bytesT_37, und_37, elemT_37, isSliceT_37, zero1_37, zeroT_37, aggT_30, sizeT_30, bytesT_30, und_30, elemT_30, isSliceT_30, zero1_30, zeroT_30, aggT_27, sizeT_27, bytesT_27, und_27, zero1_27, zeroT_27, aggT_9, sizeT_9, bytesT_9, und_9, zero1_9, zeroT_9, aggT_3, sizeT_3, bytesT_3, und_3, zero1_3, zeroT_3, ht, callOut_vd, c, c1, c2, lenA_cd, ge_iff_le]
        (refine Eq.trans ?_ rfl; kernel_rfl)
      rw [if_pos ⟨by omega, by omega⟩]
      obtain ⟨k, rfl⟩ : ∃ k : Nat, i = k := ⟨i.toNat, by omega⟩
      have h0 : (0 : Int) ≤ k := by omega
      have hl : (k : Int) < d.cons.length := by omega
      have hk : d.cons[k]? = some (d.cons[k]'(by omega)) := by simp
      generalize d.cons[k]'(by omega) = y at hk
      have ey : conArg d k = y.arg := by simp [conArg, hk]
      rw [ey] at hr ⊢
      generalize setL f y.arg = q at hr ⊢
      have hd := consD_lt hl
      (rw [run_eq]; simp only [stepA, hx, Tryz.func87, Tryz.f87, show retF 87 = false from rfl]; simp only [List.length_cons, List.length_nil, Nat.reduceAdd, Nat.reduceLeDiff, Nat.zero_le, ↓reduceIte, List.zipIdx_cons, List.zipIdx_nil, List.map_cons, List.map_nil])
      simp only [dcV, dcC, tbV, tbC, tmV, tmC, sV, iV, bV, dV, hd] at ht hr ⊢
      simp only [zS, nilEq, wantedA, opA, eff, boxA, cells, ev, gt, pt, putO, updO, setO, okC, loadA, cutC, fieldAddrA, fieldA, indexAddrA, indexA, builtinA, callOpA, callV, target, ptrV, lenS, binA, intOp, strOp, unA, num, lk, over, allocA, pickA, buildA, fillA, convertA, extractA, ofComp, nilCheckA, makeFuncA, ptrs, ofValue, cellB, Nat.reduceAdd, Nat.reduceSub, Nat.reduceMul, Nat.reduceLT, Nat.reduceLeDiff, Nat.reduceGT, ↓reduceIte, Nat.reduceEqDiff, Nat.reduceBEq, reduceCtorEq, Int.reduceBEq, Int.reduceBNe, Int.reduceLT, Int.reduceLE, Int.reduceGT, Int.reduceGE, aggT_24, sizeT_24, bytesT_24, fieldT_24_0, placesT_24, zeroT_24, aggT_39, sizeT_39, bytesT_39, fieldT_39_0, fieldT_39_1, fieldT_39_2, fieldT_39_3, fieldT_39_4, fieldT_39_5, fieldT_39_6, fieldT_39_7, fieldT_39_8, placesT_39, zeroT_39, aggT_33, sizeT_33, bytesT_33, fieldT_33_0, fieldT_33_1, fieldT_33_2, fieldT_33_3, fieldT_33_4, placesT_33, zeroT_33, aggT_36, sizeT_36, bytesT_36, fieldT_36_0, fieldT_36_1, placesT_36, zeroT_36, aggT_37, sizeT_37, bytesT_37, und_37, elemT_37, isSliceT_37, zero1_37, zeroT_37, aggT_98, sizeT_98, bytesT_98, fieldT_98_0, fieldT_98_1, placesT_98, zeroT_98, aggT_30, sizeT_30, bytesT_30, und_30, elemT_30, isSliceT_30, zero1_30, zeroT_30, aggT_27, sizeT_27, bytesT_27, und_27, zero1_27, zeroT_27, aggT_9, sizeT_9, bytesT_9, und_9, zero1_9, zeroT_9, aggT_3, sizeT_3, bytesT_3, und_3, zero1_3, zeroT_3, ht, callOut_vd, c, c1, c2, ge_iff_le, h0, hl, Int.toNat_natCast, hk, conD_eq y, hr]
      (refine Eq.trans ?_ rfl; kernel_rfl)
    · dsimp only
      rw [if_pos rfl, if_neg c]
      (rw [run_eq]; simp only [stepA, hx, Tryz.func87, Tryz.f87, show retF 87 = false from rfl]; simp only [List.length_cons, List.length_nil, Nat.reduceAdd, Nat.reduceLeDiff, Nat.zero_le, ↓reduceIte, List.zipIdx_cons, List.zipIdx_nil, List.map_cons, List.map_nil])
      simp only [dcV, dcC, tbV, tbC, tmV, tmC_z, tmC, sV, iV, bV, dV] at ht ⊢
      simp only [zS, nilEq, wantedA, opA, eff, boxA, cells, ev, gt, pt, putO, updO, setO, okC, loadA, cutC, fieldAddrA, fieldA, indexAddrA, indexA, builtinA, callOpA, callV, target, ptrV, lenS, binA, intOp, strOp, unA, num, lk, over, allocA, pickA, buildA, fillA, convertA, extractA, ofComp, nilCheckA, makeFuncA, ptrs, ofValue, cellB, Nat.reduceAdd, Nat.reduceSub, Nat.reduceMul, Nat.reduceLT, Nat.reduceLeDiff, Nat.reduceGT, ↓reduceIte, Nat.reduceEqDiff, Nat.reduceBEq, reduceCtorEq, Int.reduceBEq, Int.reduceBNe, Int.reduceLT, Int.reduceLE, Int.reduceGT, Int.reduceGE, aggT_24, sizeT_24, bytesT_24, fieldT_24_0, placesT_24, zeroT_24, aggT_39, sizeT_39, bytesT_39, fieldT_39_0, fieldT_39_1, fieldT_39_2, fieldT_39_3, fieldT_39_4, fieldT_39_5, fieldT_39_6, fieldT_39_7, fieldT_39_8, placesT_39, zeroT_39, aggT_33, sizeT_33, bytesT_33, fieldT_33_0, fieldT_33_1, fieldT_33_2, fieldT_33_3, fieldT_33_4, placesT_33, zeroT_33, aggT_36, sizeT_36, bytesT_36, fieldT_36_0, fieldT_36_1, placesT_36, zeroT_36, aggT_30, sizeT_30, bytesT_30, und_30, elemT_30, isSliceT_30, zero1_30, zeroT_30, aggT_27, sizeT_27, bytesT_27, und_27, zero1_27, zeroT_27, aggT_9, sizeT_9, bytesT_9, und_9, zero1_9, zeroT_9, aggT_3, sizeT_3, bytesT_3, und_3, zero1_3, zeroT_3, ht, callOut_vd, c]
      (refine Eq.trans ?_ rfl; kernel_rfl)
def argOf (f : Lev → Lev × Int) (fl : Tm → Tm) (x : Tb) (s : ByteArray) (n : Nat) (i : Int) : Tm × Int :=
  if (declOf f x s n i).2 = 0 then (fl (declOf f x s n i).1, 0) else (zTm, (declOf f x s n i).2)
theorem arg47 (hx : ext 47 = none) (f : Lev → Lev × Int) (fl : Tm → Tm) (x : Tb) (s : ByteArray) (D : D) (n : Nat) (i : Int) (A : Tm) (ht : run Tryz.prog ext (.call 87 [tbV x, sV s, dV D, iV i] []) = some (.ret [tmV (declOf f x s n i).1, iV (declOf f x s n i).2] []))
    (hr : (declOf f x s n i).2 = 0 → run Tryz.prog ext (.call 88 [tmV (declOf f x s n i).1, dV (argD A)] []) = some (.ret [tmV (fl (declOf f x s n i).1)] [])) :
    run Tryz.prog ext (.call 47 [tbV x, sV s, dV D, iV i, tmV A] []) = some (.ret [tmV (argOf f fl x s n i).1, iV (argOf f fl x s n i).2] []) := by
  unfold argOf
  generalize declOf f x s n i = q at ht hr ⊢
  obtain ⟨t, e⟩ := q
  dsimp only at ht hr ⊢
  by_cases c : e = 0
  · subst c
    have hr := hr rfl
    rw [if_pos rfl]
    generalize fl t = y at hr ⊢
    cases hsc : scalarV (tmV y)
    all_goals
      (rw [run_eq]; simp only [stepA, hx, Tryz.func47, Tryz.f47, show retF 47 = false from rfl]; simp only [List.length_cons, List.length_nil, Nat.reduceAdd, Nat.reduceLeDiff, Nat.zero_le, ↓reduceIte, List.zipIdx_cons, List.zipIdx_nil, List.map_cons, List.map_nil])
      simp only [tbV, tbC, tmV, tmC, sV, iV, bV, dV, argD, tmD_eq A] at ht hr hsc ⊢
      simp only [zS, nilEq, wantedA, opA, eff, boxA, cells, ev, gt, pt, putO, updO, setO, okC, loadA, cutC, fieldAddrA, fieldA, indexAddrA, indexA, builtinA, callOpA, callV, target, ptrV, lenS, binA, intOp, strOp, unA, num, lk, over, allocA, pickA, buildA, fillA, convertA, extractA, ofComp, nilCheckA, makeFuncA, ptrs, ofValue, cellB, Nat.reduceAdd, Nat.reduceSub, Nat.reduceMul, Nat.reduceLT, Nat.reduceLeDiff, Nat.reduceGT, ↓reduceIte, Nat.reduceEqDiff, Nat.reduceBEq, reduceCtorEq, Int.reduceBEq, Int.reduceBNe, Int.reduceLT, Int.reduceLE, Int.reduceGT, Int.reduceGE, aggT_24, sizeT_24, bytesT_24, fieldT_24_0, placesT_24, zeroT_24, aggT_33, sizeT_33, bytesT_33, fieldT_33_0, fieldT_33_1, fieldT_33_2, fieldT_33_3, fieldT_33_4, placesT_33, zeroT_33, aggT_31, sizeT_31, bytesT_31, und_31, elemT_31, isSliceT_31, zero1_31, zeroT_31, aggT_27, sizeT_27, bytesT_27, und_27, zero1_27, zeroT_27, aggT_9, sizeT_9, bytesT_9, und_9, zero1_9, zeroT_9, aggT_3, sizeT_3, bytesT_3, und_3, zero1_3, zeroT_3, ht, callOut_vd, bsTm, callA_o1, coK_arr, (id rfl : ownF 88 = false), hr, callOut_bor, hsc, kills]
      (refine Eq.trans ?_ rfl; kernel_rfl)
  · rw [if_neg c]
    (rw [run_eq]; simp only [stepA, hx, Tryz.func47, Tryz.f47, show retF 47 = false from rfl]; simp only [List.length_cons, List.length_nil, Nat.reduceAdd, Nat.reduceLeDiff, Nat.zero_le, ↓reduceIte, List.zipIdx_cons, List.zipIdx_nil, List.map_cons, List.map_nil])
    simp only [tbV, tbC, tmV, tmC_z, tmC, sV, iV, bV, dV] at ht ⊢
    simp only [zS, nilEq, wantedA, opA, eff, boxA, cells, ev, gt, pt, putO, updO, setO, okC, loadA, cutC, fieldAddrA, fieldA, indexAddrA, indexA, builtinA, callOpA, callV, target, ptrV, lenS, binA, intOp, strOp, unA, num, lk, over, allocA, pickA, buildA, fillA, convertA, extractA, ofComp, nilCheckA, makeFuncA, ptrs, ofValue, cellB, Nat.reduceAdd, Nat.reduceSub, Nat.reduceMul, Nat.reduceLT, Nat.reduceLeDiff, Nat.reduceGT, ↓reduceIte, Nat.reduceEqDiff, Nat.reduceBEq, reduceCtorEq, Int.reduceBEq, Int.reduceBNe, Int.reduceLT, Int.reduceLE, Int.reduceGT, Int.reduceGE, aggT_24, sizeT_24, bytesT_24, fieldT_24_0, placesT_24, zeroT_24, aggT_33, sizeT_33, bytesT_33, fieldT_33_0, fieldT_33_1, fieldT_33_2, fieldT_33_3, fieldT_33_4, placesT_33, zeroT_33, aggT_31, sizeT_31, bytesT_31, und_31, elemT_31, isSliceT_31, zero1_31, zeroT_31, aggT_27, sizeT_27, bytesT_27, und_27, zero1_27, zeroT_27, aggT_9, sizeT_9, bytesT_9, und_9, zero1_9, zeroT_9, aggT_3, sizeT_3, bytesT_3, und_3, zero1_3, zeroT_3, ht, callOut_vd, c]
    (refine Eq.trans ?_ rfl; kernel_rfl)
end Go.Proofs.YteenjodhmppgjaaGreatDoor.Am
end
section
/- Copies of levels, by the program. -/
namespace Go.Proofs.YteenjodhmppgjaaGreatDoor.Am
open Go
variable (ext : Ext)
set_option maxHeartbeats 8000000
noncomputable def B198 : Code := (Tryz.f198.body.getD .skip)
noncomputable def L198a : Code := sub B198 [1, 1, 1, 0, 1, 0, 0]
noncomputable def K198a : List It := [.inBlock 0, .code (sub B198 [1, 1, 1, 1])]
noncomputable def H198a (ext : Ext) (m : Nat) (env : Env) (loc : List O) : Option Out := run Tryz.prog ext (.k ⟨27, m, [.tmp 2], false⟩ (.code L198a :: .inLoop L198a :: K198a) env loc)
theorem bs0_34 {look : Look} {slot : Nat} : buildSliceA Tryz.prog look slot 34 0 [] = some ⟨.val (.c (.own slot)), [(slot, .arr 2 [])], []⟩ := by
  simp only [buildSliceA, elemT_34, sizeT_110, zeroT_110]; rfl
theorem bs0_30 {look : Look} {slot : Nat} : buildSliceA Tryz.prog look slot 30 0 [] = some ⟨.val (.c (.own slot)), [(slot, .arr 2 [])], []⟩ := by
  simp only [buildSliceA, elemT_30, sizeT_36, zeroT_36]; rfl
theorem os30 {look : Look} {slot id : Nat} {new : List (List D)} : appendA Tryz.prog look slot [30, 30] [.c (.own id), .c (.d (.s 2 new))] = apI 2 32 slot id new (look id) := app_os elemT_30 sizeT_36 bytesT_36 z30 (by decide) id new
/-- What slices.Clone answers with, for parts of levels. -/
def Clones : Prop := ∀ (z : Bool) (l : List LV), l.length < 2 ^ 29 → run Tryz.prog ext (.call 240 [dV (listD z 2 (l.map lvD))] []) = some (.ret [dV (listD z 2 (l.map lvD))] [])
theorem clone240 (hx : ext 240 = none) (x : LV) (l : List LV) (hl : l.length < 2 ^ 29) : run Tryz.prog ext (.call 240 [dV (.s 2 ((x :: l).map lvD))] []) = some (.ret [dV (.s 2 ((x :: l).map lvD))] []) := by
  have hb : l.length + 1 ≤ 1000000000 := by omega
  (rw [run_eq]; simp only [stepA, hx, Tryz.func240, Tryz.f240, show retF 240 = false from rfl]; simp only [List.length_cons, List.length_nil, Nat.reduceAdd, Nat.reduceLeDiff, Nat.zero_le, ↓reduceIte, List.zipIdx_cons, List.zipIdx_nil, List.map_cons, List.map_nil])
  simp only [dV, iV, bV, List.map_cons]
  simp only [zS, nilEq, wantedA, opA, eff, boxA, cells, ev, gt, pt, putO, updO, setO, okC, loadA, cutC, fieldAddrA, fieldA, indexAddrA, indexA, builtinA, callOpA, callV, target, ptrV, lenS, binA, intOp, strOp, unA, num, lk, over, allocA, pickA, buildA, fillA, convertA, extractA, ofComp, nilCheckA, makeFuncA, ptrs, ofValue, cellB, Nat.reduceAdd, Nat.reduceSub, Nat.reduceMul, Nat.reduceLT, Nat.reduceLeDiff, Nat.reduceGT, ↓reduceIte, Nat.reduceEqDiff, Nat.reduceBEq, reduceCtorEq, Int.reduceBEq, Int.reduceBNe, Int.reduceLT, Int.reduceLE, Int.reduceGT, Int.reduceGE, aggT_144, sizeT_144, bytesT_144, und_144, elemT_144, isSliceT_144, zero1_144, zeroT_144, aggT_34, sizeT_34, bytesT_34, und_34, elemT_34, isSliceT_34, zero1_34, zeroT_34, aggT_110, sizeT_110, bytesT_110, fieldT_110_0, fieldT_110_1, placesT_110, zeroT_110, aggT_3, sizeT_3, bytesT_3, und_3, zero1_3, zeroT_3, bs0_34, os34, apI_arr, hb, Nat.zero_le]
  (refine Eq.trans ?_ rfl; kernel_rfl)
theorem clone239 (hx : ext 239 = none) (x : Lev) (l : List Lev) (hl : l.length < 2 ^ 29) : run Tryz.prog ext (.call 239 [dV (.s 2 ((x :: l).map levD))] []) = some (.ret [.c (.own 0)] [.arr 2 ((x :: l).map levD)]) := by
  have hb : l.length + 1 ≤ 1000000000 := by omega
  (rw [run_eq]; simp only [stepA, hx, Tryz.func239, Tryz.f239, show retF 239 = true from rfl]; simp only [List.length_cons, List.length_nil, Nat.reduceAdd, Nat.reduceLeDiff, Nat.zero_le, ↓reduceIte, List.zipIdx_cons, List.zipIdx_nil, List.map_cons, List.map_nil])
  simp only [dV, iV, bV, List.map_cons]
  simp only [zS, nilEq, wantedA, opA, eff, boxA, cells, ev, gt, pt, putO, updO, setO, okC, loadA, cutC, fieldAddrA, fieldA, indexAddrA, indexA, builtinA, callOpA, callV, target, ptrV, lenS, binA, intOp, strOp, unA, num, lk, over, allocA, pickA, buildA, fillA, convertA, extractA, ofComp, nilCheckA, makeFuncA, ptrs, ofValue, cellB, Nat.reduceAdd, Nat.reduceSub, Nat.reduceMul, Nat.reduceLT, Nat.reduceLeDiff, Nat.reduceGT, ↓reduceIte, Nat.reduceEqDiff, Nat.reduceBEq, reduceCtorEq, Int.reduceBEq, Int.reduceBNe, Int.reduceLT, Int.reduceLE, Int.reduceGT, Int.reduceGE, aggT_30, sizeT_30, bytesT_30, und_30, elemT_30, isSliceT_30, zero1_30, zeroT_30, aggT_36, sizeT_36, bytesT_36, fieldT_36_0, fieldT_36_1, placesT_36, zeroT_36, aggT_3, sizeT_3, bytesT_3, und_3, zero1_3, zeroT_3, bs0_30, os30, apI_arr, hb, Nat.zero_le]
  (refine Eq.trans ?_ rfl; kernel_rfl)
def E198 (n k : Int) : Env := [(3, .c (.own 0)), (11, iV n), (12, iV k)]
def O198 (l : List Lev) : List O := [.arr 2 (l.map levD)]
theorem none198 (hx : ext 198 = none) (z : Bool) : run Tryz.prog ext (.call 198 [dV (listD z 2 [])] []) = some (.ret [dV (.v (.slice none 0 0))] []) := by
  have e0 : ((0 : Nat) : Int) = 0 := rfl
  (rw [run_eq]; simp only [stepA, hx, Tryz.func198, Tryz.f198, show retF 198 = false from rfl]; simp only [List.length_cons, List.length_nil, Nat.reduceAdd, Nat.reduceLeDiff, Nat.zero_le, ↓reduceIte, List.zipIdx_cons, List.zipIdx_nil, List.map_cons, List.map_nil])
  simp only [dV]
  simp only [zS, nilEq, wantedA, opA, eff, boxA, cells, ev, gt, pt, putO, updO, setO, okC, loadA, cutC, fieldAddrA, fieldA, indexAddrA, indexA, builtinA, callOpA, callV, target, ptrV, lenS, binA, intOp, strOp, unA, num, lk, over, allocA, pickA, buildA, fillA, convertA, extractA, ofComp, nilCheckA, makeFuncA, ptrs, ofValue, cellB, Nat.reduceAdd, Nat.reduceSub, Nat.reduceMul, Nat.reduceLT, Nat.reduceLeDiff, Nat.reduceGT, ↓reduceIte, Nat.reduceEqDiff, Nat.reduceBEq, reduceCtorEq, Int.reduceBEq, Int.reduceBNe, Int.reduceLT, Int.reduceLE, Int.reduceGT, Int.reduceGE, aggT_30, sizeT_30, bytesT_30, und_30, elemT_30, isSliceT_30, zero1_30, zeroT_30, aggT_36, sizeT_36, bytesT_36, fieldT_36_0, fieldT_36_1, placesT_36, zeroT_36, aggT_3, sizeT_3, bytesT_3, und_3, zero1_3, zeroT_3, e0]
  (refine Eq.trans ?_ rfl; kernel_rfl)
theorem enter198 (hx : ext 198 = none) (h239 : ext 239 = none) (x : Lev) (l : List Lev) (hl : l.length < 2 ^ 29) (out : Option Out) (h : H198a ext 0 (E198 (x :: l).length 0) (O198 (x :: l)) = out) : run Tryz.prog ext (.call 198 [dV (.s 2 ((x :: l).map levD))] []) = out := by
  have hr := clone239 ext h239 x l hl
  have hne : ¬ ((l.length + 1 : Nat) : Int) = 0 := by omega
  unfold H198a at h
  (rw [run_eq]; simp only [stepA, hx, Tryz.func198, Tryz.f198, show retF 198 = false from rfl]; simp only [List.length_cons, List.length_nil, Nat.reduceAdd, Nat.reduceLeDiff, Nat.zero_le, ↓reduceIte, List.zipIdx_cons, List.zipIdx_nil, List.map_cons, List.map_nil])
  simp only [dV, iV, E198, O198, List.map_cons, List.length_cons] at h hr ⊢
  simp only [zS, nilEq, wantedA, opA, eff, boxA, cells, ev, gt, pt, putO, updO, setO, okC, loadA, cutC, fieldAddrA, fieldA, indexAddrA, indexA, builtinA, callOpA, callV, target, ptrV, lenS, binA, intOp, strOp, unA, num, lk, over, allocA, pickA, buildA, fillA, convertA, extractA, ofComp, nilCheckA, makeFuncA, ptrs, ofValue, cellB, Nat.reduceAdd, Nat.reduceSub, Nat.reduceMul, Nat.reduceLT, Nat.reduceLeDiff, Nat.reduceGT, ↓reduceIte, Nat.reduceEqDiff, Nat.reduceBEq, reduceCtorEq, Int.reduceBEq, Int.reduceBNe, Int.reduceLT, Int.reduceLE, Int.reduceGT, Int.reduceGE, aggT_30, sizeT_30, bytesT_30, und_30, elemT_30, isSliceT_30, zero1_30, zeroT_30, aggT_36, sizeT_36, bytesT_36, fieldT_36_0, fieldT_36_1, placesT_36, zeroT_36, aggT_3, sizeT_3, bytesT_3, und_3, zero1_3, zeroT_3, hne, hr, callOut_own]
  (refine (r_inLoop_some ?_).trans h; kernel_rfl)
theorem step198 (hc : Clones ext) (l : List Lev) (u : Lev) (k : Nat) (hk : l[k]? = some u) (hl : (k : Int) < l.length) (hv : u.vs.length < 2 ^ 29) (out : Option Out) (h : H198a ext 0 (E198 l.length (wr ((k : Int) + 1))) (O198 l) = out) : H198a ext 0 (E198 l.length k) (O198 l) = out := by
  have h0 : (0 : Int) ≤ k := by omega
  have hr := hc u.z u.vs hv
  have e : listD u.z 2 (u.vs.map lvD) = u.d := rfl
  rw [e] at hr
  have hs : (l.map levD).set k [.v (.int .i64 u.c), u.d] = l.map levD := by
    have : (l.map levD)[k]? = some (levD u) := by rw [List.getElem?_map, hk]; rfl
    have hlt := lt_of_get this
    rw [List.getElem?_eq_getElem hlt] at this
    have h2 : (l.map levD)[k] = [.v (.int .i64 u.c), u.d] := Option.some.inj this
    rw [← h2, List.set_getElem_self]
  unfold H198a at h ⊢
  simp only [dV, iV, E198, O198] at h hr ⊢
  (rw [show (It.code L198a) = It.code (sub B198 [1, 1, 1, 0, 1, 0, 0]) from rfl]; simp only [B198, K198a, sub, Option.getD_some, Tryz.f198, ↓reduceIte, Nat.one_ne_zero])
  simp only [zS, nilEq, wantedA, opA, eff, boxA, cells, ev, gt, pt, putO, updO, setO, okC, loadA, cutC, fieldAddrA, fieldA, indexAddrA, indexA, builtinA, callOpA, callV, target, ptrV, lenS, binA, intOp, strOp, unA, num, lk, over, allocA, pickA, buildA, fillA, convertA, extractA, ofComp, nilCheckA, makeFuncA, ptrs, ofValue, cellB, Nat.reduceAdd, Nat.reduceSub, Nat.reduceMul, Nat.reduceLT, Nat.reduceLeDiff, Nat.reduceGT, ↓reduceIte, Nat.reduceEqDiff, Nat.reduceBEq, reduceCtorEq, Int.reduceBEq, Int.reduceBNe, Int.reduceLT, Int.reduceLE, Int.reduceGT, Int.reduceGE, aggT_30, sizeT_30, bytesT_30, und_30, elemT_30, isSliceT_30, zero1_30, zeroT_30, aggT_36, sizeT_36, bytesT_36, fieldT_36_0, fieldT_36_1, placesT_36, zeroT_36, aggT_34, sizeT_34, bytesT_34, und_34, elemT_34, isSliceT_34, zero1_34, zeroT_34, aggT_3, sizeT_3, bytesT_3, und_3, zero1_3, zeroT_3, h0, hl, Int.toNat_natCast, hk, levD_eq u, hr, stK, toDs, toD, kills, List.contains_nil, hs]
  (refine (r_inLoop_some ?_).trans h; kernel_rfl)
theorem done198 (l : List Lev) : H198a ext 0 (E198 l.length l.length) (O198 l) = some (.ret [dV (.s 2 (l.map levD))] []) := by
  unfold H198a
  simp only [dV, iV, E198, O198]
  (rw [show (It.code L198a) = It.code (sub B198 [1, 1, 1, 0, 1, 0, 0]) from rfl]; simp only [B198, K198a, sub, Option.getD_some, Tryz.f198, ↓reduceIte, Nat.one_ne_zero])
  simp only [zS, nilEq, wantedA, opA, eff, boxA, cells, ev, gt, pt, putO, updO, setO, okC, loadA, cutC, fieldAddrA, fieldA, indexAddrA, indexA, builtinA, callOpA, callV, target, ptrV, lenS, binA, intOp, strOp, unA, num, lk, over, allocA, pickA, buildA, fillA, convertA, extractA, ofComp, nilCheckA, makeFuncA, ptrs, ofValue, cellB, Nat.reduceAdd, Nat.reduceSub, Nat.reduceMul, Nat.reduceLT, Nat.reduceLeDiff, Nat.reduceGT, ↓reduceIte, Nat.reduceEqDiff, Nat.reduceBEq, reduceCtorEq, Int.reduceBEq, Int.reduceBNe, Int.reduceLT, Int.reduceLE, Int.reduceGT, Int.reduceGE, aggT_30, sizeT_30, bytesT_30, und_30, elemT_30, isSliceT_30, zero1_30, zeroT_30, aggT_36, sizeT_36, bytesT_36, fieldT_36_0, fieldT_36_1, placesT_36, zeroT_36, aggT_34, sizeT_34, bytesT_34, und_34, elemT_34, isSliceT_34, zero1_34, zeroT_34, aggT_3, sizeT_3, bytesT_3, und_3, zero1_3, zeroT_3, Int.lt_irrefl]
  (refine Eq.trans ?_ rfl; kernel_rfl)
theorem copied198 (hx : ext 198 = none) (h239 : ext 239 = none) (hc : Clones ext) (z : Bool) (l : List Lev) (hl : l.length < 2 ^ 29) (hv : ∀ u ∈ l, u.vs.length < 2 ^ 29) : run Tryz.prog ext (.call 198 [dV (listD z 2 (l.map levD))] []) = some (.ret [dV (listD true 2 (l.map levD))] []) := by
  cases l with
  | nil => exact none198 ext hx z
  | cons x r =>
    have e1 : listD z 2 ((x :: r).map levD) = .s 2 ((x :: r).map levD) := listD_ne (by simp)
    have e2 : listD true 2 ((x :: r).map levD) = .s 2 ((x :: r).map levD) := listD_ne (by simp)
    rw [e1, e2]
    refine enter198 ext hx h239 x r (by simp at hl; omega) _ ?_
    have := loop_foldE (σ := Unit) (ρ := Unit) (x :: r) (fun k _ => H198a ext 0 (E198 (x :: r).length k) (O198 (x :: r))) (fun s _ => .inl s) (fun _ => none) (fun _ => some (.ret [dV (.s 2 ((x :: r).map levD))] [])) (by omega)
      (fun k u s hk hl => by dsimp only; exact fun out h => step198 ext hc (x :: r) u k hk hl (hv u (List.mem_of_getElem? hk)) out h) (fun _ => done198 ext (x :: r)) ()
    rw [this]
    have hf : ∀ (l : List Lev), foldE (ρ := Unit) (fun (s : Unit) (_ : Lev) => .inl s) () l = .inl () := fun l => by induction l with | nil => rfl | cons a l ih => simp only [foldE, ih]
    rw [hf]
end Go.Proofs.YteenjodhmppgjaaGreatDoor.Am
end
section
/- The program's Fill: the walk through a term, with the closure that fills. -/
namespace Go.Proofs.YteenjodhmppgjaaGreatDoor.Am
open Go
variable (ext : Ext)
set_option maxHeartbeats 8000000
set_option maxRecDepth 4000
noncomputable def B197 : Code := (Tryz.f197.body.getD .skip)
noncomputable def L197a : Code := sub B197 [1, 1, 1, 0, 1, 0, 0]
noncomputable def K197a : List It := [.inBlock 0, .code (sub B197 [1, 1, 1, 1])]
noncomputable def H197a (ext : Ext) (m : Nat) (env : Env) (loc : List O) : Option Out := run Tryz.prog ext (.k ⟨43, m, [.cell 6 33], false⟩ (.code L197a :: .inLoop L197a :: K197a) env loc)
def M131 (A : Tm) : List O := [.box [.fn 197 [] [0, 1]], .box [.fn 131 [] [2]], .box [.d (argD A)]]
def withU (x : Tm) : Tm := .mk x.op x.n x.s x.u true x.l x.zl
def E197 (x : Tm) (d : Int) (ls : List Tm) (k : Int) : Env := [(1, iV d), (2, .c (.ptr 0 0)), (3, .c (.ptr 1 0)), (4, .c (.ptr 3 0)), (6, .c (.ptr 4 0)), (7, mkV 5 (ls.map tmD)), (15, dV x.lD), (16, iV x.l.length), (17, iV k)]
def O197 (x A : Tm) (ls : List Tm) : List O := .box [.fn 197 [] [0, 1]] :: .box [.fn 131 [] [2]] :: .box [.d (argD A)] :: .box (tmC (withU x)) :: .box (tmC zTm) :: mkO 5 (ls.map tmD)
theorem tmC_withU (x : Tm) : tmC (withU x) = [.d (.v (.int .i64 x.op)), .d (.v (.int .i64 x.n)), .d (.v (.string x.s)), .d (listD true 2 (x.u.map levD)), .d x.lD] := rfl
theorem enter197 (hx : ext 197 = none) (x A : Tm) (d : Int) (hr : run Tryz.prog ext (.call 198 [dV x.uD] []) = some (.ret [dV (listD true 2 (x.u.map levD))] [])) (out : Option Out)
    (h : H197a ext 3 (E197 x d [] 0) (O197 x A []) = out) : run Tryz.prog ext (.call 197 [tmV x, iV d, .c (.ptr 0 0), .c (.ptr 1 0)] (M131 A)) = out := by
  unfold H197a at h
  (rw [run_eq]; simp only [stepA, hx, Tryz.func197, Tryz.f197, show retF 197 = false from rfl]; simp only [List.length_cons, List.length_nil, Nat.reduceAdd, Nat.reduceLeDiff, Nat.zero_le, ↓reduceIte, List.zipIdx_cons, List.zipIdx_nil, List.map_cons, List.map_nil])
  simp only [tmV, tmC_withU, tmC_z, tmC, dV, iV, M131, E197, O197, List.map_nil, mkV_nil, mkO_nil] at h hr ⊢
  simp only [zS, nilEq, wantedA, opA, eff, boxA, cells, ev, gt, pt, putO, updO, setO, okC, loadA, cutC, fieldAddrA, fieldA, indexAddrA, indexA, builtinA, callOpA, callV, target, ptrV, lenS, binA, intOp, strOp, unA, num, lk, over, allocA, pickA, buildA, fillA, convertA, extractA, ofComp, nilCheckA, makeFuncA, ptrs, ofValue, cellB, Nat.reduceAdd, Nat.reduceSub, Nat.reduceMul, Nat.reduceLT, Nat.reduceLeDiff, Nat.reduceGT, ↓reduceIte, Nat.reduceEqDiff, Nat.reduceBEq, reduceCtorEq, Int.reduceBEq, Int.reduceBNe, Int.reduceLT, Int.reduceLE, Int.reduceGT, Int.reduceGE, aggT_33, sizeT_33, bytesT_33, fieldT_33_0, fieldT_33_1, fieldT_33_2, fieldT_33_3, fieldT_33_4, placesT_33, zeroT_33, aggT_30, sizeT_30, bytesT_30, und_30, elemT_30, isSliceT_30, zero1_30, zeroT_30, aggT_31, sizeT_31, bytesT_31, und_31, elemT_31, isSliceT_31, zero1_31, zeroT_31, aggT_9, sizeT_9, bytesT_9, und_9, zero1_9, zeroT_9, aggT_3, sizeT_3, bytesT_3, und_3, zero1_3, zeroT_3, hr, lenA_lD]
  (refine (r_inLoop_some ?_).trans h; kernel_rfl)
theorem callM131 (rec : Rec) (A t y : Tm) (e : Int) (slot : Nat) (rest : List O) (hr : rec (.call 197 [tmV t, iV e, .c (.ptr 0 0), .c (.ptr 1 0)] (M131 A)) = some (.ret [tmV y] (M131 A))) :
    callA rec (lk (M131 A ++ rest)) slot 197 [tmV t, iV e, .c (.ptr 0 0), .c (.ptr 1 0)] = some ⟨.val (tmV y), [(0, .box [.fn 197 [] [0, 1]]), (1, .box [.fn 131 [] [2]]), (2, .box [.d (argD A)])], [0, 1, 2]⟩ :=
  callA_of (ids := [0, 1, 2]) (bor := []) (by kernel_rfl) hr (by
    obtain ⟨_, _, h3⟩ := argV_data (look := fun _ => none) (v := tmV y) rfl
    cases hsc : scalarV (tmV y) <;> (simp only [answer, mapO, h3, results1, hsc, List.all_cons, List.all_nil, Bool.and_true]; rfl))
theorem step197 (h199 : ext 199 = none) (x t y A : Tm) (d : Int) (ls : List Tm) (k : Nat) (hb : ls.length < 2 ^ 29) (hk : x.l[k]? = some t) (hl : (k : Int) < x.l.length)
    (hr : run Tryz.prog ext (.call 197 [tmV t, iV (wr (d + binds x.op x.l.length k)), .c (.ptr 0 0), .c (.ptr 1 0)] (M131 A)) = some (.ret [tmV y] (M131 A))) (out : Option Out)
    (h : H197a ext 3 (E197 x d (ls ++ [y]) (wr ((k : Int) + 1))) (O197 x A (ls ++ [y])) = out) : H197a ext 3 (E197 x d ls k) (O197 x A ls) = out := by
  have h0 : (0 : Int) ≤ k := by omega
  have hB : run Tryz.prog ext (.call 199 [tmV (withU x), iV k] []) = some (.ret [iV (binds x.op x.l.length k)] []) := binds199 ext h199 (withU x) k
  generalize binds x.op x.l.length k = bd at hB hr
  have hC := fun rest slot => callM131 (run Tryz.prog ext) A t y (wr (d + bd)) slot rest hr
  unfold H197a at h ⊢
  cases ls with
  | nil =>
    simp only [tmV, tmC_withU, tmC_z, tmC, dV, iV, bV, E197, O197, M131, lD_lt hl, List.map_append, List.map_cons, List.map_nil, mkV_nil, mkV_snoc, mkO_snoc, mkO_nil, List.cons_append, List.nil_append, tmD_eq y] at h hB hC ⊢
    (rw [show (It.code L197a) = It.code (sub B197 [1, 1, 1, 0, 1, 0, 0]) from rfl]; simp only [B197, K197a, sub, Option.getD_some, Tryz.f197, ↓reduceIte, Nat.one_ne_zero])
    simp only [zS, nilEq, wantedA, opA, eff, boxA, cells, ev, gt, pt, putO, updO, setO, okC, loadA, cutC, fieldAddrA, fieldA, indexAddrA, indexA, builtinA, callOpA, callV, target, ptrV, lenS, binA, intOp, strOp, unA, num, lk, over, allocA, pickA, buildA, fillA, convertA, extractA, ofComp, nilCheckA, makeFuncA, ptrs, ofValue, cellB, Nat.reduceAdd, Nat.reduceSub, Nat.reduceMul, Nat.reduceLT, Nat.reduceLeDiff, Nat.reduceGT, ↓reduceIte, Nat.reduceEqDiff, Nat.reduceBEq, reduceCtorEq, Int.reduceBEq, Int.reduceBNe, Int.reduceLT, Int.reduceLE, Int.reduceGT, Int.reduceGE, aggT_33, sizeT_33, bytesT_33, fieldT_33_0, fieldT_33_1, fieldT_33_2, fieldT_33_3, fieldT_33_4, placesT_33, zeroT_33, aggT_31, sizeT_31, bytesT_31, und_31, elemT_31, isSliceT_31, zero1_31, zeroT_31, aggT_156, sizeT_156, bytesT_156, zero1_156, zeroT_156, aggT_3, sizeT_3, bytesT_3, und_3, zero1_3, zeroT_3, drawA, holes_succ, holes_zero, Array.size, List.length, h0, hl, Int.toNat_natCast, hk, tmD_eq t, hB, hC, bsTm, no31, apH_arr, Nat.zero_le]
    rw [afterDraw_some _ _ _ _ (by kernel_rfl)]
    simp only [zS, nilEq, wantedA, opA, eff, boxA, cells, ev, gt, pt, putO, updO, setO, okC, loadA, cutC, fieldAddrA, fieldA, indexAddrA, indexA, builtinA, callOpA, callV, target, ptrV, lenS, binA, intOp, strOp, unA, num, lk, over, allocA, pickA, buildA, fillA, convertA, extractA, ofComp, nilCheckA, makeFuncA, ptrs, ofValue, cellB, Nat.reduceAdd, Nat.reduceSub, Nat.reduceMul, Nat.reduceLT, Nat.reduceLeDiff, Nat.reduceGT, ↓reduceIte, Nat.reduceEqDiff, Nat.reduceBEq, reduceCtorEq, Int.reduceBEq, Int.reduceBNe, Int.reduceLT, Int.reduceLE, Int.reduceGT, Int.reduceGE, aggT_33, sizeT_33, bytesT_33, fieldT_33_0, fieldT_33_1, fieldT_33_2, fieldT_33_3, fieldT_33_4, placesT_33, zeroT_33, aggT_31, sizeT_31, bytesT_31, und_31, elemT_31, isSliceT_31, zero1_31, zeroT_31, aggT_3, sizeT_3, bytesT_3, und_3, zero1_3, zeroT_3]
    (refine (r_inLoop_some ?_).trans h; kernel_rfl)
  | cons a r =>
    have hb' : r.length + 1 ≤ 1000000000 := by simp only [List.length_cons] at hb; omega
    simp only [tmV, tmC_withU, tmC_z, tmC, dV, iV, bV, E197, O197, M131, lD_lt hl, List.map_append, List.map_cons, List.map_nil, mkV_cons, mkV_snoc, mkO_snoc, mkO_cons, List.cons_append, List.nil_append, tmD_eq y] at h hB hC ⊢
    (rw [show (It.code L197a) = It.code (sub B197 [1, 1, 1, 0, 1, 0, 0]) from rfl]; simp only [B197, K197a, sub, Option.getD_some, Tryz.f197, ↓reduceIte, Nat.one_ne_zero])
    simp only [zS, nilEq, wantedA, opA, eff, boxA, cells, ev, gt, pt, putO, updO, setO, okC, loadA, cutC, fieldAddrA, fieldA, indexAddrA, indexA, builtinA, callOpA, callV, target, ptrV, lenS, binA, intOp, strOp, unA, num, lk, over, allocA, pickA, buildA, fillA, convertA, extractA, ofComp, nilCheckA, makeFuncA, ptrs, ofValue, cellB, Nat.reduceAdd, Nat.reduceSub, Nat.reduceMul, Nat.reduceLT, Nat.reduceLeDiff, Nat.reduceGT, ↓reduceIte, Nat.reduceEqDiff, Nat.reduceBEq, reduceCtorEq, Int.reduceBEq, Int.reduceBNe, Int.reduceLT, Int.reduceLE, Int.reduceGT, Int.reduceGE, aggT_33, sizeT_33, bytesT_33, fieldT_33_0, fieldT_33_1, fieldT_33_2, fieldT_33_3, fieldT_33_4, placesT_33, zeroT_33, aggT_31, sizeT_31, bytesT_31, und_31, elemT_31, isSliceT_31, zero1_31, zeroT_31, aggT_156, sizeT_156, bytesT_156, zero1_156, zeroT_156, aggT_3, sizeT_3, bytesT_3, und_3, zero1_3, zeroT_3, drawA, holes_succ, holes_zero, Array.size, List.length, h0, hl, Int.toNat_natCast, hk, tmD_eq t, hB, hC, bsTm, oo31, apG_arr, hb']
    rw [afterDraw_some _ _ _ _ (by kernel_rfl)]
    simp only [zS, nilEq, wantedA, opA, eff, boxA, cells, ev, gt, pt, putO, updO, setO, okC, loadA, cutC, fieldAddrA, fieldA, indexAddrA, indexA, builtinA, callOpA, callV, target, ptrV, lenS, binA, intOp, strOp, unA, num, lk, over, allocA, pickA, buildA, fillA, convertA, extractA, ofComp, nilCheckA, makeFuncA, ptrs, ofValue, cellB, Nat.reduceAdd, Nat.reduceSub, Nat.reduceMul, Nat.reduceLT, Nat.reduceLeDiff, Nat.reduceGT, ↓reduceIte, Nat.reduceEqDiff, Nat.reduceBEq, reduceCtorEq, Int.reduceBEq, Int.reduceBNe, Int.reduceLT, Int.reduceLE, Int.reduceGT, Int.reduceGE, aggT_33, sizeT_33, bytesT_33, fieldT_33_0, fieldT_33_1, fieldT_33_2, fieldT_33_3, fieldT_33_4, placesT_33, zeroT_33, aggT_31, sizeT_31, bytesT_31, und_31, elemT_31, isSliceT_31, zero1_31, zeroT_31, aggT_3, sizeT_3, bytesT_3, und_3, zero1_3, zeroT_3]
    (refine (r_inLoop_some ?_).trans h; kernel_rfl)
theorem callG131 (rec : Rec) (A t y : Tm) (e : Int) (slot : Nat) (rest : List O) (hr : rec (.call 131 [tmV t, iV e, .c (.ptr 0 0)] [.box [.d (argD A)]]) = some (.ret [tmV y] [.box [.d (argD A)]])) :
    callA rec (lk (M131 A ++ rest)) slot 131 [tmV t, iV e, .c (.ptr 2 0)] = some ⟨.val (tmV y), [(2, .box [.d (argD A)])], [2]⟩ :=
  callA_of (ids := [2]) (bor := []) (by kernel_rfl) hr (by
    obtain ⟨_, _, h3⟩ := argV_data (look := fun _ => none) (v := tmV y) rfl
    cases hsc : scalarV (tmV y) <;> (simp only [answer, mapO, h3, results1, hsc, List.all_cons, List.all_nil, Bool.and_true]; rfl))
def mkT (x : Tm) (ls : List Tm) : Tm := .mk x.op x.n x.s x.u true ls true
end Go.Proofs.YteenjodhmppgjaaGreatDoor.Am
end
section
/- The program's Fill: the end of mapped$1. -/
namespace Go.Proofs.YteenjodhmppgjaaGreatDoor.Am
open Go
variable (ext : Ext)
set_option maxHeartbeats 8000000
set_option maxRecDepth 4000
theorem listD_t5 (x : List D) (l : List (List D)) : listD true 5 (x :: l) = .s 5 (x :: l) := listD_ne (by simp)
theorem listD_n5 : listD true 5 [] = .v (.slice none 0 0) := rfl
theorem callV200 (rec : Rec) (o0 o1 o2 o3 o4 : O) (els : List (List D)) (rest : List O) (a b : Int) (s : ByteArray) (ud : D) (bb : Bool) (slot : Nat) (hr : rec (.call 200 [.agg [.d (.v (.int .i64 a)), .d (.v (.int .i64 b)), .d (.v (.string s)), .d ud, .d (.s 5 els)]] []) = some (.ret [bV bb] [])) :
    callA rec (lk (o0 :: o1 :: o2 :: o3 :: o4 :: .arr 5 els :: rest)) slot 200 [.agg [.d (.v (.int .i64 a)), .d (.v (.int .i64 b)), .d (.v (.string s)), .d ud, .own 5]] = some ⟨.val (bV bb), [], [5]⟩ :=
  callA_of (ids := []) (bor := [5]) (by kernel_rfl) hr (by kernel_rfl)
theorem callH131 (rec : Rec) (A y : Tm) (o0 o1 o3 o4 : O) (els : List (List D)) (rest : List O) (a b d : Int) (s : ByteArray) (ud : D) (slot : Nat) (hr : rec (.call 131 [.agg [.d (.v (.int .i64 a)), .d (.v (.int .i64 b)), .d (.v (.string s)), .d ud, .d (.s 5 els)], iV d, .c (.ptr 0 0)] [.box [.d (argD A)]]) = some (.ret [tmV y] [.box [.d (argD A)]])) :
    callA rec (lk (o0 :: o1 :: .box [.d (argD A)] :: o3 :: o4 :: .arr 5 els :: rest)) slot 131 [.agg [.d (.v (.int .i64 a)), .d (.v (.int .i64 b)), .d (.v (.string s)), .d ud, .own 5], iV d, .c (.ptr 2 0)] = some ⟨.val (tmV y), [(2, .box [.d (argD A)]), (5, .gone)], [2, 5]⟩ :=
  callA_of (ids := [2]) (bor := [5]) (by kernel_rfl) hr (by
    obtain ⟨_, _, h3⟩ := argV_data (look := fun _ => none) (v := tmV y) rfl
    cases hsc : scalarV (tmV y) <;> (simp only [answer, mapO, h3, results1, hsc, List.all_cons, List.all_nil, Bool.and_true]; rfl))
theorem done197 (h200 : ext 200 = none) (x A : Tm) (d : Int) (ls : List Tm) (c : isVar x = false) : H197a ext 3 (E197 x d ls x.l.length) (O197 x A ls) = some (.ret [tmV (mkT x ls)] (M131 A)) := by
  have hv : run Tryz.prog ext (.call 200 [tmV (mkT x ls)] []) = some (.ret [bV false] []) := by
    have := var200 ext h200 (mkT x ls)
    have e : isVar (mkT x ls) = isVar x := rfl
    rw [this, e, c]
  unfold H197a
  cases ls with
  | nil =>
    simp only [tmV, mkT, tmC_mk, tmC_withU, tmC_z, dV, iV, bV, E197, O197, M131, List.map_nil, mkV_nil, mkO_nil, listD_n5] at hv ⊢
    (rw [show (It.code L197a) = It.code (sub B197 [1, 1, 1, 0, 1, 0, 0]) from rfl]; simp only [B197, K197a, sub, Option.getD_some, Tryz.f197, ↓reduceIte, Nat.one_ne_zero])
    simp only [zS, nilEq, wantedA, opA, eff, boxA, cells, ev, gt, pt, putO, updO, setO, okC, loadA, cutC, fieldAddrA, fieldA, indexAddrA, indexA, builtinA, callOpA, callV, target, ptrV, lenS, binA, intOp, strOp, unA, num, lk, over, allocA, pickA, buildA, fillA, convertA, extractA, ofComp, nilCheckA, makeFuncA, ptrs, ofValue, cellB, Nat.reduceAdd, Nat.reduceSub, Nat.reduceMul, Nat.reduceLT, Nat.reduceLeDiff, Nat.reduceGT, ↓reduceIte, Nat.reduceEqDiff, Nat.reduceBEq, reduceCtorEq, Int.reduceBEq, Int.reduceBNe, Int.reduceLT, Int.reduceLE, Int.reduceGT, Int.reduceGE, aggT_33, sizeT_33, bytesT_33, fieldT_33_0, fieldT_33_1, fieldT_33_2, fieldT_33_3, fieldT_33_4, placesT_33, zeroT_33, aggT_31, sizeT_31, bytesT_31, und_31, elemT_31, isSliceT_31, zero1_31, zeroT_31, aggT_156, sizeT_156, bytesT_156, zero1_156, zeroT_156, aggT_3, sizeT_3, bytesT_3, und_3, zero1_3, zeroT_3, Int.lt_irrefl, hv]
    (refine Eq.trans ?_ rfl; kernel_rfl)
  | cons a r =>
    simp only [tmV, mkT, tmC_mk, List.map_cons, listD_t5] at hv
    have hC := fun o0 o1 o2 o3 o4 rest slot => callV200 (run Tryz.prog ext) o0 o1 o2 o3 o4 (tmD a :: r.map tmD) rest x.op x.n x.s (listD true 2 (x.u.map levD)) false slot hv
    simp only [tmV, mkT, tmC_mk, tmC_withU, tmC_z, dV, iV, bV, E197, O197, M131, List.map_cons, mkV_cons, mkO_cons, listD_t5] at hC ⊢
    (rw [show (It.code L197a) = It.code (sub B197 [1, 1, 1, 0, 1, 0, 0]) from rfl]; simp only [B197, K197a, sub, Option.getD_some, Tryz.f197, ↓reduceIte, Nat.one_ne_zero])
    simp only [zS, nilEq, wantedA, opA, eff, boxA, cells, ev, gt, pt, putO, updO, setO, okC, loadA, cutC, fieldAddrA, fieldA, indexAddrA, indexA, builtinA, callOpA, callV, target, ptrV, lenS, binA, intOp, strOp, unA, num, lk, over, allocA, pickA, buildA, fillA, convertA, extractA, ofComp, nilCheckA, makeFuncA, ptrs, ofValue, cellB, Nat.reduceAdd, Nat.reduceSub, Nat.reduceMul, Nat.reduceLT, Nat.reduceLeDiff, Nat.reduceGT, ↓reduceIte, Nat.reduceEqDiff, Nat.reduceBEq, reduceCtorEq, Int.reduceBEq, Int.reduceBNe, Int.reduceLT, Int.reduceLE, Int.reduceGT, Int.reduceGE, aggT_33, sizeT_33, bytesT_33, fieldT_33_0, fieldT_33_1, fieldT_33_2, fieldT_33_3, fieldT_33_4, placesT_33, zeroT_33, aggT_31, sizeT_31, bytesT_31, und_31, elemT_31, isSliceT_31, zero1_31, zeroT_31, aggT_156, sizeT_156, bytesT_156, zero1_156, zeroT_156, aggT_3, sizeT_3, bytesT_3, und_3, zero1_3, zeroT_3, Int.lt_irrefl, hC]
    (refine Eq.trans ?_ rfl; kernel_rfl)
theorem var197 (h200 : ext 200 = none) (x A y : Tm) (d : Int) (ls : List Tm) (c : isVar x = true) (hg : run Tryz.prog ext (.call 131 [tmV (mkT x ls), iV d, .c (.ptr 0 0)] [.box [.d (argD A)]]) = some (.ret [tmV y] [.box [.d (argD A)]])) :
    H197a ext 3 (E197 x d ls x.l.length) (O197 x A ls) = some (.ret [tmV y] (M131 A)) := by
  have hv : run Tryz.prog ext (.call 200 [tmV (mkT x ls)] []) = some (.ret [bV true] []) := by
    have := var200 ext h200 (mkT x ls)
    have e : isVar (mkT x ls) = isVar x := rfl
    rw [this, e, c]
  unfold H197a
  cases ls with
  | nil =>
    have hC := fun rest slot => callG131 (run Tryz.prog ext) A (mkT x []) y d slot rest hg
    have ey : tmV y = .agg [.d (.v (.int .i64 y.op)), .d (.v (.int .i64 y.n)), .d (.v (.string y.s)), .d y.uD, .d y.lD] := rfl
    rw [ey]
    simp only [ey] at hC
    simp only [tmV, mkT, tmC_mk, tmC_withU, tmC_z, dV, iV, bV, E197, O197, M131, List.map_nil, mkV_nil, mkO_nil, List.cons_append, List.nil_append, listD_n5] at hv hC ⊢
    (rw [show (It.code L197a) = It.code (sub B197 [1, 1, 1, 0, 1, 0, 0]) from rfl]; simp only [B197, K197a, sub, Option.getD_some, Tryz.f197, ↓reduceIte, Nat.one_ne_zero])
    simp only [zS, nilEq, wantedA, opA, eff, boxA, cells, ev, gt, pt, putO, updO, setO, okC, loadA, cutC, fieldAddrA, fieldA, indexAddrA, indexA, builtinA, callOpA, callV, target, ptrV, lenS, binA, intOp, strOp, unA, num, lk, over, allocA, pickA, buildA, fillA, convertA, extractA, ofComp, nilCheckA, makeFuncA, ptrs, ofValue, cellB, Nat.reduceAdd, Nat.reduceSub, Nat.reduceMul, Nat.reduceLT, Nat.reduceLeDiff, Nat.reduceGT, ↓reduceIte, Nat.reduceEqDiff, Nat.reduceBEq, reduceCtorEq, Int.reduceBEq, Int.reduceBNe, Int.reduceLT, Int.reduceLE, Int.reduceGT, Int.reduceGE, aggT_33, sizeT_33, bytesT_33, fieldT_33_0, fieldT_33_1, fieldT_33_2, fieldT_33_3, fieldT_33_4, placesT_33, zeroT_33, aggT_31, sizeT_31, bytesT_31, und_31, elemT_31, isSliceT_31, zero1_31, zeroT_31, aggT_156, sizeT_156, bytesT_156, zero1_156, zeroT_156, aggT_3, sizeT_3, bytesT_3, und_3, zero1_3, zeroT_3, Int.lt_irrefl, hv, hC]
    (refine Eq.trans ?_ rfl; kernel_rfl)
  | cons a r =>
    simp only [tmV, mkT, tmC_mk, List.map_cons, listD_t5] at hv
    have hg' := hg
    have ey : tmV y = .agg [.d (.v (.int .i64 y.op)), .d (.v (.int .i64 y.n)), .d (.v (.string y.s)), .d y.uD, .d y.lD] := rfl
    have em : tmV (mkT x (a :: r)) = .agg [.d (.v (.int .i64 x.op)), .d (.v (.int .i64 x.n)), .d (.v (.string x.s)), .d (listD true 2 (x.u.map levD)), .d (.s 5 (tmD a :: r.map tmD))] := rfl
    rw [em] at hg'
    have hC := fun o0 o1 o2 o3 o4 rest slot => callV200 (run Tryz.prog ext) o0 o1 o2 o3 o4 (tmD a :: r.map tmD) rest x.op x.n x.s (listD true 2 (x.u.map levD)) true slot hv
    have hD := fun o0 o1 o3 o4 rest slot => callH131 (run Tryz.prog ext) A y o0 o1 o3 o4 (tmD a :: r.map tmD) rest x.op x.n d x.s (listD true 2 (x.u.map levD)) slot hg'
    rw [ey]
    simp only [ey] at hD
    simp only [tmC_withU, tmC_z, dV, iV, bV, E197, O197, M131, List.map_cons, mkV_cons, mkO_cons] at hC hD ⊢
    (rw [show (It.code L197a) = It.code (sub B197 [1, 1, 1, 0, 1, 0, 0]) from rfl]; simp only [B197, K197a, sub, Option.getD_some, Tryz.f197, ↓reduceIte, Nat.one_ne_zero])
    simp only [zS, nilEq, wantedA, opA, eff, boxA, cells, ev, gt, pt, putO, updO, setO, okC, loadA, cutC, fieldAddrA, fieldA, indexAddrA, indexA, builtinA, callOpA, callV, target, ptrV, lenS, binA, intOp, strOp, unA, num, lk, over, allocA, pickA, buildA, fillA, convertA, extractA, ofComp, nilCheckA, makeFuncA, ptrs, ofValue, cellB, Nat.reduceAdd, Nat.reduceSub, Nat.reduceMul, Nat.reduceLT, Nat.reduceLeDiff, Nat.reduceGT, ↓reduceIte, Nat.reduceEqDiff, Nat.reduceBEq, reduceCtorEq, Int.reduceBEq, Int.reduceBNe, Int.reduceLT, Int.reduceLE, Int.reduceGT, Int.reduceGE, aggT_33, sizeT_33, bytesT_33, fieldT_33_0, fieldT_33_1, fieldT_33_2, fieldT_33_3, fieldT_33_4, placesT_33, zeroT_33, aggT_31, sizeT_31, bytesT_31, und_31, elemT_31, isSliceT_31, zero1_31, zeroT_31, aggT_156, sizeT_156, bytesT_156, zero1_156, zeroT_156, aggT_3, sizeT_3, bytesT_3, und_3, zero1_3, zeroT_3, Int.lt_irrefl, hC, hD]
    (refine Eq.trans ?_ rfl; kernel_rfl)
end Go.Proofs.YteenjodhmppgjaaGreatDoor.Am
end
section
/- The program's Shift: the walk through a term, with the closure that shifts (printed out of Mp and Mp2). -/
namespace Go.Proofs.YteenjodhmppgjaaGreatDoor.Am
open Go
variable (ext : Ext)
set_option maxHeartbeats 8000000
set_option maxRecDepth 4000
def M201 (fr bb_ : Int) : List O := [.box [.fn 197 [] [0, 1]], .box [.fn 201 [] [2, 3, 4]], .box [.d (.v (.int .i64 fr))], .box [.d (.v (.int .i64 bb_))], .box [.d (.v (.bool true))]]
theorem callV200s (rec : Rec) (o0 o1 o2 o3 o4 o5 o6 : O) (els : List (List D)) (rest : List O) (a b : Int) (s : ByteArray) (ud : D) (bb : Bool) (slot : Nat) (hr : rec (.call 200 [.agg [.d (.v (.int .i64 a)), .d (.v (.int .i64 b)), .d (.v (.string s)), .d ud, .d (.s 5 els)]] []) = some (.ret [bV bb] [])) :
    callA rec (lk (o0 :: o1 :: o2 :: o3 :: o4 :: o5 :: o6 :: .arr 5 els :: rest)) slot 200 [.agg [.d (.v (.int .i64 a)), .d (.v (.int .i64 b)), .d (.v (.string s)), .d ud, .own 7]] = some ⟨.val (bV bb), [], [7]⟩ :=
  callA_of (ids := []) (bor := [7]) (by kernel_rfl) hr (by kernel_rfl)
def E197s (x : Tm) (d : Int) (ls : List Tm) (k : Int) : Env := [(1, iV d), (2, .c (.ptr 0 0)), (3, .c (.ptr 1 0)), (4, .c (.ptr 5 0)), (6, .c (.ptr 6 0)), (7, mkV 7 (ls.map tmD)), (15, dV x.lD), (16, iV x.l.length), (17, iV k)]
def O197s (x : Tm) (fr bb_ : Int) (ls : List Tm) : List O := .box [.fn 197 [] [0, 1]] :: .box [.fn 201 [] [2, 3, 4]] :: .box [.d (.v (.int .i64 fr))] :: .box [.d (.v (.int .i64 bb_))] :: .box [.d (.v (.bool true))] :: .box (tmC (withU x)) :: .box (tmC zTm) :: mkO 5 (ls.map tmD)
theorem enter197s (hx : ext 197 = none) (x : Tm) (fr bb_ : Int) (d : Int) (hr : run Tryz.prog ext (.call 198 [dV x.uD] []) = some (.ret [dV (listD true 2 (x.u.map levD))] [])) (out : Option Out)
    (h : H197a ext 5 (E197s x d [] 0) (O197s x fr bb_ []) = out) : run Tryz.prog ext (.call 197 [tmV x, iV d, .c (.ptr 0 0), .c (.ptr 1 0)] (M201 fr bb_)) = out := by
  unfold H197a at h
  (rw [run_eq]; simp only [stepA, hx, Tryz.func197, Tryz.f197, show retF 197 = false from rfl]; simp only [List.length_cons, List.length_nil, Nat.reduceAdd, Nat.reduceLeDiff, Nat.zero_le, ↓reduceIte, List.zipIdx_cons, List.zipIdx_nil, List.map_cons, List.map_nil])
  simp only [tmV, tmC_withU, tmC_z, tmC, dV, iV, M201, E197s, O197s, List.map_nil, mkV_nil, mkO_nil] at h hr ⊢
  simp only [zS, nilEq, wantedA, opA, eff, boxA, cells, ev, gt, pt, putO, updO, setO, okC, loadA, cutC, fieldAddrA, fieldA, indexAddrA, indexA, builtinA, callOpA, callV, target, ptrV, lenS, binA, intOp, strOp, unA, num, lk, over, allocA, pickA, buildA, fillA, convertA, extractA, ofComp, nilCheckA, makeFuncA, ptrs, ofValue, cellB, Nat.reduceAdd, Nat.reduceSub, Nat.reduceMul, Nat.reduceLT, Nat.reduceLeDiff, Nat.reduceGT, ↓reduceIte, Nat.reduceEqDiff, Nat.reduceBEq, reduceCtorEq, Int.reduceBEq, Int.reduceBNe, Int.reduceLT, Int.reduceLE, Int.reduceGT, Int.reduceGE, aggT_33, sizeT_33, bytesT_33, fieldT_33_0, fieldT_33_1, fieldT_33_2, fieldT_33_3, fieldT_33_4, placesT_33, zeroT_33, aggT_30, sizeT_30, bytesT_30, und_30, elemT_30, isSliceT_30, zero1_30, zeroT_30, aggT_31, sizeT_31, bytesT_31, und_31, elemT_31, isSliceT_31, zero1_31, zeroT_31, aggT_9, sizeT_9, bytesT_9, und_9, zero1_9, zeroT_9, aggT_3, sizeT_3, bytesT_3, und_3, zero1_3, zeroT_3, hr, lenA_lD]
  (refine (r_inLoop_some ?_).trans h; kernel_rfl)
theorem callM201 (rec : Rec) (fr bb_ : Int) (t y : Tm) (e : Int) (slot : Nat) (rest : List O) (hr : rec (.call 197 [tmV t, iV e, .c (.ptr 0 0), .c (.ptr 1 0)] (M201 fr bb_)) = some (.ret [tmV y] (M201 fr bb_))) :
    callA rec (lk (M201 fr bb_ ++ rest)) slot 197 [tmV t, iV e, .c (.ptr 0 0), .c (.ptr 1 0)] = some ⟨.val (tmV y), [(0, .box [.fn 197 [] [0, 1]]), (1, .box [.fn 201 [] [2, 3, 4]]), (2, .box [.d (.v (.int .i64 fr))]), (3, .box [.d (.v (.int .i64 bb_))]), (4, .box [.d (.v (.bool true))])], [0, 1, 2, 3, 4]⟩ :=
  callA_of (ids := [0, 1, 2, 3, 4]) (bor := []) (by kernel_rfl) hr (by
    obtain ⟨_, _, h3⟩ := argV_data (look := fun _ => none) (v := tmV y) rfl
    cases hsc : scalarV (tmV y) <;> (simp only [answer, mapO, h3, results1, hsc, List.all_cons, List.all_nil, Bool.and_true]; rfl))
theorem step197s (h199 : ext 199 = none) (x t y : Tm) (fr bb_ : Int) (d : Int) (ls : List Tm) (k : Nat) (hb : ls.length < 2 ^ 29) (hk : x.l[k]? = some t) (hl : (k : Int) < x.l.length)
    (hr : run Tryz.prog ext (.call 197 [tmV t, iV (wr (d + binds x.op x.l.length k)), .c (.ptr 0 0), .c (.ptr 1 0)] (M201 fr bb_)) = some (.ret [tmV y] (M201 fr bb_))) (out : Option Out)
    (h : H197a ext 5 (E197s x d (ls ++ [y]) (wr ((k : Int) + 1))) (O197s x fr bb_ (ls ++ [y])) = out) : H197a ext 5 (E197s x d ls k) (O197s x fr bb_ ls) = out := by
  have h0 : (0 : Int) ≤ k := by omega
  have hB : run Tryz.prog ext (.call 199 [tmV (withU x), iV k] []) = some (.ret [iV (binds x.op x.l.length k)] []) := binds199 ext h199 (withU x) k
  generalize binds x.op x.l.length k = bd at hB hr
  have hC := fun rest slot => callM201 (run Tryz.prog ext) fr bb_ t y (wr (d + bd)) slot rest hr
  unfold H197a at h ⊢
  cases ls with
  | nil =>
    simp only [tmV, tmC_withU, tmC_z, tmC, dV, iV, bV, E197s, O197s, M201, lD_lt hl, List.map_append, List.map_cons, List.map_nil, mkV_nil, mkV_snoc, mkO_snoc, mkO_nil, List.cons_append, List.nil_append, tmD_eq y] at h hB hC ⊢
    (rw [show (It.code L197a) = It.code (sub B197 [1, 1, 1, 0, 1, 0, 0]) from rfl]; simp only [B197, K197a, sub, Option.getD_some, Tryz.f197, ↓reduceIte, Nat.one_ne_zero])
    simp only [zS, nilEq, wantedA, opA, eff, boxA, cells, ev, gt, pt, putO, updO, setO, okC, loadA, cutC, fieldAddrA, fieldA, indexAddrA, indexA, builtinA, callOpA, callV, target, ptrV, lenS, binA, intOp, strOp, unA, num, lk, over, allocA, pickA, buildA, fillA, convertA, extractA, ofComp, nilCheckA, makeFuncA, ptrs, ofValue, cellB, Nat.reduceAdd, Nat.reduceSub, Nat.reduceMul, Nat.reduceLT, Nat.reduceLeDiff, Nat.reduceGT, ↓reduceIte, Nat.reduceEqDiff, Nat.reduceBEq, reduceCtorEq, Int.reduceBEq, Int.reduceBNe, Int.reduceLT, Int.reduceLE, Int.reduceGT, Int.reduceGE, aggT_33, sizeT_33, bytesT_33, fieldT_33_0, fieldT_33_1, fieldT_33_2, fieldT_33_3, fieldT_33_4, placesT_33, zeroT_33, aggT_31, sizeT_31, bytesT_31, und_31, elemT_31, isSliceT_31, zero1_31, zeroT_31, aggT_156, sizeT_156, bytesT_156, zero1_156, zeroT_156, aggT_3, sizeT_3, bytesT_3, und_3, zero1_3, zeroT_3, drawA, holes_succ, holes_zero, Array.size, List.length, h0, hl, Int.toNat_natCast, hk, tmD_eq t, hB, hC, bsTm, no31, apH_arr, Nat.zero_le]
    rw [afterDraw_some _ _ _ _ (by kernel_rfl)]
    simp only [zS, nilEq, wantedA, opA, eff, boxA, cells, ev, gt, pt, putO, updO, setO, okC, loadA, cutC, fieldAddrA, fieldA, indexAddrA, indexA, builtinA, callOpA, callV, target, ptrV, lenS, binA, intOp, strOp, unA, num, lk, over, allocA, pickA, buildA, fillA, convertA, extractA, ofComp, nilCheckA, makeFuncA, ptrs, ofValue, cellB, Nat.reduceAdd, Nat.reduceSub, Nat.reduceMul, Nat.reduceLT, Nat.reduceLeDiff, Nat.reduceGT, ↓reduceIte, Nat.reduceEqDiff, Nat.reduceBEq, reduceCtorEq, Int.reduceBEq, Int.reduceBNe, Int.reduceLT, Int.reduceLE, Int.reduceGT, Int.reduceGE, aggT_33, sizeT_33, bytesT_33, fieldT_33_0, fieldT_33_1, fieldT_33_2, fieldT_33_3, fieldT_33_4, placesT_33, zeroT_33, aggT_31, sizeT_31, bytesT_31, und_31, elemT_31, isSliceT_31, zero1_31, zeroT_31, aggT_3, sizeT_3, bytesT_3, und_3, zero1_3, zeroT_3]
    (refine (r_inLoop_some ?_).trans h; kernel_rfl)
  | cons a r =>
    have hb' : r.length + 1 ≤ 1000000000 := by simp only [List.length_cons] at hb; omega
    simp only [tmV, tmC_withU, tmC_z, tmC, dV, iV, bV, E197s, O197s, M201, lD_lt hl, List.map_append, List.map_cons, List.map_nil, mkV_cons, mkV_snoc, mkO_snoc, mkO_cons, List.cons_append, List.nil_append, tmD_eq y] at h hB hC ⊢
    (rw [show (It.code L197a) = It.code (sub B197 [1, 1, 1, 0, 1, 0, 0]) from rfl]; simp only [B197, K197a, sub, Option.getD_some, Tryz.f197, ↓reduceIte, Nat.one_ne_zero])
    simp only [zS, nilEq, wantedA, opA, eff, boxA, cells, ev, gt, pt, putO, updO, setO, okC, loadA, cutC, fieldAddrA, fieldA, indexAddrA, indexA, builtinA, callOpA, callV, target, ptrV, lenS, binA, intOp, strOp, unA, num, lk, over, allocA, pickA, buildA, fillA, convertA, extractA, ofComp, nilCheckA, makeFuncA, ptrs, ofValue, cellB, Nat.reduceAdd, Nat.reduceSub, Nat.reduceMul, Nat.reduceLT, Nat.reduceLeDiff, Nat.reduceGT, ↓reduceIte, Nat.reduceEqDiff, Nat.reduceBEq, reduceCtorEq, Int.reduceBEq, Int.reduceBNe, Int.reduceLT, Int.reduceLE, Int.reduceGT, Int.reduceGE, aggT_33, sizeT_33, bytesT_33, fieldT_33_0, fieldT_33_1, fieldT_33_2, fieldT_33_3, fieldT_33_4, placesT_33, zeroT_33, aggT_31, sizeT_31, bytesT_31, und_31, elemT_31, isSliceT_31, zero1_31, zeroT_31, aggT_156, sizeT_156, bytesT_156, zero1_156, zeroT_156, aggT_3, sizeT_3, bytesT_3, und_3, zero1_3, zeroT_3, drawA, holes_succ, holes_zero, Array.size, List.length, h0, hl, Int.toNat_natCast, hk, tmD_eq t, hB, hC, bsTm, oo31, apG_arr, hb']
    rw [afterDraw_some _ _ _ _ (by kernel_rfl)]
    simp only [zS, nilEq, wantedA, opA, eff, boxA, cells, ev, gt, pt, putO, updO, setO, okC, loadA, cutC, fieldAddrA, fieldA, indexAddrA, indexA, builtinA, callOpA, callV, target, ptrV, lenS, binA, intOp, strOp, unA, num, lk, over, allocA, pickA, buildA, fillA, convertA, extractA, ofComp, nilCheckA, makeFuncA, ptrs, ofValue, cellB, Nat.reduceAdd, Nat.reduceSub, Nat.reduceMul, Nat.reduceLT, Nat.reduceLeDiff, Nat.reduceGT, ↓reduceIte, Nat.reduceEqDiff, Nat.reduceBEq, reduceCtorEq, Int.reduceBEq, Int.reduceBNe, Int.reduceLT, Int.reduceLE, Int.reduceGT, Int.reduceGE, aggT_33, sizeT_33, bytesT_33, fieldT_33_0, fieldT_33_1, fieldT_33_2, fieldT_33_3, fieldT_33_4, placesT_33, zeroT_33, aggT_31, sizeT_31, bytesT_31, und_31, elemT_31, isSliceT_31, zero1_31, zeroT_31, aggT_3, sizeT_3, bytesT_3, und_3, zero1_3, zeroT_3]
    (refine (r_inLoop_some ?_).trans h; kernel_rfl)
theorem callG201 (rec : Rec) (fr bb_ : Int) (t y : Tm) (e : Int) (slot : Nat) (rest : List O) (hr : rec (.call 201 [tmV t, iV e, .c (.ptr 0 0), .c (.ptr 1 0), .c (.ptr 2 0)] [.box [.d (.v (.int .i64 fr))], .box [.d (.v (.int .i64 bb_))], .box [.d (.v (.bool true))]]) = some (.ret [tmV y] [.box [.d (.v (.int .i64 fr))], .box [.d (.v (.int .i64 bb_))], .box [.d (.v (.bool true))]])) :
    callA rec (lk (M201 fr bb_ ++ rest)) slot 201 [tmV t, iV e, .c (.ptr 2 0), .c (.ptr 3 0), .c (.ptr 4 0)] = some ⟨.val (tmV y), [(2, .box [.d (.v (.int .i64 fr))]), (3, .box [.d (.v (.int .i64 bb_))]), (4, .box [.d (.v (.bool true))])], [2, 3, 4]⟩ :=
  callA_of (ids := [2, 3, 4]) (bor := []) (by kernel_rfl) hr (by
    obtain ⟨_, _, h3⟩ := argV_data (look := fun _ => none) (v := tmV y) rfl
    cases hsc : scalarV (tmV y) <;> (simp only [answer, mapO, h3, results1, hsc, List.all_cons, List.all_nil, Bool.and_true]; rfl))
theorem callH201 (rec : Rec) (fr bb_ : Int) (y : Tm) (o0 o1 o3 o4 : O) (els : List (List D)) (rest : List O) (a b d : Int) (s : ByteArray) (ud : D) (slot : Nat) (hr : rec (.call 201 [.agg [.d (.v (.int .i64 a)), .d (.v (.int .i64 b)), .d (.v (.string s)), .d ud, .d (.s 5 els)], iV d, .c (.ptr 0 0), .c (.ptr 1 0), .c (.ptr 2 0)] [.box [.d (.v (.int .i64 fr))], .box [.d (.v (.int .i64 bb_))], .box [.d (.v (.bool true))]]) = some (.ret [tmV y] [.box [.d (.v (.int .i64 fr))], .box [.d (.v (.int .i64 bb_))], .box [.d (.v (.bool true))]])) :
    callA rec (lk (o0 :: o1 :: .box [.d (.v (.int .i64 fr))] :: .box [.d (.v (.int .i64 bb_))] :: .box [.d (.v (.bool true))] :: o3 :: o4 :: .arr 5 els :: rest)) slot 201 [.agg [.d (.v (.int .i64 a)), .d (.v (.int .i64 b)), .d (.v (.string s)), .d ud, .own 7], iV d, .c (.ptr 2 0), .c (.ptr 3 0), .c (.ptr 4 0)] = some ⟨.val (tmV y), [(2, .box [.d (.v (.int .i64 fr))]), (3, .box [.d (.v (.int .i64 bb_))]), (4, .box [.d (.v (.bool true))]), (7, .gone)], [2, 3, 4, 7]⟩ :=
  callA_of (ids := [2, 3, 4]) (bor := [7]) (by kernel_rfl) hr (by
    obtain ⟨_, _, h3⟩ := argV_data (look := fun _ => none) (v := tmV y) rfl
    cases hsc : scalarV (tmV y) <;> (simp only [answer, mapO, h3, results1, hsc, List.all_cons, List.all_nil, Bool.and_true]; rfl))
theorem done197s (h200 : ext 200 = none) (x : Tm) (fr bb_ : Int) (d : Int) (ls : List Tm) (c : isVar x = false) : H197a ext 5 (E197s x d ls x.l.length) (O197s x fr bb_ ls) = some (.ret [tmV (mkT x ls)] (M201 fr bb_)) := by
  have hv : run Tryz.prog ext (.call 200 [tmV (mkT x ls)] []) = some (.ret [bV false] []) := by
    have := var200 ext h200 (mkT x ls)
    have e : isVar (mkT x ls) = isVar x := rfl
    rw [this, e, c]
  unfold H197a
  cases ls with
  | nil =>
    simp only [tmV, mkT, tmC_mk, tmC_withU, tmC_z, dV, iV, bV, E197s, O197s, M201, List.map_nil, mkV_nil, mkO_nil, listD_n5] at hv ⊢
    (rw [show (It.code L197a) = It.code (sub B197 [1, 1, 1, 0, 1, 0, 0]) from rfl]; simp only [B197, K197a, sub, Option.getD_some, Tryz.f197, ↓reduceIte, Nat.one_ne_zero])
    simp only [zS, nilEq, wantedA, opA, eff, boxA, cells, ev, gt, pt, putO, updO, setO, okC, loadA, cutC, fieldAddrA, fieldA, indexAddrA, indexA, builtinA, callOpA, callV, target, ptrV, lenS, binA, intOp, strOp, unA, num, lk, over, allocA, pickA, buildA, fillA, convertA, extractA, ofComp, nilCheckA, makeFuncA, ptrs, ofValue, cellB, Nat.reduceAdd, Nat.reduceSub, Nat.reduceMul, Nat.reduceLT, Nat.reduceLeDiff, Nat.reduceGT, ↓reduceIte, Nat.reduceEqDiff, Nat.reduceBEq, reduceCtorEq, Int.reduceBEq, Int.reduceBNe, Int.reduceLT, Int.reduceLE, Int.reduceGT, Int.reduceGE, aggT_33, sizeT_33, bytesT_33, fieldT_33_0, fieldT_33_1, fieldT_33_2, fieldT_33_3, fieldT_33_4, placesT_33, zeroT_33, aggT_31, sizeT_31, bytesT_31, und_31, elemT_31, isSliceT_31, zero1_31, zeroT_31, aggT_156, sizeT_156, bytesT_156, zero1_156, zeroT_156, aggT_3, sizeT_3, bytesT_3, und_3, zero1_3, zeroT_3, Int.lt_irrefl, hv]
    (refine Eq.trans ?_ rfl; kernel_rfl)
  | cons a r =>
    simp only [tmV, mkT, tmC_mk, List.map_cons, listD_t5] at hv
    have hC := fun o0 o1 o2 o3 o4 o5 o6 rest slot => callV200s (run Tryz.prog ext) o0 o1 o2 o3 o4 o5 o6 (tmD a :: r.map tmD) rest x.op x.n x.s (listD true 2 (x.u.map levD)) false slot hv
    simp only [tmV, mkT, tmC_mk, tmC_withU, tmC_z, dV, iV, bV, E197s, O197s, M201, List.map_cons, mkV_cons, mkO_cons, listD_t5] at hC ⊢
    (rw [show (It.code L197a) = It.code (sub B197 [1, 1, 1, 0, 1, 0, 0]) from rfl]; simp only [B197, K197a, sub, Option.getD_some, Tryz.f197, ↓reduceIte, Nat.one_ne_zero])
    simp only [zS, nilEq, wantedA, opA, eff, boxA, cells, ev, gt, pt, putO, updO, setO, okC, loadA, cutC, fieldAddrA, fieldA, indexAddrA, indexA, builtinA, callOpA, callV, target, ptrV, lenS, binA, intOp, strOp, unA, num, lk, over, allocA, pickA, buildA, fillA, convertA, extractA, ofComp, nilCheckA, makeFuncA, ptrs, ofValue, cellB, Nat.reduceAdd, Nat.reduceSub, Nat.reduceMul, Nat.reduceLT, Nat.reduceLeDiff, Nat.reduceGT, ↓reduceIte, Nat.reduceEqDiff, Nat.reduceBEq, reduceCtorEq, Int.reduceBEq, Int.reduceBNe, Int.reduceLT, Int.reduceLE, Int.reduceGT, Int.reduceGE, aggT_33, sizeT_33, bytesT_33, fieldT_33_0, fieldT_33_1, fieldT_33_2, fieldT_33_3, fieldT_33_4, placesT_33, zeroT_33, aggT_31, sizeT_31, bytesT_31, und_31, elemT_31, isSliceT_31, zero1_31, zeroT_31, aggT_156, sizeT_156, bytesT_156, zero1_156, zeroT_156, aggT_3, sizeT_3, bytesT_3, und_3, zero1_3, zeroT_3, Int.lt_irrefl, hC]
    (refine Eq.trans ?_ rfl; kernel_rfl)
theorem var197s (h200 : ext 200 = none) (x y : Tm) (fr bb_ : Int) (d : Int) (ls : List Tm) (c : isVar x = true) (hg : run Tryz.prog ext (.call 201 [tmV (mkT x ls), iV d, .c (.ptr 0 0), .c (.ptr 1 0), .c (.ptr 2 0)] [.box [.d (.v (.int .i64 fr))], .box [.d (.v (.int .i64 bb_))], .box [.d (.v (.bool true))]]) = some (.ret [tmV y] [.box [.d (.v (.int .i64 fr))], .box [.d (.v (.int .i64 bb_))], .box [.d (.v (.bool true))]])) :
    H197a ext 5 (E197s x d ls x.l.length) (O197s x fr bb_ ls) = some (.ret [tmV y] (M201 fr bb_)) := by
  have hv : run Tryz.prog ext (.call 200 [tmV (mkT x ls)] []) = some (.ret [bV true] []) := by
    have := var200 ext h200 (mkT x ls)
    have e : isVar (mkT x ls) = isVar x := rfl
    rw [this, e, c]
  unfold H197a
  cases ls with
  | nil =>
    have hC := fun rest slot => callG201 (run Tryz.prog ext) fr bb_ (mkT x []) y d slot rest hg
    have ey : tmV y = .agg [.d (.v (.int .i64 y.op)), .d (.v (.int .i64 y.n)), .d (.v (.string y.s)), .d y.uD, .d y.lD] := rfl
    rw [ey]
    simp only [ey] at hC
    simp only [tmV, mkT, tmC_mk, tmC_withU, tmC_z, dV, iV, bV, E197s, O197s, M201, List.map_nil, mkV_nil, mkO_nil, List.cons_append, List.nil_append, listD_n5] at hv hC ⊢
    (rw [show (It.code L197a) = It.code (sub B197 [1, 1, 1, 0, 1, 0, 0]) from rfl]; simp only [B197, K197a, sub, Option.getD_some, Tryz.f197, ↓reduceIte, Nat.one_ne_zero])
    simp only [zS, nilEq, wantedA, opA, eff, boxA, cells, ev, gt, pt, putO, updO, setO, okC, loadA, cutC, fieldAddrA, fieldA, indexAddrA, indexA, builtinA, callOpA, callV, target, ptrV, lenS, binA, intOp, strOp, unA, num, lk, over, allocA, pickA, buildA, fillA, convertA, extractA, ofComp, nilCheckA, makeFuncA, ptrs, ofValue, cellB, Nat.reduceAdd, Nat.reduceSub, Nat.reduceMul, Nat.reduceLT, Nat.reduceLeDiff, Nat.reduceGT, ↓reduceIte, Nat.reduceEqDiff, Nat.reduceBEq, reduceCtorEq, Int.reduceBEq, Int.reduceBNe, Int.reduceLT, Int.reduceLE, Int.reduceGT, Int.reduceGE, aggT_33, sizeT_33, bytesT_33, fieldT_33_0, fieldT_33_1, fieldT_33_2, fieldT_33_3, fieldT_33_4, placesT_33, zeroT_33, aggT_31, sizeT_31, bytesT_31, und_31, elemT_31, isSliceT_31, zero1_31, zeroT_31, aggT_156, sizeT_156, bytesT_156, zero1_156, zeroT_156, aggT_3, sizeT_3, bytesT_3, und_3, zero1_3, zeroT_3, Int.lt_irrefl, hv, hC]
    (refine Eq.trans ?_ rfl; kernel_rfl)
  | cons a r =>
    simp only [tmV, mkT, tmC_mk, List.map_cons, listD_t5] at hv
    have hg' := hg
    have ey : tmV y = .agg [.d (.v (.int .i64 y.op)), .d (.v (.int .i64 y.n)), .d (.v (.string y.s)), .d y.uD, .d y.lD] := rfl
    have em : tmV (mkT x (a :: r)) = .agg [.d (.v (.int .i64 x.op)), .d (.v (.int .i64 x.n)), .d (.v (.string x.s)), .d (listD true 2 (x.u.map levD)), .d (.s 5 (tmD a :: r.map tmD))] := rfl
    rw [em] at hg'
    have hC := fun o0 o1 o2 o3 o4 o5 o6 rest slot => callV200s (run Tryz.prog ext) o0 o1 o2 o3 o4 o5 o6 (tmD a :: r.map tmD) rest x.op x.n x.s (listD true 2 (x.u.map levD)) true slot hv
    have hD := fun o0 o1 o3 o4 rest slot => callH201 (run Tryz.prog ext) fr bb_ y o0 o1 o3 o4 (tmD a :: r.map tmD) rest x.op x.n d x.s (listD true 2 (x.u.map levD)) slot hg'
    rw [ey]
    simp only [ey] at hD
    simp only [tmC_withU, tmC_z, dV, iV, bV, E197s, O197s, M201, List.map_cons, mkV_cons, mkO_cons] at hC hD ⊢
    (rw [show (It.code L197a) = It.code (sub B197 [1, 1, 1, 0, 1, 0, 0]) from rfl]; simp only [B197, K197a, sub, Option.getD_some, Tryz.f197, ↓reduceIte, Nat.one_ne_zero])
    simp only [zS, nilEq, wantedA, opA, eff, boxA, cells, ev, gt, pt, putO, updO, setO, okC, loadA, cutC, fieldAddrA, fieldA, indexAddrA, indexA, builtinA, callOpA, callV, target, ptrV, lenS, binA, intOp, strOp, unA, num, lk, over, allocA, pickA, buildA, fillA, convertA, extractA, ofComp, nilCheckA, makeFuncA, ptrs, ofValue, cellB, Nat.reduceAdd, Nat.reduceSub, Nat.reduceMul, Nat.reduceLT, Nat.reduceLeDiff, Nat.reduceGT, ↓reduceIte, Nat.reduceEqDiff, Nat.reduceBEq, reduceCtorEq, Int.reduceBEq, Int.reduceBNe, Int.reduceLT, Int.reduceLE, Int.reduceGT, Int.reduceGE, aggT_33, sizeT_33, bytesT_33, fieldT_33_0, fieldT_33_1, fieldT_33_2, fieldT_33_3, fieldT_33_4, placesT_33, zeroT_33, aggT_31, sizeT_31, bytesT_31, und_31, elemT_31, isSliceT_31, zero1_31, zeroT_31, aggT_156, sizeT_156, bytesT_156, zero1_156, zeroT_156, aggT_3, sizeT_3, bytesT_3, und_3, zero1_3, zeroT_3, Int.lt_irrefl, hC, hD]
    (refine Eq.trans ?_ rfl; kernel_rfl)
end Go.Proofs.YteenjodhmppgjaaGreatDoor.Am
end
section
/- The closures of Fill and of Shift. -/
namespace Go.Proofs.YteenjodhmppgjaaGreatDoor.Am
open Go
variable (ext : Ext)
set_option maxHeartbeats 8000000
set_option maxRecDepth 4000
def shC (by_ : Int) (x : Tm) (d : Int) : Tm := if 0 ≤ x.n - d then .mk x.op (wr (x.n + by_)) x.s x.u x.zu x.l x.zl else x
theorem clo201 (hx : ext 201 = none) (x : Tm) (d by_ : Int) (c : isVar x = true) (h0 : 0 ≤ d) (h1 : d < 2 ^ 40) (h2 : 0 ≤ by_) (h3 : by_ < 2 ^ 40) :
    run Tryz.prog ext (.call 201 [tmV x, iV d, .c (.ptr 0 0), .c (.ptr 1 0), .c (.ptr 2 0)] [.box [.d (.v (.int .i64 0))], .box [.d (.v (.int .i64 by_))], .box [.d (.v (.bool true))]]) = some (.ret [tmV (shC by_ x d)] [.box [.d (.v (.int .i64 0))], .box [.d (.v (.int .i64 by_))], .box [.d (.v (.bool true))]]) := by
  simp only [isVar, Bool.and_eq_true, decide_eq_true_eq] at c
  obtain ⟨_, c1, c2⟩ := c
  have e1 : wr (x.n - d) = x.n - d := wr_id (by omega) (by omega)
  have e2 : wr (x.n + by_) = x.n + by_ := wr_id (by omega) (by omega)
  have e3 : wr (x.n + by_ - d) = x.n + by_ - d := wr_id (by omega) (by omega)
  unfold shC
  by_cases g : 0 ≤ x.n - d
  · have g2 : 0 ≤ x.n + by_ - d := by omega
    rw [if_pos g, e2]
    (rw [run_eq]; simp only [stepA, hx, Tryz.func201, Tryz.f201, show retF 201 = false from rfl]; simp only [List.length_cons, List.length_nil, Nat.reduceAdd, Nat.reduceLeDiff, Nat.zero_le, ↓reduceIte, List.zipIdx_cons, List.zipIdx_nil, List.map_cons, List.map_nil])
    simp only [tmV, tmC_mk, iV]
    simp only [tmC]
    simp only [zS, nilEq, wantedA, opA, eff, boxA, cells, ev, gt, pt, putO, updO, setO, okC, loadA, cutC, fieldAddrA, fieldA, indexAddrA, indexA, builtinA, callOpA, callV, target, ptrV, lenS, binA, intOp, strOp, unA, num, lk, over, allocA, pickA, buildA, fillA, convertA, extractA, ofComp, nilCheckA, makeFuncA, ptrs, ofValue, cellB, Nat.reduceAdd, Nat.reduceSub, Nat.reduceMul, Nat.reduceLT, Nat.reduceLeDiff, Nat.reduceGT, ↓reduceIte, Nat.reduceEqDiff, Nat.reduceBEq, reduceCtorEq, Int.reduceBEq, Int.reduceBNe, Int.reduceLT, Int.reduceLE, Int.reduceGT, Int.reduceGE, aggT_33, sizeT_33, bytesT_33, fieldT_33_0, fieldT_33_1, fieldT_33_2, fieldT_33_3, fieldT_33_4, placesT_33, zeroT_33, aggT_31, sizeT_31, bytesT_31, und_31, elemT_31, isSliceT_31, zero1_31, zeroT_31, aggT_30, sizeT_30, bytesT_30, und_30, elemT_30, isSliceT_30, zero1_30, zeroT_30, aggT_9, sizeT_9, bytesT_9, und_9, zero1_9, zeroT_9, aggT_4, sizeT_4, bytesT_4, und_4, zero1_4, zeroT_4, aggT_3, sizeT_3, bytesT_3, und_3, zero1_3, zeroT_3, ge_iff_le, e1, e2, e3, g, g2]
    (refine Eq.trans ?_ rfl; kernel_rfl)
  · rw [if_neg g]
    (rw [run_eq]; simp only [stepA, hx, Tryz.func201, Tryz.f201, show retF 201 = false from rfl]; simp only [List.length_cons, List.length_nil, Nat.reduceAdd, Nat.reduceLeDiff, Nat.zero_le, ↓reduceIte, List.zipIdx_cons, List.zipIdx_nil, List.map_cons, List.map_nil])
    simp only [tmV, iV]
    simp only [tmC]
    simp only [zS, nilEq, wantedA, opA, eff, boxA, cells, ev, gt, pt, putO, updO, setO, okC, loadA, cutC, fieldAddrA, fieldA, indexAddrA, indexA, builtinA, callOpA, callV, target, ptrV, lenS, binA, intOp, strOp, unA, num, lk, over, allocA, pickA, buildA, fillA, convertA, extractA, ofComp, nilCheckA, makeFuncA, ptrs, ofValue, cellB, Nat.reduceAdd, Nat.reduceSub, Nat.reduceMul, Nat.reduceLT, Nat.reduceLeDiff, Nat.reduceGT, ↓reduceIte, Nat.reduceEqDiff, Nat.reduceBEq, reduceCtorEq, Int.reduceBEq, Int.reduceBNe, Int.reduceLT, Int.reduceLE, Int.reduceGT, Int.reduceGE, aggT_33, sizeT_33, bytesT_33, fieldT_33_0, fieldT_33_1, fieldT_33_2, fieldT_33_3, fieldT_33_4, placesT_33, zeroT_33, aggT_31, sizeT_31, bytesT_31, und_31, elemT_31, isSliceT_31, zero1_31, zeroT_31, aggT_30, sizeT_30, bytesT_30, und_30, elemT_30, isSliceT_30, zero1_30, zeroT_30, aggT_9, sizeT_9, bytesT_9, und_9, zero1_9, zeroT_9, aggT_4, sizeT_4, bytesT_4, und_4, zero1_4, zeroT_4, aggT_3, sizeT_3, bytesT_3, und_3, zero1_3, zeroT_3, ge_iff_le, e1, g]
    (refine Eq.trans ?_ rfl; kernel_rfl)
def flC (up : Int → Tm) (x : Tm) (d : Int) : Tm := if x.n - d < 0 then x else if x.n - d < 1 then up d else .mk x.op (wr (x.n - 1)) x.s x.u x.zu x.l x.zl
theorem clo131 (hx : ext 131 = none) (up : Int → Tm) (x A : Tm) (d : Int) (b : Bool) (c : isVar x = true) (h0 : 0 ≤ d) (h1 : d < 2 ^ 40) (hu : run Tryz.prog ext (.call 132 [tmV A, iV d, iV 0] []) = some (.ret [tmV (up d), bV b] [])) :
    run Tryz.prog ext (.call 131 [tmV x, iV d, .c (.ptr 0 0)] [.box [.d (argD A)]]) = some (.ret [tmV (flC up x d)] [.box [.d (argD A)]]) := by
  simp only [isVar, Bool.and_eq_true, decide_eq_true_eq] at c
  obtain ⟨_, c1, c2⟩ := c
  have e1 : wr (x.n - d) = x.n - d := wr_id (by omega) (by omega)
  have k1 : ((1 : Nat) : Int) = 1 := rfl
  unfold flC
  by_cases g : x.n - d < 0
  · rw [if_pos g]
    (rw [run_eq]; simp only [stepA, hx, Tryz.func131, Tryz.f131, show retF 131 = false from rfl]; simp only [List.length_cons, List.length_nil, Nat.reduceAdd, Nat.reduceLeDiff, Nat.zero_le, ↓reduceIte, List.zipIdx_cons, List.zipIdx_nil, List.map_cons, List.map_nil])
    simp only [tmV, tmC, iV, argD]
    simp only [zS, nilEq, wantedA, opA, eff, boxA, cells, ev, gt, pt, putO, updO, setO, okC, loadA, cutC, fieldAddrA, fieldA, indexAddrA, indexA, builtinA, callOpA, callV, target, ptrV, lenS, binA, intOp, strOp, unA, num, lk, over, allocA, pickA, buildA, fillA, convertA, extractA, ofComp, nilCheckA, makeFuncA, ptrs, ofValue, cellB, Nat.reduceAdd, Nat.reduceSub, Nat.reduceMul, Nat.reduceLT, Nat.reduceLeDiff, Nat.reduceGT, ↓reduceIte, Nat.reduceEqDiff, Nat.reduceBEq, reduceCtorEq, Int.reduceBEq, Int.reduceBNe, Int.reduceLT, Int.reduceLE, Int.reduceGT, Int.reduceGE, aggT_33, sizeT_33, bytesT_33, fieldT_33_0, fieldT_33_1, fieldT_33_2, fieldT_33_3, fieldT_33_4, placesT_33, zeroT_33, aggT_31, sizeT_31, bytesT_31, und_31, elemT_31, isSliceT_31, zero1_31, zeroT_31, aggT_30, sizeT_30, bytesT_30, und_30, elemT_30, isSliceT_30, zero1_30, zeroT_30, aggT_9, sizeT_9, bytesT_9, und_9, zero1_9, zeroT_9, aggT_3, sizeT_3, bytesT_3, und_3, zero1_3, zeroT_3, e1, g]
    (refine Eq.trans ?_ rfl; kernel_rfl)
  rw [if_neg g]
  by_cases g1 : x.n - d < 1
  · rw [if_pos g1]
    have e0 : x.n - d = 0 := by omega
    have ew : wr 0 = 0 := wr_id (by omega) (by omega)
    generalize up d = y at hu
    (rw [run_eq]; simp only [stepA, hx, Tryz.func131, Tryz.f131, show retF 131 = false from rfl]; simp only [List.length_cons, List.length_nil, Nat.reduceAdd, Nat.reduceLeDiff, Nat.zero_le, ↓reduceIte, List.zipIdx_cons, List.zipIdx_nil, List.map_cons, List.map_nil])
    simp only [tmV, tmC, iV, bV, argD] at hu ⊢
    simp only [zS, nilEq, wantedA, opA, eff, boxA, cells, ev, gt, pt, putO, updO, setO, okC, loadA, cutC, fieldAddrA, fieldA, indexAddrA, indexA, builtinA, callOpA, callV, target, ptrV, lenS, binA, intOp, strOp, unA, num, lk, over, allocA, pickA, buildA, fillA, convertA, extractA, ofComp, nilCheckA, makeFuncA, ptrs, ofValue, cellB, Nat.reduceAdd, Nat.reduceSub, Nat.reduceMul, Nat.reduceLT, Nat.reduceLeDiff, Nat.reduceGT, ↓reduceIte, Nat.reduceEqDiff, Nat.reduceBEq, reduceCtorEq, Int.reduceBEq, Int.reduceBNe, Int.reduceLT, Int.reduceLE, Int.reduceGT, Int.reduceGE, aggT_33, sizeT_33, bytesT_33, fieldT_33_0, fieldT_33_1, fieldT_33_2, fieldT_33_3, fieldT_33_4, placesT_33, zeroT_33, aggT_31, sizeT_31, bytesT_31, und_31, elemT_31, isSliceT_31, zero1_31, zeroT_31, aggT_30, sizeT_30, bytesT_30, und_30, elemT_30, isSliceT_30, zero1_30, zeroT_30, aggT_9, sizeT_9, bytesT_9, und_9, zero1_9, zeroT_9, aggT_3, sizeT_3, bytesT_3, und_3, zero1_3, zeroT_3, ew, e0, k1, Int.le_refl, Int.toNat_zero, tmD_eq A, hu, callOut_vd]
    (refine Eq.trans ?_ rfl; kernel_rfl)
  · rw [if_neg g1]
    (rw [run_eq]; simp only [stepA, hx, Tryz.func131, Tryz.f131, show retF 131 = false from rfl]; simp only [List.length_cons, List.length_nil, Nat.reduceAdd, Nat.reduceLeDiff, Nat.zero_le, ↓reduceIte, List.zipIdx_cons, List.zipIdx_nil, List.map_cons, List.map_nil])
    simp only [tmV, tmC_mk, iV, argD]
    simp only [tmC]
    simp only [zS, nilEq, wantedA, opA, eff, boxA, cells, ev, gt, pt, putO, updO, setO, okC, loadA, cutC, fieldAddrA, fieldA, indexAddrA, indexA, builtinA, callOpA, callV, target, ptrV, lenS, binA, intOp, strOp, unA, num, lk, over, allocA, pickA, buildA, fillA, convertA, extractA, ofComp, nilCheckA, makeFuncA, ptrs, ofValue, cellB, Nat.reduceAdd, Nat.reduceSub, Nat.reduceMul, Nat.reduceLT, Nat.reduceLeDiff, Nat.reduceGT, ↓reduceIte, Nat.reduceEqDiff, Nat.reduceBEq, reduceCtorEq, Int.reduceBEq, Int.reduceBNe, Int.reduceLT, Int.reduceLE, Int.reduceGT, Int.reduceGE, aggT_33, sizeT_33, bytesT_33, fieldT_33_0, fieldT_33_1, fieldT_33_2, fieldT_33_3, fieldT_33_4, placesT_33, zeroT_33, aggT_31, sizeT_31, bytesT_31, und_31, elemT_31, isSliceT_31, zero1_31, zeroT_31, aggT_30, sizeT_30, bytesT_30, und_30, elemT_30, isSliceT_30, zero1_30, zeroT_30, aggT_9, sizeT_9, bytesT_9, und_9, zero1_9, zeroT_9, aggT_3, sizeT_3, bytesT_3, und_3, zero1_3, zeroT_3, e1, g, g1, k1]
    (refine Eq.trans ?_ rfl; kernel_rfl)
end Go.Proofs.YteenjodhmppgjaaGreatDoor.Am
end
section
/- The program's walk through a term, with a closure. -/
namespace Go.Proofs.YteenjodhmppgjaaGreatDoor.Am
open Go
variable (ext : Ext)
def mapP (g : Tm → Int → Tm) : Nat → Tm → Int → Tm
  | 0, _, _ => zTm
  | N + 1, x, d => if isVar x then g (mkT x (x.l.zipIdx.map fun p => mapP g N p.1 (wr (d + binds x.op x.l.length p.2)))) d else mkT x (x.l.zipIdx.map fun p => mapP g N p.1 (wr (d + binds x.op x.l.length p.2)))
theorem map197 (hx : ext 197 = none) (h198 : ext 198 = none) (h239 : ext 239 = none) (hc : Clones ext) (h199 : ext 199 = none) (h200 : ext 200 = none) (g : Tm → Int → Tm) (A : Tm)
    (hg : ∀ (y : Tm) (d : Int), isVar y = true → 0 ≤ d → d < 2 ^ 31 → run Tryz.prog ext (.call 131 [tmV y, iV d, .c (.ptr 0 0)] [.box [.d (argD A)]]) = some (.ret [tmV (g y d)] [.box [.d (argD A)]])) : ∀ (N : Nat) (x : Tm) (d : Int), x.sz ≤ N → 0 ≤ d → d + 3 * N < 2 ^ 31 → N < 2 ^ 29 →
    run Tryz.prog ext (.call 197 [tmV x, iV d, .c (.ptr 0 0), .c (.ptr 1 0)] (M131 A)) = some (.ret [tmV (mapP g N x d)] (M131 A))
  | 0, x, d, h, _, _, _ => by have := x.sz_pos; omega
  | N + 1, x, d, h, h0, h1, hN => by
    have hll := x.len_lt
    have hr := copied198 ext h198 h239 hc x.zu x.u (by have := x.ulen_lt; omega) (fun u hu => by have := Tm.lev_lt hu; unfold Lev.sz at this; omega)
    have e : listD x.zu 2 (x.u.map levD) = x.uD := rfl
    rw [e] at hr
    refine enter197 ext hx x A d hr _ ?_
    have ha := loop_mapE (fun p : Tm × Nat => (mapP g N p.1 (wr (d + binds x.op x.l.length p.2)), (0 : Int))) x.l.zipIdx (fun k ls => H197a ext 3 (E197 x d ls k) (O197 x A ls)) (fun _ => none)
      (fun ls => some (.ret [tmV (if isVar x then g (mkT x ls) d else mkT x ls)] (M131 A))) (by rw [List.length_zipIdx]; omega) (fun k p ls hk hl he => by
        obtain ⟨hk', hp⟩ := zipIdx_get hk
        rw [List.length_zipIdx] at hl
        have hbd := binds_le x.op x.l.length p.2
        have hwd : wr (d + binds x.op x.l.length p.2) = d + binds x.op x.l.length p.2 := wr_id (by omega) (by omega)
        have hr := map197 hx h198 h239 hc h199 h200 g A hg N p.1 (wr (d + binds x.op x.l.length p.2)) (by have := Tm.sz_lt (List.mem_of_getElem? hk'); omega) (by omega) (by omega) (by omega)
        rw [hp] at hr ⊢
        exact ⟨fun _ out ho => step197 ext h199 x p.1 _ A d ls k (by omega) hk' hl hr out ho, fun h => absurd rfl h⟩) (fun ls _ => by
        rw [List.length_zipIdx]
        cases c : isVar x with
        | true => exact var197 ext h200 x A _ d ls c (hg (mkT x ls) d c h0 (by omega))
        | false => exact done197 ext h200 x A d ls c)
    rw [mapE_pure (fun p : Tm × Nat => mapP g N p.1 (wr (d + binds x.op x.l.length p.2)))] at ha
    rw [mapP]
    have ha' : H197a ext 3 (E197 x d [] 0) (O197 x A []) = _ := ha
    rw [ha']

theorem map197s (hx : ext 197 = none) (h198 : ext 198 = none) (h239 : ext 239 = none) (hc : Clones ext) (h199 : ext 199 = none) (h200 : ext 200 = none) (g : Tm → Int → Tm) (fr bb_ : Int)
    (hg : ∀ (y : Tm) (d : Int), isVar y = true → 0 ≤ d → d < 2 ^ 31 → run Tryz.prog ext (.call 201 [tmV y, iV d, .c (.ptr 0 0), .c (.ptr 1 0), .c (.ptr 2 0)] [.box [.d (.v (.int .i64 fr))], .box [.d (.v (.int .i64 bb_))], .box [.d (.v (.bool true))]]) = some (.ret [tmV (g y d)] [.box [.d (.v (.int .i64 fr))], .box [.d (.v (.int .i64 bb_))], .box [.d (.v (.bool true))]])) : ∀ (N : Nat) (x : Tm) (d : Int), x.sz ≤ N → 0 ≤ d → d + 3 * N < 2 ^ 31 → N < 2 ^ 29 →
    run Tryz.prog ext (.call 197 [tmV x, iV d, .c (.ptr 0 0), .c (.ptr 1 0)] (M201 fr bb_)) = some (.ret [tmV (mapP g N x d)] (M201 fr bb_))
  | 0, x, d, h, _, _, _ => by have := x.sz_pos; omega
  | N + 1, x, d, h, h0, h1, hN => by
    have hll := x.len_lt
    have hr := copied198 ext h198 h239 hc x.zu x.u (by have := x.ulen_lt; omega) (fun u hu => by have := Tm.lev_lt hu; unfold Lev.sz at this; omega)
    have e : listD x.zu 2 (x.u.map levD) = x.uD := rfl
    rw [e] at hr
    refine enter197s ext hx x fr bb_ d hr _ ?_
    have ha := loop_mapE (fun p : Tm × Nat => (mapP g N p.1 (wr (d + binds x.op x.l.length p.2)), (0 : Int))) x.l.zipIdx (fun k ls => H197a ext 5 (E197s x d ls k) (O197s x fr bb_ ls)) (fun _ => none)
      (fun ls => some (.ret [tmV (if isVar x then g (mkT x ls) d else mkT x ls)] (M201 fr bb_))) (by rw [List.length_zipIdx]; omega) (fun k p ls hk hl he => by
        obtain ⟨hk', hp⟩ := zipIdx_get hk
        rw [List.length_zipIdx] at hl
        have hbd := binds_le x.op x.l.length p.2
        have hwd : wr (d + binds x.op x.l.length p.2) = d + binds x.op x.l.length p.2 := wr_id (by omega) (by omega)
        have hr := map197s hx h198 h239 hc h199 h200 g fr bb_ hg N p.1 (wr (d + binds x.op x.l.length p.2)) (by have := Tm.sz_lt (List.mem_of_getElem? hk'); omega) (by omega) (by omega) (by omega)
        rw [hp] at hr ⊢
        exact ⟨fun _ out ho => step197s ext h199 x p.1 _ fr bb_ d ls k (by omega) hk' hl hr out ho, fun h => absurd rfl h⟩) (fun ls _ => by
        rw [List.length_zipIdx]
        cases c : isVar x with
        | true => exact var197s ext h200 x _ fr bb_ d ls c (hg (mkT x ls) d c h0 (by omega))
        | false => exact done197s ext h200 x fr bb_ d ls c)
    rw [mapE_pure (fun p : Tm × Nat => mapP g N p.1 (wr (d + binds x.op x.l.length p.2)))] at ha
    rw [mapP]
    have ha' : H197a ext 5 (E197s x d [] 0) (O197s x fr bb_ []) = _ := ha
    rw [ha']

end Go.Proofs.YteenjodhmppgjaaGreatDoor.Am
end
section
/- The program's mapped, with the closure of Fill. -/
namespace Go.Proofs.YteenjodhmppgjaaGreatDoor.Am
open Go
variable (ext : Ext)
set_option maxHeartbeats 8000000
set_option maxRecDepth 4000
theorem callK131 (rec : Rec) (A t y : Tm) (o1 o3 : O) (slot : Nat) (hr : rec (.call 197 [tmV t, iV 0, .c (.ptr 0 0), .c (.ptr 1 0)] (M131 A)) = some (.ret [tmV y] (M131 A))) :
    callA rec (lk [.box [.d (argD A)], o1, .box [.fn 131 [] [0]], o3, .box [.fn 197 [] [4, 2]]]) slot 197 [tmV t, iV 0, .c (.ptr 4 0), .c (.ptr 2 0)] = some ⟨.val (tmV y), [(4, .box [.fn 197 [] [4, 2]]), (2, .box [.fn 131 [] [0]]), (0, .box [.d (argD A)])], [4, 2, 0]⟩ :=
  callA_of (ids := [4, 2, 0]) (bor := []) (by kernel_rfl) hr (by
    obtain ⟨_, _, h3⟩ := argV_data (look := fun _ => none) (v := tmV y) rfl
    cases hsc : scalarV (tmV y) <;> (simp only [answer, mapO, h3, results1, hsc, List.all_cons, List.all_nil, Bool.and_true]; rfl))
theorem mapped130 (hx : ext 130 = none) (x A y : Tm) (hr : run Tryz.prog ext (.call 197 [tmV x, iV 0, .c (.ptr 0 0), .c (.ptr 1 0)] (M131 A)) = some (.ret [tmV y] (M131 A))) :
    run Tryz.prog ext (.call 130 [tmV x, .c (.fn 131 [] [0])] [.box [.d (argD A)]]) = some (.ret [tmV y] [.box [.d (argD A)]]) := by
  have hC := fun o1 o3 slot => callK131 (run Tryz.prog ext) A x y o1 o3 slot hr
  (rw [run_eq]; simp only [stepA, hx, Tryz.func130, Tryz.f130, show retF 130 = false from rfl]; simp only [List.length_cons, List.length_nil, Nat.reduceAdd, Nat.reduceLeDiff, Nat.zero_le, ↓reduceIte, List.zipIdx_cons, List.zipIdx_nil, List.map_cons, List.map_nil])
  simp only [tmV, tmC, iV] at hC ⊢
  simp only [zS, nilEq, wantedA, opA, eff, boxA, cells, ev, gt, pt, putO, updO, setO, okC, loadA, cutC, fieldAddrA, fieldA, indexAddrA, indexA, builtinA, callOpA, callV, target, ptrV, lenS, binA, intOp, strOp, unA, num, lk, over, allocA, pickA, buildA, fillA, convertA, extractA, ofComp, nilCheckA, makeFuncA, ptrs, ofValue, cellB, Nat.reduceAdd, Nat.reduceSub, Nat.reduceMul, Nat.reduceLT, Nat.reduceLeDiff, Nat.reduceGT, ↓reduceIte, Nat.reduceEqDiff, Nat.reduceBEq, reduceCtorEq, Int.reduceBEq, Int.reduceBNe, Int.reduceLT, Int.reduceLE, Int.reduceGT, Int.reduceGE, aggT_33, sizeT_33, bytesT_33, fieldT_33_0, fieldT_33_1, fieldT_33_2, fieldT_33_3, fieldT_33_4, placesT_33, zeroT_33, aggT_31, sizeT_31, bytesT_31, und_31, elemT_31, isSliceT_31, zero1_31, zeroT_31, aggT_156, sizeT_156, bytesT_156, zero1_156, zeroT_156, aggT_9, sizeT_9, bytesT_9, und_9, zero1_9, zeroT_9, aggT_30, sizeT_30, bytesT_30, und_30, elemT_30, isSliceT_30, zero1_30, zeroT_30, aggT_3, sizeT_3, bytesT_3, und_3, zero1_3, zeroT_3, hC]
  (refine Eq.trans ?_ rfl; kernel_rfl)
theorem callK201 (rec : Rec) (fr bb_ : Int) (t y : Tm) (o3 o5 : O) (slot : Nat) (hr : rec (.call 197 [tmV t, iV 0, .c (.ptr 0 0), .c (.ptr 1 0)] (M201 fr bb_)) = some (.ret [tmV y] (M201 fr bb_))) :
    callA rec (lk [.box [.d (.v (.int .i64 fr))], .box [.d (.v (.int .i64 bb_))], .box [.d (.v (.bool true))], o3, .box [.fn 201 [] [0, 1, 2]], o5, .box [.fn 197 [] [6, 4]]]) slot 197 [tmV t, iV 0, .c (.ptr 6 0), .c (.ptr 4 0)] = some ⟨.val (tmV y), [(6, .box [.fn 197 [] [6, 4]]), (4, .box [.fn 201 [] [0, 1, 2]]), (0, .box [.d (.v (.int .i64 fr))]), (1, .box [.d (.v (.int .i64 bb_))]), (2, .box [.d (.v (.bool true))])], [6, 4, 0, 1, 2]⟩ :=
  callA_of (ids := [6, 4, 0, 1, 2]) (bor := []) (by kernel_rfl) hr (by
    obtain ⟨_, _, h3⟩ := argV_data (look := fun _ => none) (v := tmV y) rfl
    cases hsc : scalarV (tmV y) <;> (simp only [answer, mapO, h3, results1, hsc, List.all_cons, List.all_nil, Bool.and_true]; rfl))
theorem mapped130s (hx : ext 130 = none) (x y : Tm) (fr bb_ : Int) (hr : run Tryz.prog ext (.call 197 [tmV x, iV 0, .c (.ptr 0 0), .c (.ptr 1 0)] (M201 fr bb_)) = some (.ret [tmV y] (M201 fr bb_))) :
    run Tryz.prog ext (.call 130 [tmV x, .c (.fn 201 [] [0, 1, 2])] [.box [.d (.v (.int .i64 fr))], .box [.d (.v (.int .i64 bb_))], .box [.d (.v (.bool true))]]) = some (.ret [tmV y] [.box [.d (.v (.int .i64 fr))], .box [.d (.v (.int .i64 bb_))], .box [.d (.v (.bool true))]]) := by
  have hC := fun o1 o3 slot => callK201 (run Tryz.prog ext) fr bb_ x y o1 o3 slot hr
  (rw [run_eq]; simp only [stepA, hx, Tryz.func130, Tryz.f130, show retF 130 = false from rfl]; simp only [List.length_cons, List.length_nil, Nat.reduceAdd, Nat.reduceLeDiff, Nat.zero_le, ↓reduceIte, List.zipIdx_cons, List.zipIdx_nil, List.map_cons, List.map_nil])
  simp only [tmV, tmC, iV] at hC ⊢
  simp only [zS, nilEq, wantedA, opA, eff, boxA, cells, ev, gt, pt, putO, updO, setO, okC, loadA, cutC, fieldAddrA, fieldA, indexAddrA, indexA, builtinA, callOpA, callV, target, ptrV, lenS, binA, intOp, strOp, unA, num, lk, over, allocA, pickA, buildA, fillA, convertA, extractA, ofComp, nilCheckA, makeFuncA, ptrs, ofValue, cellB, Nat.reduceAdd, Nat.reduceSub, Nat.reduceMul, Nat.reduceLT, Nat.reduceLeDiff, Nat.reduceGT, ↓reduceIte, Nat.reduceEqDiff, Nat.reduceBEq, reduceCtorEq, Int.reduceBEq, Int.reduceBNe, Int.reduceLT, Int.reduceLE, Int.reduceGT, Int.reduceGE, aggT_33, sizeT_33, bytesT_33, fieldT_33_0, fieldT_33_1, fieldT_33_2, fieldT_33_3, fieldT_33_4, placesT_33, zeroT_33, aggT_31, sizeT_31, bytesT_31, und_31, elemT_31, isSliceT_31, zero1_31, zeroT_31, aggT_156, sizeT_156, bytesT_156, zero1_156, zeroT_156, aggT_9, sizeT_9, bytesT_9, und_9, zero1_9, zeroT_9, aggT_30, sizeT_30, bytesT_30, und_30, elemT_30, isSliceT_30, zero1_30, zeroT_30, aggT_3, sizeT_3, bytesT_3, und_3, zero1_3, zeroT_3, hC]
  (refine Eq.trans ?_ rfl; kernel_rfl)
end Go.Proofs.YteenjodhmppgjaaGreatDoor.Am
end
section
/- The program's Shift and Fill. -/
namespace Go.Proofs.YteenjodhmppgjaaGreatDoor.Am
open Go
variable (ext : Ext)
set_option maxHeartbeats 8000000
set_option maxRecDepth 4000
theorem callL201 (rec : Rec) (fr bb_ : Int) (t y : Tm) (o0 o3 : O) (slot : Nat) (hr : rec (.call 130 [tmV t, .c (.fn 201 [] [0, 1, 2])] [.box [.d (.v (.int .i64 fr))], .box [.d (.v (.int .i64 bb_))], .box [.d (.v (.bool true))]]) = some (.ret [tmV y] [.box [.d (.v (.int .i64 fr))], .box [.d (.v (.int .i64 bb_))], .box [.d (.v (.bool true))]])) :
    callA rec (lk [o0, .box [.d (.v (.int .i64 bb_))], .box [.d (.v (.int .i64 fr))], o3, .box [.d (.v (.bool true))]]) slot 130 [tmV t, .c (.fn 201 [] [2, 1, 4])] = some ⟨.val (tmV y), [(2, .box [.d (.v (.int .i64 fr))]), (1, .box [.d (.v (.int .i64 bb_))]), (4, .box [.d (.v (.bool true))])], [2, 1, 4]⟩ :=
  callA_of (ids := [2, 1, 4]) (bor := []) (by kernel_rfl) hr (by
    obtain ⟨_, _, h3⟩ := argV_data (look := fun _ => none) (v := tmV y) rfl
    cases hsc : scalarV (tmV y) <;> (simp only [answer, mapO, h3, results1, hsc, List.all_cons, List.all_nil, Bool.and_true]; rfl))
theorem shift132 (hx : ext 132 = none) (x y : Tm) (bb_ : Int) (h0 : 0 ≤ bb_) (h1 : bb_ ≤ 2147483648) (hr : run Tryz.prog ext (.call 130 [tmV x, .c (.fn 201 [] [0, 1, 2])] [.box [.d (.v (.int .i64 0))], .box [.d (.v (.int .i64 bb_))], .box [.d (.v (.bool true))]]) = some (.ret [tmV y] [.box [.d (.v (.int .i64 0))], .box [.d (.v (.int .i64 bb_))], .box [.d (.v (.bool true))]])) :
    run Tryz.prog ext (.call 132 [tmV x, iV bb_, iV 0] []) = some (.ret [tmV y, bV true] []) := by
  have hC := fun o1 o3 slot => callL201 (run Tryz.prog ext) 0 bb_ x y o1 o3 slot hr
  have h2 : ¬ bb_ < -2147483648 := by omega
  have h3 : ¬ bb_ > 2147483648 := by omega
  (rw [run_eq]; simp only [stepA, hx, Tryz.func132, Tryz.f132, show retF 132 = false from rfl]; simp only [List.length_cons, List.length_nil, Nat.reduceAdd, Nat.reduceLeDiff, Nat.zero_le, ↓reduceIte, List.zipIdx_cons, List.zipIdx_nil, List.map_cons, List.map_nil])
  simp only [tmV, tmC, iV, bV] at hC ⊢
  simp only [zS, nilEq, wantedA, opA, eff, boxA, cells, ev, gt, pt, putO, updO, setO, okC, loadA, cutC, fieldAddrA, fieldA, indexAddrA, indexA, builtinA, callOpA, callV, target, ptrV, lenS, binA, intOp, strOp, unA, num, lk, over, allocA, pickA, buildA, fillA, convertA, extractA, ofComp, nilCheckA, makeFuncA, ptrs, ofValue, cellB, Nat.reduceAdd, Nat.reduceSub, Nat.reduceMul, Nat.reduceLT, Nat.reduceLeDiff, Nat.reduceGT, ↓reduceIte, Nat.reduceEqDiff, Nat.reduceBEq, reduceCtorEq, Int.reduceBEq, Int.reduceBNe, Int.reduceLT, Int.reduceLE, Int.reduceGT, Int.reduceGE, aggT_33, sizeT_33, bytesT_33, fieldT_33_0, fieldT_33_1, fieldT_33_2, fieldT_33_3, fieldT_33_4, placesT_33, zeroT_33, aggT_31, sizeT_31, bytesT_31, und_31, elemT_31, isSliceT_31, zero1_31, zeroT_31, aggT_156, sizeT_156, bytesT_156, zero1_156, zeroT_156, aggT_4, sizeT_4, bytesT_4, und_4, zero1_4, zeroT_4, aggT_9, sizeT_9, bytesT_9, und_9, zero1_9, zeroT_9, aggT_30, sizeT_30, bytesT_30, und_30, elemT_30, isSliceT_30, zero1_30, zeroT_30, aggT_3, sizeT_3, bytesT_3, und_3, zero1_3, zeroT_3, h2, h3, hC]
  (refine Eq.trans ?_ rfl; kernel_rfl)
theorem callF130 (rec : Rec) (A t y : Tm) (o0 o2 : O) (slot : Nat) (hr : rec (.call 130 [tmV t, .c (.fn 131 [] [0])] [.box [.d (argD A)]]) = some (.ret [tmV y] [.box [.d (argD A)]])) :
    callA rec (lk [o0, .box [.d (argD A)], o2]) slot 130 [tmV t, .c (.fn 131 [] [1])] = some ⟨.val (tmV y), [(1, .box [.d (argD A)])], [1]⟩ :=
  callA_of (ids := [1]) (bor := []) (by kernel_rfl) hr (by
    obtain ⟨_, _, h3⟩ := argV_data (look := fun _ => none) (v := tmV y) rfl
    cases hsc : scalarV (tmV y) <;> (simp only [answer, mapO, h3, results1, hsc, List.all_cons, List.all_nil, Bool.and_true]; rfl))
theorem fill86 (hx : ext 86 = none) (x A y : Tm) (hr : run Tryz.prog ext (.call 130 [tmV x, .c (.fn 131 [] [0])] [.box [.d (argD A)]]) = some (.ret [tmV y] [.box [.d (argD A)]])) :
    run Tryz.prog ext (.call 86 [tmV x, dV (argD A)] []) = some (.ret [tmV y] []) := by
  have hC := fun o1 o3 slot => callF130 (run Tryz.prog ext) A x y o1 o3 slot hr
  (rw [run_eq]; simp only [stepA, hx, Tryz.func86, Tryz.f86, show retF 86 = false from rfl]; simp only [List.length_cons, List.length_nil, Nat.reduceAdd, Nat.reduceLeDiff, Nat.zero_le, ↓reduceIte, List.zipIdx_cons, List.zipIdx_nil, List.map_cons, List.map_nil])
  simp only [tmV, tmC, iV, dV] at hC ⊢
  simp only [zS, nilEq, wantedA, opA, eff, boxA, cells, ev, gt, pt, putO, updO, setO, okC, loadA, cutC, fieldAddrA, fieldA, indexAddrA, indexA, builtinA, callOpA, callV, target, ptrV, lenS, binA, intOp, strOp, unA, num, lk, over, allocA, pickA, buildA, fillA, convertA, extractA, ofComp, nilCheckA, makeFuncA, ptrs, ofValue, cellB, Nat.reduceAdd, Nat.reduceSub, Nat.reduceMul, Nat.reduceLT, Nat.reduceLeDiff, Nat.reduceGT, ↓reduceIte, Nat.reduceEqDiff, Nat.reduceBEq, reduceCtorEq, Int.reduceBEq, Int.reduceBNe, Int.reduceLT, Int.reduceLE, Int.reduceGT, Int.reduceGE, aggT_33, sizeT_33, bytesT_33, fieldT_33_0, fieldT_33_1, fieldT_33_2, fieldT_33_3, fieldT_33_4, placesT_33, zeroT_33, aggT_31, sizeT_31, bytesT_31, und_31, elemT_31, isSliceT_31, zero1_31, zeroT_31, aggT_156, sizeT_156, bytesT_156, zero1_156, zeroT_156, aggT_9, sizeT_9, bytesT_9, und_9, zero1_9, zeroT_9, aggT_30, sizeT_30, bytesT_30, und_30, elemT_30, isSliceT_30, zero1_30, zeroT_30, aggT_3, sizeT_3, bytesT_3, und_3, zero1_3, zeroT_3, hC]
  (refine Eq.trans ?_ rfl; kernel_rfl)
end Go.Proofs.YteenjodhmppgjaaGreatDoor.Am
end
section
/- The program's Fill: what it answers. -/
namespace Go.Proofs.YteenjodhmppgjaaGreatDoor.Am
open Go
variable (ext : Ext)
def upP (A : Tm) (d : Int) : Tm := mapP (shC d) A.sz A 0
def flP (A x : Tm) : Tm := mapP (flC (upP A)) x.sz x 0
theorem fillP (h86 : ext 86 = none) (h130 : ext 130 = none) (h131 : ext 131 = none) (h132 : ext 132 = none) (h201 : ext 201 = none) (hx : ext 197 = none) (h198 : ext 198 = none) (h239 : ext 239 = none) (hc : Clones ext) (h199 : ext 199 = none) (h200 : ext 200 = none)
    (x A : Tm) (hs : x.sz < 2 ^ 29) (hA : A.sz < 2 ^ 29) : run Tryz.prog ext (.call 86 [tmV x, dV (argD A)] []) = some (.ret [tmV (flP A x)] []) := by
  refine fill86 ext h86 x A _ (mapped130 ext h130 x A _ ?_)
  refine map197 ext hx h198 h239 hc h199 h200 (flC (upP A)) A (fun y d c h0 h1 => ?_) x.sz x 0 (Nat.le_refl _) (by omega) (by omega) hs
  refine clo131 ext h131 (upP A) y A d true c h0 (by omega) ?_
  refine shift132 ext h132 A _ d h0 (by omega) (mapped130s ext h130 A _ 0 d ?_)
  exact map197s ext hx h198 h239 hc h199 h200 (shC d) 0 d (fun y e c' k0 k1 => clo201 ext h201 y e d c' k0 (by omega) h0 (by omega)) A.sz A 0 (Nat.le_refl _) (by omega) (by omega) hA
end Go.Proofs.YteenjodhmppgjaaGreatDoor.Am
end
section
/- Arg, by the program. -/
namespace Go.Proofs.YteenjodhmppgjaaGreatDoor.Am
open Go
variable (ext : Ext)
set_option maxHeartbeats 8000000
set_option maxRecDepth 4000
theorem arg46 (hx : ext 46 = none) (f : Lev → Lev × Int) (fl : Tm → Tm) (x : Tb) (s : ByteArray) (z : Bool) (l : List Lev) (i : Int) (A : Tm) (ht : run Tryz.prog ext (.call 83 [tbV x, sV s, dV (listD z 2 (l.map levD))] []) = some (.ret [dcV (inst x s l.length).1, iV (inst x s l.length).2] []))
    (hr : run Tryz.prog ext (.call 79 [tmV (conArg (inst x s l.length).1 i), dV (listD z 2 (l.map levD))] []) = some (.ret [tmV (setL f (conArg (inst x s l.length).1 i)).1, iV (setL f (conArg (inst x s l.length).1 i)).2] []))
    (hf : (setL f (conArg (inst x s l.length).1 i)).2 = 0 → run Tryz.prog ext (.call 86 [tmV (setL f (conArg (inst x s l.length).1 i)).1, dV (argD A)] []) = some (.ret [tmV (fl (setL f (conArg (inst x s l.length).1 i)).1)] [])) :
    run Tryz.prog ext (.call 46 [tbV x, sV s, dV (listD z 2 (l.map levD)), iV i, tmV A] []) = some (.ret [tmV (argOf f fl x s l.length i).1, iV (argOf f fl x s l.length i).2] []) := by
  unfold argOf declOf
  generalize inst x s l.length = p at ht hr hf ⊢
  obtain ⟨d, e⟩ := p
  dsimp only at ht hr hf ⊢
  by_cases c : e = 0
  · subst c
    rw [if_pos rfl]
    by_cases c1 : i < 0
    · have hq : (if 0 ≤ i ∧ i < (d.cons.length : Int) then setL f (conArg d i) else (zTm, 42)) = (zTm, (42 : Int)) := if_neg (by omega)
      rw [hq]
      rw [if_neg (show ¬ ((zTm, (42 : Int)).2 = 0) by simp)]
      (rw [run_eq]; simp only [stepA, hx, Tryz.func46, Tryz.f46, show retF 46 = false from rfl]; simp only [List.length_cons, List.length_nil, Nat.reduceAdd, Nat.reduceLeDiff, Nat.zero_le, ↓reduceIte, List.zipIdx_cons, List.zipIdx_nil, List.map_cons, List.map_nil])
      simp only [dcV, dcC, tbV, tbC, tmV, tmC_z, tmC, sV, iV, bV, dV] at ht ⊢
      simp only [zS, nilEq, wantedA, opA, eff, boxA, cells, ev, gt, pt, putO, updO, setO, okC, loadA, cutC, fieldAddrA, fieldA, indexAddrA, indexA, builtinA, callOpA, callV, target, ptrV, lenS, binA, intOp, strOp, unA, num, lk, over, allocA, pickA, buildA, fillA, convertA, extractA, ofComp, nilCheckA, makeFuncA, ptrs, ofValue, cellB, Nat.reduceAdd, Nat.reduceSub, Nat.reduceMul, Nat.reduceLT, Nat.reduceLeDiff, Nat.reduceGT, ↓reduceIte, Nat.reduceEqDiff, Nat.reduceBEq, reduceCtorEq, Int.reduceBEq, Int.reduceBNe, Int.reduceLT, Int.reduceLE, Int.reduceGT, Int.reduceGE, aggT_24, sizeT_24, bytesT_24, fieldT_24_0, placesT_24, zeroT_24, aggT_39, sizeT_39, bytesT_39, fieldT_39_0, fieldT_39_1, fieldT_39_2, fieldT_39_3, fieldT_39_4, fieldT_39_5, fieldT_39_6, fieldT_39_7, fieldT_39_8, placesT_39, zeroT_39, aggT_33, sizeT_33, bytesT_33, fieldT_33_0, fieldT_33_1, fieldT_33_2, fieldT_33_3, fieldT_33_4, placesT_33, zeroT_33, aggT_36, sizeT_36, bytesT_36, fieldT_36_0, fieldT_36_1, placesT_36, zeroT_36, aggT_37, sizeT_37, bytesT_37, und_37, elemT_37, isSliceT_37, zero1_37, zeroT_37, aggT_30, sizeT_30, bytesT_30, und_30, elemT_30, isSliceT_30, zero1_30, zeroT_30, aggT_27, sizeT_27, bytesT_27, und_27, zero1_27, zeroT_27, aggT_9, sizeT_9, bytesT_9, und_9, zero1_9, zeroT_9, aggT_3, sizeT_3, bytesT_3, und_3, zero1_3, zeroT_3, ht, callOut_vd, c1]
      (refine Eq.trans ?_ rfl; kernel_rfl)
    by_cases c2 : (d.cons.length : Int) ≤ i
    · have hq : (if 0 ≤ i ∧ i < (d.cons.length : Int) then setL f (conArg d i) else (zTm, 42)) = (zTm, (42 : Int)) := if_neg (by omega)
      rw [hq]
      rw [if_neg (show ¬ ((zTm, (42 : Int)).2 = 0) by simp)]
      (rw [run_eq]; simp only [stepA, hx, Tryz.func46, Tryz.f46, show retF 46 = false from rfl]; simp only [List.length_cons, List.length_nil, Nat.reduceAdd, Nat.reduceLeDiff, Nat.zero_le, ↓reduceIte, List.zipIdx_cons, List.zipIdx_nil, List.map_cons, List.map_nil])
      simp only [dcV, dcC, tbV, tbC, tmV, tmC_z, tmC, sV, iV, bV, dV] at ht ⊢
      simp only [zS, nilEq, wantedA, opA, eff, boxA, cells, ev, gt, pt, putO, updO, setO, okC, loadA, cutC, fieldAddrA, fieldA, indexAddrA, indexA, builtinA, callOpA, callV, target, ptrV, lenS, binA, intOp, strOp, unA, num, lk, over, allocA, pickA, buildA, fillA, convertA, extractA, ofComp, nilCheckA, makeFuncA, ptrs, ofValue, cellB, Nat.reduceAdd, Nat.reduceSub, Nat.reduceMul, Nat.reduceLT, Nat.reduceLeDiff, Nat.reduceGT, ↓reduceIte, Nat.reduceEqDiff, Nat.reduceBEq, reduceCtorEq, Int.reduceBEq, Int.reduceBNe, Int.reduceLT, Int.reduceLE, Int.reduceGT, Int.reduceGE, aggT_24, sizeT_24, bytesT_24, fieldT_24_0, placesT_24, zeroT_24, aggT_39, sizeT_39, bytesT_39, fieldT_39_0, fieldT_39_1, fieldT_39_2, fieldT_39_3, fieldT_39_4, fieldT_39_5, fieldT_39_6, fieldT_39_7, fieldT_39_8, placesT_39, zeroT_39, aggT_33, sizeT_33, bytesT_33, fieldT_33_0, fieldT_33_1, fieldT_33_2, fieldT_33_3, fieldT_33_4, placesT_33, zeroT_33, aggT_36, sizeT_36, bytesT_36, fieldT_36_0, fieldT_36_1, placesT_36, zeroT_36, aggT_37, sizeT_37, bytesT_37, und_37, elemT_37, isSliceT_37, zero1_37, zeroT_37, aggT_30, sizeT_30, bytesT_30, und_30, elemT_30, isSliceT_30, zero1_30, zeroT_30, aggT_27, sizeT_27, bytesT_27, und_27, zero1_27, zeroT_27, aggT_9, sizeT_9, bytesT_9, und_9, zero1_9, zeroT_9, aggT_3, sizeT_3, bytesT_3, und_3, zero1_3, zeroT_3, ht, callOut_vd, c1, c2, lenA_cd, ge_iff_le]
      (refine Eq.trans ?_ rfl; kernel_rfl)
    have hq : (if 0 ≤ i ∧ i < (d.cons.length : Int) then setL f (conArg d i) else (zTm, 42)) = setL f (conArg d i) := if_pos ⟨by omega, by omega⟩
    rw [hq]
    clear hq
    obtain ⟨k, rfl⟩ : ∃ k : Nat, i = k := ⟨i.toNat, by omega⟩
    have h0 : (0 : Int) ≤ k := by omega
    have hl : (k : Int) < d.cons.length := by omega
    have hk : d.cons[k]? = some (d.cons[k]'(by omega)) := by simp
    generalize d.cons[k]'(by omega) = y at hk
    have ey : conArg d k = y.arg := by simp [conArg, hk]
    rw [ey] at hr hf ⊢
    generalize setL f y.arg = q at hr hf ⊢
    obtain ⟨t, e⟩ := q
    dsimp only at hr hf ⊢
    have hd := consD_lt hl
    by_cases c3 : e = 0
    · subst c3
      have hf := hf rfl
      rw [if_pos rfl]
      generalize fl t = w at hf ⊢
      cases hsc : scalarV (tmV w)
      all_goals
        (rw [run_eq]; simp only [stepA, hx, Tryz.func46, Tryz.f46, show retF 46 = false from rfl]; simp only [List.length_cons, List.length_nil, Nat.reduceAdd, Nat.reduceLeDiff, Nat.zero_le, ↓reduceIte, List.zipIdx_cons, List.zipIdx_nil, List.map_cons, List.map_nil])
        simp only [dcV, dcC, tbV, tbC, tmV, tmC, sV, iV, bV, dV, hd, argD, tmD_eq A] at ht hr hf hsc ⊢
        simp only [zS, nilEq, wantedA, opA, eff, boxA, cells, ev, gt, pt, putO, updO, setO, okC, loadA, cutC, fieldAddrA, fieldA, indexAddrA, indexA, builtinA, callOpA, callV, target, ptrV, lenS, binA, intOp, strOp, unA, num, lk, over, allocA, pickA, buildA, fillA, convertA, extractA, ofComp, nilCheckA, makeFuncA, ptrs, ofValue, cellB, Nat.reduceAdd, Nat.reduceSub, Nat.reduceMul, Nat.reduceLT, Nat.reduceLeDiff, Nat.reduceGT, ↓reduceIte, Nat.reduceEqDiff, Nat.reduceBEq, reduceCtorEq, Int.reduceBEq, Int.reduceBNe, Int.reduceLT, Int.reduceLE, Int.reduceGT, Int.reduceGE, aggT_24, sizeT_24, bytesT_24, fieldT_24_0, placesT_24, zeroT_24, aggT_39, sizeT_39, bytesT_39, fieldT_39_0, fieldT_39_1, fieldT_39_2, fieldT_39_3, fieldT_39_4, fieldT_39_5, fieldT_39_6, fieldT_39_7, fieldT_39_8, placesT_39, zeroT_39, aggT_33, sizeT_33, bytesT_33, fieldT_33_0, fieldT_33_1, fieldT_33_2, fieldT_33_3, fieldT_33_4, placesT_33, zeroT_33, aggT_36, sizeT_36, bytesT_36, fieldT_36_0, fieldT_36_1, placesT_36, zeroT_36, aggT_37, sizeT_37, bytesT_37, und_37, elemT_37, isSliceT_37, zero1_37, zeroT_37, aggT_98, sizeT_98, bytesT_98, fieldT_98_0, fieldT_98_1, placesT_98, zeroT_98, aggT_31, sizeT_31, bytesT_31, und_31, elemT_31, isSliceT_31, zero1_31, zeroT_31, aggT_30, sizeT_30, bytesT_30, und_30, elemT_30, isSliceT_30, zero1_30, zeroT_30, aggT_27, sizeT_27, bytesT_27, und_27, zero1_27, zeroT_27, aggT_9, sizeT_9, bytesT_9, und_9, zero1_9, zeroT_9, aggT_3, sizeT_3, bytesT_3, und_3, zero1_3, zeroT_3, ht, callOut_vd, c1, c2, ge_iff_le, h0, hl, Int.toNat_natCast, hk, conD_eq y, hr]
        simp only [zS, nilEq, wantedA, opA, eff, boxA, cells, ev, gt, pt, putO, updO, setO, okC, loadA, cutC, fieldAddrA, fieldA, indexAddrA, indexA, builtinA, callOpA, callV, target, ptrV, lenS, binA, intOp, strOp, unA, num, lk, over, allocA, pickA, buildA, fillA, convertA, extractA, ofComp, nilCheckA, makeFuncA, ptrs, ofValue, cellB, Nat.reduceAdd, Nat.reduceSub, Nat.reduceMul, Nat.reduceLT, Nat.reduceLeDiff, Nat.reduceGT, ↓reduceIte, Nat.reduceEqDiff, Nat.reduceBEq, reduceCtorEq, Int.reduceBEq, Int.reduceBNe, Int.reduceLT, Int.reduceLE, Int.reduceGT, Int.reduceGE, aggT_33, sizeT_33, bytesT_33, fieldT_33_0, fieldT_33_1, fieldT_33_2, fieldT_33_3, fieldT_33_4, placesT_33, zeroT_33, aggT_31, sizeT_31, bytesT_31, und_31, elemT_31, isSliceT_31, zero1_31, zeroT_31, aggT_27, sizeT_27, bytesT_27, und_27, zero1_27, zeroT_27, aggT_3, sizeT_3, bytesT_3, und_3, zero1_3, zeroT_3, bsTm, callA_o1, coK_arr, (id rfl : ownF 86 = false), hf, callOut_bor, hsc, kills]
        (refine Eq.trans ?_ rfl; kernel_rfl)
    · rw [if_neg c3]
      (rw [run_eq]; simp only [stepA, hx, Tryz.func46, Tryz.f46, show retF 46 = false from rfl]; simp only [List.length_cons, List.length_nil, Nat.reduceAdd, Nat.reduceLeDiff, Nat.zero_le, ↓reduceIte, List.zipIdx_cons, List.zipIdx_nil, List.map_cons, List.map_nil])
      simp only [dcV, dcC, tbV, tbC, tmV, tmC_z, tmC, sV, iV, bV, dV, hd] at ht hr ⊢
      simp only [zS, nilEq, wantedA, opA, eff, boxA, cells, ev, gt, pt, putO, updO, setO, okC, loadA, cutC, fieldAddrA, fieldA, indexAddrA, indexA, builtinA, callOpA, callV, target, ptrV, lenS, binA, intOp, strOp, unA, num, lk, over, allocA, pickA, buildA, fillA, convertA, extractA, ofComp, nilCheckA, makeFuncA, ptrs, ofValue, cellB, Nat.reduceAdd, Nat.reduceSub, Nat.reduceMul, Nat.reduceLT, Nat.reduceLeDiff, Nat.reduceGT, ↓reduceIte, Nat.reduceEqDiff, Nat.reduceBEq, reduceCtorEq, Int.reduceBEq, Int.reduceBNe, Int.reduceLT, Int.reduceLE, Int.reduceGT, Int.reduceGE, aggT_24, sizeT_24, bytesT_24, fieldT_24_0, placesT_24, zeroT_24, aggT_39, sizeT_39, bytesT_39, fieldT_39_0, fieldT_39_1, fieldT_39_2, fieldT_39_3, fieldT_39_4, fieldT_39_5, fieldT_39_6, fieldT_39_7, fieldT_39_8, placesT_39, zeroT_39, aggT_33, sizeT_33, bytesT_33, fieldT_33_0, fieldT_33_1, fieldT_33_2, fieldT_33_3, fieldT_33_4, placesT_33, zeroT_33, aggT_36, sizeT_36, bytesT_36, fieldT_36_0, fieldT_36_1, placesT_36, zeroT_36, aggT_37, sizeT_37, bytesT_37, und_37, elemT_37, isSliceT_37, zero1_37, zeroT_37, aggT_98, sizeT_98, bytesT_98, fieldT_98_0, fieldT_98_1, placesT_98, zeroT_98, aggT_30, sizeT_30, bytesT_30, und_30, elemT_30, isSliceT_30, zero1_30, zeroT_30, aggT_27, sizeT_27, bytesT_27, und_27, zero1_27, zeroT_27, aggT_9, sizeT_9, bytesT_9, und_9, zero1_9, zeroT_9, aggT_3, sizeT_3, bytesT_3, und_3, zero1_3, zeroT_3, ht, callOut_vd, c1, c2, ge_iff_le, h0, hl, Int.toNat_natCast, hk, conD_eq y, hr, c3]
      (refine Eq.trans ?_ rfl; kernel_rfl)
  · rw [if_neg c, if_neg c]
    (rw [run_eq]; simp only [stepA, hx, Tryz.func46, Tryz.f46, show retF 46 = false from rfl]; simp only [List.length_cons, List.length_nil, Nat.reduceAdd, Nat.reduceLeDiff, Nat.zero_le, ↓reduceIte, List.zipIdx_cons, List.zipIdx_nil, List.map_cons, List.map_nil])
    simp only [dcV, dcC, tbV, tbC, tmV, tmC_z, tmC, sV, iV, bV, dV] at ht ⊢
    simp only [zS, nilEq, wantedA, opA, eff, boxA, cells, ev, gt, pt, putO, updO, setO, okC, loadA, cutC, fieldAddrA, fieldA, indexAddrA, indexA, builtinA, callOpA, callV, target, ptrV, lenS, binA, intOp, strOp, unA, num, lk, over, allocA, pickA, buildA, fillA, convertA, extractA, ofComp, nilCheckA, makeFuncA, ptrs, ofValue, cellB, Nat.reduceAdd, Nat.reduceSub, Nat.reduceMul, Nat.reduceLT, Nat.reduceLeDiff, Nat.reduceGT, ↓reduceIte, Nat.reduceEqDiff, Nat.reduceBEq, reduceCtorEq, Int.reduceBEq, Int.reduceBNe, Int.reduceLT, Int.reduceLE, Int.reduceGT, Int.reduceGE, aggT_24, sizeT_24, bytesT_24, fieldT_24_0, placesT_24, zeroT_24, aggT_39, sizeT_39, bytesT_39, fieldT_39_0, fieldT_39_1, fieldT_39_2, fieldT_39_3, fieldT_39_4, fieldT_39_5, fieldT_39_6, fieldT_39_7, fieldT_39_8, placesT_39, zeroT_39, aggT_33, sizeT_33, bytesT_33, fieldT_33_0, fieldT_33_1, fieldT_33_2, fieldT_33_3, fieldT_33_4, placesT_33, zeroT_33, aggT_36, sizeT_36, bytesT_36, fieldT_36_0, fieldT_36_1, placesT_36, zeroT_36, aggT_30, sizeT_30, bytesT_30, und_30, elemT_30, isSliceT_30, zero1_30, zeroT_30, aggT_27, sizeT_27, bytesT_27, und_27, zero1_27, zeroT_27, aggT_9, sizeT_9, bytesT_9, und_9, zero1_9, zeroT_9, aggT_3, sizeT_3, bytesT_3, und_3, zero1_3, zeroT_3, ht, callOut_vd, c]
    (refine Eq.trans ?_ rfl; kernel_rfl)
end Go.Proofs.YteenjodhmppgjaaGreatDoor.Am
end
section
/- What TableFamilies asks with; whether it is heavy. -/
namespace Go.Proofs.YteenjodhmppgjaaGreatDoor.Am
open Go
variable (ext : Ext)
set_option maxHeartbeats 8000000
structure Ask where
  s : ByteArray
  z : Bool
  ls : List Lev
  n : Int
  a : Tm
  b : Tm
def Ask.d (x : Ask) : D := listD x.z 2 (x.ls.map levD)
def askC (x : Ask) : List C := [.d (.v (.string x.s)), .d x.d, .d (.v (.int .i64 x.n)), .d (.v (.int .i64 x.a.op)), .d (.v (.int .i64 x.a.n)), .d (.v (.string x.a.s)), .d x.a.uD, .d x.a.lD, .d (.v (.int .i64 x.b.op)), .d (.v (.int .i64 x.b.n)), .d (.v (.string x.b.s)), .d x.b.uD, .d x.b.lD]
def askV (x : Ask) : V := .agg (askC x)
theorem heavy38 (hx : ext 38 = none) (x : Ask) (b1 b2 b3 : Bool) (r31 : run Tryz.prog ext (.call 31 [dV x.d] []) = some (.ret [bV b1] [])) (r1 : run Tryz.prog ext (.call 17 [tmV x.a, iV 400] []) = some (.ret [bV b2] [])) (r2 : run Tryz.prog ext (.call 17 [tmV x.b, iV 400] []) = some (.ret [bV b3] [])) :
    run Tryz.prog ext (.call 38 [askV x] []) = some (.ret [bV (decide ((x.s.size : Int) > 200) || (b1 || (b2 || b3)))] []) := by
  by_cases c : (x.s.size : Int) > 200
  · rw [decide_eq_true c, Bool.true_or]
    (rw [run_eq]; simp only [stepA, hx, Tryz.func38, Tryz.f38, show retF 38 = false from rfl]; simp only [List.length_cons, List.length_nil, Nat.reduceAdd, Nat.reduceLeDiff, Nat.zero_le, ↓reduceIte, List.zipIdx_cons, List.zipIdx_nil, List.map_cons, List.map_nil])
    simp only [askV, askC, dV, iV, bV]
    simp only [zS, nilEq, wantedA, opA, eff, boxA, cells, ev, gt, pt, putO, updO, setO, okC, loadA, cutC, fieldAddrA, fieldA, indexAddrA, indexA, builtinA, callOpA, callV, target, ptrV, lenS, binA, intOp, strOp, unA, num, lk, over, allocA, pickA, buildA, fillA, convertA, extractA, ofComp, nilCheckA, makeFuncA, ptrs, ofValue, cellB, Nat.reduceAdd, Nat.reduceSub, Nat.reduceMul, Nat.reduceLT, Nat.reduceLeDiff, Nat.reduceGT, ↓reduceIte, Nat.reduceEqDiff, Nat.reduceBEq, reduceCtorEq, Int.reduceBEq, Int.reduceBNe, Int.reduceLT, Int.reduceLE, Int.reduceGT, Int.reduceGE, aggT_67, sizeT_67, bytesT_67, fieldT_67_0, fieldT_67_1, fieldT_67_2, fieldT_67_3, fieldT_67_4, placesT_67, zeroT_67, aggT_9, sizeT_9, bytesT_9, und_9, zero1_9, zeroT_9, aggT_30, sizeT_30, bytesT_30, und_30, elemT_30, isSliceT_30, zero1_30, zeroT_30, aggT_33, sizeT_33, bytesT_33, fieldT_33_0, fieldT_33_1, fieldT_33_2, fieldT_33_3, fieldT_33_4, placesT_33, zeroT_33, aggT_3, sizeT_3, bytesT_3, und_3, zero1_3, zeroT_3, c]
    (refine Eq.trans ?_ rfl; kernel_rfl)
  rw [decide_eq_false c, Bool.false_or]
  cases b1 with
  | true =>
    (rw [run_eq]; simp only [stepA, hx, Tryz.func38, Tryz.f38, show retF 38 = false from rfl]; simp only [List.length_cons, List.length_nil, Nat.reduceAdd, Nat.reduceLeDiff, Nat.zero_le, ↓reduceIte, List.zipIdx_cons, List.zipIdx_nil, List.map_cons, List.map_nil])
    simp only [askV, askC, dV, iV, bV] at r31 ⊢
    simp only [zS, nilEq, wantedA, opA, eff, boxA, cells, ev, gt, pt, putO, updO, setO, okC, loadA, cutC, fieldAddrA, fieldA, indexAddrA, indexA, builtinA, callOpA, callV, target, ptrV, lenS, binA, intOp, strOp, unA, num, lk, over, allocA, pickA, buildA, fillA, convertA, extractA, ofComp, nilCheckA, makeFuncA, ptrs, ofValue, cellB, Nat.reduceAdd, Nat.reduceSub, Nat.reduceMul, Nat.reduceLT, Nat.reduceLeDiff, Nat.reduceGT, ↓reduceIte, Nat.reduceEqDiff, Nat.reduceBEq, reduceCtorEq, Int.reduceBEq, Int.reduceBNe, Int.reduceLT, Int.reduceLE, Int.reduceGT, Int.reduceGE, aggT_67, sizeT_67, bytesT_67, fieldT_67_0, fieldT_67_1, fieldT_67_2, fieldT_67_3, fieldT_67_4, placesT_67, zeroT_67, aggT_9, sizeT_9, bytesT_9, und_9, zero1_9, zeroT_9, aggT_30, sizeT_30, bytesT_30, und_30, elemT_30, isSliceT_30, zero1_30, zeroT_30, aggT_33, sizeT_33, bytesT_33, fieldT_33_0, fieldT_33_1, fieldT_33_2, fieldT_33_3, fieldT_33_4, placesT_33, zeroT_33, aggT_3, sizeT_3, bytesT_3, und_3, zero1_3, zeroT_3, c, r31]
    (refine Eq.trans ?_ rfl; kernel_rfl)
  | false =>
  cases b2 with
  | true =>
    (rw [run_eq]; simp only [stepA, hx, Tryz.func38, Tryz.f38, show retF 38 = false from rfl]; simp only [List.length_cons, List.length_nil, Nat.reduceAdd, Nat.reduceLeDiff, Nat.zero_le, ↓reduceIte, List.zipIdx_cons, List.zipIdx_nil, List.map_cons, List.map_nil])
    simp only [askV, askC, dV, iV, bV, tmV, tmC] at r31 r1 ⊢
    simp only [zS, nilEq, wantedA, opA, eff, boxA, cells, ev, gt, pt, putO, updO, setO, okC, loadA, cutC, fieldAddrA, fieldA, indexAddrA, indexA, builtinA, callOpA, callV, target, ptrV, lenS, binA, intOp, strOp, unA, num, lk, over, allocA, pickA, buildA, fillA, convertA, extractA, ofComp, nilCheckA, makeFuncA, ptrs, ofValue, cellB, Nat.reduceAdd, Nat.reduceSub, Nat.reduceMul, Nat.reduceLT, Nat.reduceLeDiff, Nat.reduceGT, ↓reduceIte, Nat.reduceEqDiff, Nat.reduceBEq, reduceCtorEq, Int.reduceBEq, Int.reduceBNe, Int.reduceLT, Int.reduceLE, Int.reduceGT, Int.reduceGE, aggT_67, sizeT_67, bytesT_67, fieldT_67_0, fieldT_67_1, fieldT_67_2, fieldT_67_3, fieldT_67_4, placesT_67, zeroT_67, aggT_9, sizeT_9, bytesT_9, und_9, zero1_9, zeroT_9, aggT_30, sizeT_30, bytesT_30, und_30, elemT_30, isSliceT_30, zero1_30, zeroT_30, aggT_33, sizeT_33, bytesT_33, fieldT_33_0, fieldT_33_1, fieldT_33_2, fieldT_33_3, fieldT_33_4, placesT_33, zeroT_33, aggT_3, sizeT_3, bytesT_3, und_3, zero1_3, zeroT_3, c, r31, r1]
    (refine Eq.trans ?_ rfl; kernel_rfl)
  | false =>
    cases b3
    all_goals
      (rw [run_eq]; simp only [stepA, hx, Tryz.func38, Tryz.f38, show retF 38 = false from rfl]; simp only [List.length_cons, List.length_nil, Nat.reduceAdd, Nat.reduceLeDiff, Nat.zero_le, ↓reduceIte, List.zipIdx_cons, List.zipIdx_nil, List.map_cons, List.map_nil])
      simp only [askV, askC, dV, iV, bV, tmV, tmC] at r31 r1 r2 ⊢
      simp only [zS, nilEq, wantedA, opA, eff, boxA, cells, ev, gt, pt, putO, updO, setO, okC, loadA, cutC, fieldAddrA, fieldA, indexAddrA, indexA, builtinA, callOpA, callV, target, ptrV, lenS, binA, intOp, strOp, unA, num, lk, over, allocA, pickA, buildA, fillA, convertA, extractA, ofComp, nilCheckA, makeFuncA, ptrs, ofValue, cellB, Nat.reduceAdd, Nat.reduceSub, Nat.reduceMul, Nat.reduceLT, Nat.reduceLeDiff, Nat.reduceGT, ↓reduceIte, Nat.reduceEqDiff, Nat.reduceBEq, reduceCtorEq, Int.reduceBEq, Int.reduceBNe, Int.reduceLT, Int.reduceLE, Int.reduceGT, Int.reduceGE, aggT_67, sizeT_67, bytesT_67, fieldT_67_0, fieldT_67_1, fieldT_67_2, fieldT_67_3, fieldT_67_4, placesT_67, zeroT_67, aggT_9, sizeT_9, bytesT_9, und_9, zero1_9, zeroT_9, aggT_30, sizeT_30, bytesT_30, und_30, elemT_30, isSliceT_30, zero1_30, zeroT_30, aggT_33, sizeT_33, bytesT_33, fieldT_33_0, fieldT_33_1, fieldT_33_2, fieldT_33_3, fieldT_33_4, placesT_33, zeroT_33, aggT_3, sizeT_3, bytesT_3, und_3, zero1_3, zeroT_3, c, r31, r1, r2]
      (refine Eq.trans ?_ rfl; kernel_rfl)
end Go.Proofs.YteenjodhmppgjaaGreatDoor.Am
end
section
/- Filling in, by the program and by the reference: the same term but for what is nil. -/
namespace Go.Proofs.YteenjodhmppgjaaGreatDoor.Am
open Go
/-! ### terms but for the marks of what is nil -/
def nfL (u : Lev) : Lev := ⟨u.c, u.vs, false⟩
def nf : Tm → Tm
  | .mk op n s u _ l _ => .mk op n ⟨s.toList.toArray⟩ (u.map nfL) false (nfs l) false
where nfs : List Tm → List Tm
  | [] => []
  | x :: r => nf x :: nfs r
theorem nfs_eq (l : List Tm) : nf.nfs l = l.map nf := by induction l <;> simp_all [nf.nfs]
theorem nf_eq (x : Tm) : nf x = .mk x.op x.n ⟨x.s.toList.toArray⟩ (x.u.map nfL) false (x.l.map nf) false := by cases x; simp [nf, nfs_eq, Tm.op, Tm.n, Tm.s, Tm.u, Tm.l]
theorem allR_map {α β : Type} (R : α → α → Bool) (g : α → β) : ∀ (l m : List α), (∀ x ∈ l, ∀ y, R x y = true ↔ g x = g y) → (allR R l m = true ↔ l.map g = m.map g)
  | [], [], _ => by simp [allR]
  | [], _ :: _, _ => by simp [allR]
  | _ :: _, [], _ => by simp [allR]
  | x :: l, y :: m, h => by
    have := allR_map R g l m fun a ha => h a (List.mem_cons_of_mem _ ha)
    simp [allR, h x List.mem_cons_self, this]
theorem eqLV_iff (x y : LV) : eqLV x y = true ↔ x = y := by
  cases x; cases y; simp [eqLV]
theorem eqLev_iff (x y : Lev) : eqLev x y = true ↔ nfL x = nfL y := by
  have := allR_map eqLV id x.vs y.vs fun a _ b => eqLV_iff a b
  simp only [eqLev, Bool.and_eq_true, this, nfL, Lev.mk.injEq, beq_iff_eq, List.map_id, and_true]
theorem eqTm_iff : ∀ (N : Nat) (x : Tm), x.sz ≤ N → ∀ y, eqTm x y = true ↔ nf x = nf y
  | 0, x, h, _ => by have := x.sz_pos; omega
  | N + 1, x, h, y => by
    have h1 := allR_map eqLev nfL x.u y.u fun a _ b => eqLev_iff a b
    have h2 := allR_map eqTm nf x.l y.l fun a ha b => eqTm_iff N a (by have := Tm.sz_lt ha; omega) b
    have e (a b : ByteArray) : (a.toList == b.toList) = true ↔ (ByteArray.mk a.toList.toArray) = ⟨b.toList.toArray⟩ := by simp
    rw [eqTm_eq, nf_eq x, nf_eq y]
    simp only [Bool.and_eq_true, h1, h2, e, beq_iff_eq, Tm.mk.injEq, true_and, and_true]
theorem eqTm_nf {x y : Tm} : eqTm x y = true ↔ nf x = nf y := eqTm_iff x.sz x (Nat.le_refl _) y
theorem nf_sz : ∀ (N : Nat) (x : Tm), x.sz ≤ N → (nf x).sz = x.sz
  | 0, x, h => by have := x.sz_pos; omega
  | N + 1, x, h => by
    rw [nf_eq, Tm.sz_eq, x.sz_eq]
    show 1 + ((x.u.map nfL).map Lev.sz).sum + ((x.l.map nf).map Tm.sz).sum = _
    have e1 : (x.u.map nfL).map Lev.sz = x.u.map Lev.sz := by rw [List.map_map]; exact List.map_congr_left fun u _ => rfl
    have e2 : (x.l.map nf).map Tm.sz = x.l.map Tm.sz := by rw [List.map_map]; exact List.map_congr_left fun y hy => nf_sz N y (by have := Tm.sz_lt hy; omega)
    rw [e1, e2]
theorem sz_nf {x y : Tm} (h : nf x = nf y) : x.sz = y.sz := by
  rw [← nf_sz x.sz x (Nat.le_refl _), ← nf_sz y.sz y (Nat.le_refl _), h]
theorem nf_mk {op n : Int} {s s' : ByteArray} {u u' : List Lev} {zu zu' : Bool} {l l' : List Tm} {zl zl' : Bool} (hs : s.toList = s'.toList) (hu : u.map nfL = u'.map nfL) (hl : l.map nf = l'.map nf) : nf (.mk op n s u zu l zl) = nf (.mk op n s' u' zu' l' zl') := by
  rw [nf_eq, nf_eq]
  simp only [Tm.op, Tm.n, Tm.s, Tm.u, Tm.l, hs, hu, hl]
theorem nf_parts {x y : Tm} (h : nf x = nf y) : x.op = y.op ∧ x.n = y.n ∧ x.s.toList = y.s.toList ∧ x.u.map nfL = y.u.map nfL ∧ x.l.map nf = y.l.map nf := by
  rw [nf_eq x, nf_eq y] at h
  simpa using h
theorem cp_nfL (u : List Lev) : (u.map cpLev).map nfL = u.map nfL := by rw [List.map_map]; exact List.map_congr_left fun _ _ => rfl
theorem map_zip {α β γ : Type} (f : α → Nat → γ) (g : β → Nat → γ) : ∀ (l : List α) (m : List β) (k : Nat), l.length = m.length → (∀ (i : Nat) a b, l[i]? = some a → m[i]? = some b → f a (k + i) = g b (k + i)) →
    (l.zipIdx k).map (fun p => f p.1 p.2) = (m.zipIdx k).map (fun p => g p.1 p.2)
  | [], [], _, _, _ => rfl
  | [], _ :: _, _, h, _ => by simp at h
  | _ :: _, [], _, h, _ => by simp at h
  | a :: l, b :: m, k, h, hp => by
    simp only [List.zipIdx_cons, List.map_cons]
    have h0 := hp 0 a b rfl rfl
    rw [Nat.add_zero] at h0
    rw [h0, map_zip f g l m (k + 1) (by simpa using h) fun i a' b' ha hb => by
      have := hp (i + 1) a' b' (by simpa using ha) (by simpa using hb)
      rw [Nat.add_assoc, Nat.add_comm 1 i]; exact this]
theorem binds_var {op : Int} (h : op = 1) (n : Nat) (i : Int) : binds op n i = 0 := by
  subst h; unfold binds; simp
theorem mapE_all {α β : Type} (f : α → β × Int) : ∀ l : List α, (∀ x ∈ l, (f x).2 = 0) → mapE f l = .inl (l.map fun x => (f x).1)
  | [], _ => rfl
  | x :: l, h => by
    rw [mapE, if_pos (h x List.mem_cons_self), mapE_all f l fun y hy => h y (List.mem_cons_of_mem _ hy)]; rfl
theorem get_nf {l m : List Tm} (h : l.map nf = m.map nf) {i : Nat} {a b : Tm} (ha : l[i]? = some a) (hb : m[i]? = some b) : nf a = nf b := by
  have h1 : (l.map nf)[i]? = some (nf a) := by simp [ha]
  have h2 : (m.map nf)[i]? = some (nf b) := by simp [hb]
  rw [h, h2] at h1; exact (Option.some.inj h1).symm
theorem mem_zip {α : Type} {l : List α} {p : α × Nat} (h : p ∈ l.zipIdx) : p.1 ∈ l := by
  obtain ⟨k, hk⟩ := List.mem_iff_getElem?.1 h
  exact List.mem_of_getElem? (zipIdx_get hk).1
theorem lift_nf (by_ : Int) (h0 : 0 ≤ by_) (h1 : by_ < 2 ^ 40) : ∀ (N : Nat) (x y : Tm) (d : Int), nf x = nf y → x.sz ≤ N → 0 ≤ d → d + 3 * N < 2 ^ 40 →
    (shR by_ 0 N y d).2 = 0 ∧ nf (mapP (shC by_) N x d) = nf (shR by_ 0 N y d).1
  | 0, x, _, d, _, h, _, _ => by have := x.sz_pos; omega
  | N + 1, x, y, d, he, hs, hd, hN => by
    obtain ⟨eop, en, es, eu, el⟩ := nf_parts he
    have hsy : y.sz ≤ N + 1 := by rw [← sz_nf he]; exact hs
    have len : x.l.length = y.l.length := by have := congrArg List.length el; simpa using this
    have hv : isVar x = isVar y := by unfold isVar; rw [eop, en]
    have dep (i : Nat) : 0 ≤ d + binds y.op y.l.length i ∧ d + binds y.op y.l.length i + 3 * N < 2 ^ 40 ∧ wr (d + binds y.op y.l.length i) = d + binds y.op y.l.length i := by
      have := binds_le y.op y.l.length i
      exact ⟨by omega, by omega, wr_id (by omega) (by omega)⟩
    have hn : ¬ (shV 0 y d = true ∧ wr (y.n + by_) < wr (0 + d)) := by
      rintro ⟨a, b⟩
      simp only [shV, isVar, Bool.and_eq_true, decide_eq_true_eq] at a
      have e : wr (0 + d) = d := by rw [Int.zero_add]; exact wr_id (by omega) (by omega)
      have e' : wr (y.n + by_) = y.n + by_ := wr_id (by omega) (by omega)
      rw [e] at a b; rw [e'] at b; omega
    have hall : ∀ p ∈ y.l.zipIdx, (shR by_ 0 N p.1 (wr (d + binds y.op y.l.length p.2))).2 = 0 := fun p hp => by
      obtain ⟨d1, d2, d3⟩ := dep p.2
      rw [d3]
      exact (lift_nf by_ h0 h1 N p.1 p.1 _ rfl (by have := Tm.sz_lt (mem_zip hp); omega) d1 d2).1
    have hR : shR by_ 0 (N + 1) y d = (.mk y.op (shN by_ 0 y d) y.s (y.u.map cpLev) true (y.l.zipIdx.map fun p => (shR by_ 0 N p.1 (wr (d + binds y.op y.l.length p.2))).1) true, 0) := by
      rw [shR, if_neg hn, mapE_all _ _ hall]
    rw [hR]
    refine ⟨rfl, ?_⟩
    have hch : (x.l.zipIdx.map fun p => mapP (shC by_) N p.1 (wr (d + binds x.op x.l.length p.2))).map nf = (y.l.zipIdx.map fun p => (shR by_ 0 N p.1 (wr (d + binds y.op y.l.length p.2))).1).map nf := by
      rw [List.map_map, List.map_map, len, eop]
      refine map_zip (fun a i => nf (mapP (shC by_) N a (wr (d + binds y.op y.l.length i)))) (fun a i => nf (shR by_ 0 N a (wr (d + binds y.op y.l.length i))).1) x.l y.l 0 len fun i a b ha hb => ?_
      obtain ⟨d1, d2, d3⟩ := dep (0 + i)
      rw [d3]
      exact (lift_nf by_ h0 h1 N a b _ (get_nf el ha hb) (by have := Tm.sz_lt (List.mem_of_getElem? ha); omega) d1 d2).2
    rw [mapP]
    have hw : wr (0 + d) = d := by rw [Int.zero_add]; exact wr_id (by omega) (by omega)
    have fin (m : Int) (hm : m = shN by_ 0 y d) : nf (.mk x.op m x.s x.u true (x.l.zipIdx.map fun p => mapP (shC by_) N p.1 (wr (d + binds x.op x.l.length p.2))) true) = nf (.mk y.op (shN by_ 0 y d) y.s (y.u.map cpLev) true (y.l.zipIdx.map fun p => (shR by_ 0 N p.1 (wr (d + binds y.op y.l.length p.2))).1) true) := by
      rw [hm, eop]
      rw [eop] at hch
      exact nf_mk es (by rw [cp_nfL]; exact eu) hch
    cases c : isVar x with
    | true =>
      rw [if_pos rfl]
      by_cases g : d ≤ x.n
      · have : shN by_ 0 y d = wr (x.n + by_) := by
          unfold shN shV; rw [← hv, c, hw, ← en]; simp [g]
        have e : shC by_ (mkT x (x.l.zipIdx.map fun p => mapP (shC by_) N p.1 (wr (d + binds x.op x.l.length p.2)))) d = .mk x.op (wr (x.n + by_)) x.s x.u true (x.l.zipIdx.map fun p => mapP (shC by_) N p.1 (wr (d + binds x.op x.l.length p.2))) true := by
          unfold shC mkT
          exact if_pos (by show 0 ≤ x.n - d; omega)
        rw [e]; exact fin _ this.symm
      · have : shN by_ 0 y d = x.n := by
          unfold shN shV; rw [← hv, c, hw, ← en]; simp [g]
        have e : shC by_ (mkT x (x.l.zipIdx.map fun p => mapP (shC by_) N p.1 (wr (d + binds x.op x.l.length p.2)))) d = mkT x (x.l.zipIdx.map fun p => mapP (shC by_) N p.1 (wr (d + binds x.op x.l.length p.2))) := by
          unfold shC
          exact if_neg (by show ¬ 0 ≤ x.n - d; omega)
        rw [e]; exact fin _ this.symm
    | false =>
      have : shN by_ 0 y d = x.n := by
        unfold shN shV; rw [← hv, c, ← en]; simp
      rw [if_neg (by simp)]; exact fin _ this.symm
theorem up_nf (A : Tm) (hA : A.sz < 2 ^ 29) (d : Int) (h0 : 0 ≤ d) (h1 : d < 2 ^ 32) : nf (upP A d) = nf (upR A d) :=
  (lift_nf d h0 (by omega) A.sz A A 0 rfl (Nat.le_refl _) (by omega) (by omega)).2
theorem fill_nf (A : Tm) (U : Int → Tm) (hU : ∀ d, 0 ≤ d → d < 2 ^ 32 → nf (U d) = nf (upR A d)) : ∀ (N : Nat) (x y : Tm) (d : Int), nf x = nf y → x.sz ≤ N → 0 ≤ d → d + 3 * N < 2 ^ 31 →
    nf (mapP (flC U) N x d) = nf (flR A N y d)
  | 0, x, _, d, _, h, _, _ => by have := x.sz_pos; omega
  | N + 1, x, y, d, he, hs, hd, hN => by
    obtain ⟨eop, en, es, eu, el⟩ := nf_parts he
    have len : x.l.length = y.l.length := by have := congrArg List.length el; simpa using this
    have hv : isVar x = isVar y := by unfold isVar; rw [eop, en]
    have dep (i : Nat) : 0 ≤ d + binds y.op y.l.length i ∧ d + binds y.op y.l.length i + 3 * N < 2 ^ 31 ∧ wr (d + binds y.op y.l.length i) = d + binds y.op y.l.length i := by
      have := binds_le y.op y.l.length i
      exact ⟨by omega, by omega, wr_id (by omega) (by omega)⟩
    have hch : (x.l.zipIdx.map fun p => mapP (flC U) N p.1 (wr (d + binds x.op x.l.length p.2))).map nf = (y.l.zipIdx.map fun p => flR A N p.1 (wr (d + binds y.op y.l.length p.2))).map nf := by
      rw [List.map_map, List.map_map, len, eop]
      refine map_zip (fun a i => nf (mapP (flC U) N a (wr (d + binds y.op y.l.length i)))) (fun a i => nf (flR A N a (wr (d + binds y.op y.l.length i)))) x.l y.l 0 len fun i a b ha hb => ?_
      obtain ⟨d1, d2, d3⟩ := dep (0 + i)
      rw [d3]
      exact fill_nf A U hU N a b _ (get_nf el ha hb) (by have := Tm.sz_lt (List.mem_of_getElem? ha); omega) d1 d2
    rw [mapP, flR]
    generalize hcx : (x.l.zipIdx.map fun p => mapP (flC U) N p.1 (wr (d + binds x.op x.l.length p.2))) = cx at hch ⊢
    have plain : nf (mkT x cx) = nf (.mk y.op y.n y.s (y.u.map cpLev) true (y.l.zipIdx.map fun p => flR A N p.1 (wr (d + binds y.op y.l.length p.2))) true) := by
      unfold mkT
      rw [eop, en]
      exact nf_mk es (by rw [cp_nfL]; exact eu) hch
    cases c : isVar x with
    | false =>
      rw [if_neg (by simp), if_neg (by rw [← hv, c]; simp)]
      exact plain
    | true =>
      rw [if_pos rfl]
      have o1 : y.op = 1 := by
        rw [hv] at c; simp only [isVar, Bool.and_eq_true, decide_eq_true_eq] at c; exact c.1
      unfold flC
      have m1 : (mkT x cx).n = x.n := rfl
      rw [m1]
      by_cases g : x.n - d < 0
      · rw [if_pos g, if_neg (show ¬ (isVar y && decide (d ≤ y.n)) = true by rw [← hv, c, ← en]; simp; omega)]
        exact plain
      · rw [if_neg g, if_pos (show (isVar y && decide (d ≤ y.n)) = true by rw [← hv, c, ← en]; simp; omega)]
        by_cases g1 : x.n - d < 1
        · rw [if_pos g1, if_pos (show y.n - d < 1 by rw [← en]; exact g1)]
          exact hU d hd (by omega)
        · rw [if_neg g1, if_neg (show ¬ y.n - d < 1 by rw [← en]; exact g1)]
          have hz : (y.l.zipIdx.map fun p => flR A N p.1 (wr (d + binds y.op y.l.length p.2))) = y.l.map fun a => flR A N a d := by
            have e : ∀ i : Int, wr (d + binds y.op y.l.length i) = d := fun i => by rw [binds_var o1, Int.add_zero]; exact wr_id (by omega) (by omega)
            simp only [e]
            have := List.zipIdx_map_fst 0 y.l
            conv => rhs; rw [← this]
            rw [List.map_map]; rfl
          rw [hz] at hch
          unfold mkT
          show nf (.mk x.op (wr (x.n - 1)) x.s x.u true cx true) = _
          rw [eop, en]
          exact nf_mk es (by rw [cp_nfL]; exact eu) hch
theorem fill_same (A x y : Tm) (hA : A.sz < 2 ^ 29) (hx : x.sz < 2 ^ 29) (h : eqTm x y = true) : eqTm (flP A x) (flR A y.sz y 0) = true := by
  have h' := eqTm_nf.1 h
  rw [eqTm_nf, ← sz_nf h']
  exact fill_nf A (upP A) (fun d h0 h1 => up_nf A hA d h0 h1) x.sz x y 0 h' (Nat.le_refl _) (by omega) (by omega)
/-! ### sizes -/
theorem sum_map_le {α : Type} (f g : α → Nat) (K : Nat) : ∀ l : List α, (∀ x ∈ l, f x ≤ K * g x) → (l.map f).sum ≤ K * (l.map g).sum
  | [], _ => by simp
  | x :: l, h => by
    have := sum_map_le f g K l fun y hy => h y (List.mem_cons_of_mem _ hy)
    have := h x List.mem_cons_self
    simp only [List.map_cons, List.sum_cons, Nat.mul_add]; omega
theorem mkT_sz {K N : Nat} (g : Tm → Int → Tm) (x : Tm) (D : Nat → Int) (hK : 1 ≤ K) (h : ∀ y ∈ x.l, ∀ i, (mapP g N y (D i)).sz ≤ K * y.sz) : (mkT x (x.l.zipIdx.map fun p => mapP g N p.1 (D p.2))).sz ≤ K * x.sz := by
  have e : (mkT x (x.l.zipIdx.map fun p => mapP g N p.1 (D p.2))).sz = 1 + (x.u.map Lev.sz).sum + ((x.l.zipIdx.map fun p => mapP g N p.1 (D p.2)).map Tm.sz).sum := Tm.sz_eq _
  rw [e, x.sz_eq, List.map_map]
  have h1 := sum_map_le (fun p : Tm × Nat => (mapP g N p.1 (D p.2)).sz) (fun p => p.1.sz) K x.l.zipIdx fun p hp => h p.1 (mem_zip hp) p.2
  have h2 : x.l.zipIdx.map (fun p => p.1.sz) = x.l.map Tm.sz := by
    have := List.zipIdx_map_fst 0 x.l
    conv => rhs; rw [← this]
    rw [List.map_map]; rfl
  rw [h2] at h1
  have h3 : 1 + (x.u.map Lev.sz).sum ≤ K * (1 + (x.u.map Lev.sz).sum) := Nat.le_mul_of_pos_left _ hK
  have h4 : ((x.l.zipIdx.map (Tm.sz ∘ fun p => mapP g N p.1 (D p.2)))).sum = (x.l.zipIdx.map (fun p : Tm × Nat => (mapP g N p.1 (D p.2)).sz)).sum := rfl
  rw [h4, Nat.mul_add K]
  omega
theorem zTm_sz' : zTm.sz = 1 := by rw [Tm.sz_eq]; rfl
theorem map_sz (g : Tm → Int → Tm) (K : Nat) (hK : 1 ≤ K) (hg : ∀ x d, (g x d).sz ≤ max x.sz K) : ∀ (N : Nat) (x : Tm) (d : Int), (mapP g N x d).sz ≤ K * x.sz
  | 0, x, d => by
    have := x.sz_pos
    have : 1 * 1 ≤ K * x.sz := Nat.mul_le_mul hK this
    rw [mapP, zTm_sz']; omega
  | N + 1, x, d => by
    have h := mkT_sz (N := N) g x (fun i => wr (d + binds x.op x.l.length i)) hK fun y _ i => map_sz g K hK hg N y _
    have hx : K * 1 ≤ K * x.sz := Nat.mul_le_mul_left _ x.sz_pos
    rw [mapP]
    split
    · have := hg (mkT x (x.l.zipIdx.map fun p => mapP g N p.1 (wr (d + binds x.op x.l.length p.2)))) d
      omega
    · exact h
theorem re_sz (x : Tm) (n : Int) : (Tm.mk x.op n x.s x.u x.zu x.l x.zl).sz = x.sz := by rw [Tm.sz_eq, x.sz_eq]; rfl
theorem upP_sz (A : Tm) (d : Int) : (upP A d).sz ≤ A.sz := by
  have := map_sz (shC d) 1 (Nat.le_refl _) (fun x e => by
    unfold shC
    split
    · rw [re_sz]; omega
    · omega) A.sz A 0
  unfold upP; omega
theorem flP_sz (A x : Tm) : (flP A x).sz ≤ A.sz * x.sz := by
  unfold flP
  refine map_sz _ _ A.sz_pos (fun y d => ?_) _ _ _
  unfold flC
  split
  · omega
  · split
    · have := upP_sz A d; omega
    · rw [re_sz]; omega
end Go.Proofs.YteenjodhmppgjaaGreatDoor.Am
end
