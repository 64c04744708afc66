/- Part 5 of the proof of the card of TableRecursive, second form: no statement of its own; no conditions. -/
import Derived.Test.YteenjodhmppgjaaGreatDoorPa4
set_option linter.unusedSimpArgs false
set_option linter.unusedVariables false
set_option linter.defProp false
set_option linter.unusedSectionVars false
section
/- The names in a term, by the reference. -/
namespace Go.Proofs.YteenjodhmppgjaaGreatDoor.Am
open Go
variable (ext : Ext)
set_option maxHeartbeats 8000000
set_option maxRecDepth 4000
noncomputable def B119 : Code := (Tryz.f119.body.getD .skip)
noncomputable def L119a : Code := sub B119 [1, 0, 1, 0, 0]
noncomputable def K119a : List It := [.inBlock 0, .code (sub B119 [1, 1])]
noncomputable def H119a (ext : Ext) (m : Nat) (env : Env) (loc : List O) : Option Out := run Tryz.prog ext (.k ⟨85, m, [.tmp 8, .tmp 9, .tmp 10], true⟩ (.code L119a :: .inLoop L119a :: K119a) env loc)
noncomputable def L119b : Code := sub B119 [1, 0, 1, 0, 0, 1, 0, 0, 1, 1, 0, 0]
noncomputable def K119b : List It := [.inBlock 2, .inBlock 1, .code (sub B119 [1, 0, 1, 0, 0, 1, 1]), .inLoop L119a, .inBlock 0, .code (sub B119 [1, 1])]
noncomputable def H119b (ext : Ext) (m : Nat) (env : Env) (loc : List O) : Option Out := run Tryz.prog ext (.k ⟨85, m, [.tmp 8, .tmp 9, .tmp 10], true⟩ (.code L119b :: .inLoop L119b :: K119b) env loc)
noncomputable def L119c : Code := sub B119 [1, 1, 1, 1, 0, 1, 0, 0]
noncomputable def K119c : List It := [.inBlock 4, .code (sub B119 [1, 1, 1, 1, 1])]
noncomputable def H119c (ext : Ext) (m : Nat) (env : Env) (loc : List O) : Option Out := run Tryz.prog ext (.k ⟨85, m, [.tmp 8, .tmp 9, .tmp 10], true⟩ (.code L119c :: .inLoop L119c :: K119c) env loc)
theorem many177 (hx : ext 177 = none) (x : Tm) : run Tryz.prog ext (.call 177 [iV x.op] []) = some (.ret [bV (isNmd x)] []) := by
  unfold isNmd
  cases h2 : (x.op == 2) with
  | true =>
    (rw [run_eq]; simp only [stepA, hx, Tryz.func177, Tryz.f177, show retF 177 = false from rfl]; simp only [List.length_cons, List.length_nil, Nat.reduceAdd, Nat.reduceLeDiff, Nat.zero_le, ↓reduceIte, List.zipIdx_cons, List.zipIdx_nil, List.map_cons, List.map_nil])
    simp only [iV, bV]
    simp only [zS, nilEq, wantedA, opA, eff, boxA, cells, ev, gt, pt, putO, updO, setO, okC, loadA, cutC, fieldAddrA, fieldA, indexAddrA, indexA, builtinA, callOpA, callV, target, ptrV, lenS, binA, intOp, strOp, unA, num, lk, over, allocA, pickA, buildA, fillA, convertA, extractA, ofComp, nilCheckA, makeFuncA, ptrs, ofValue, cellB, Nat.reduceAdd, Nat.reduceSub, Nat.reduceMul, Nat.reduceLT, Nat.reduceLeDiff, Nat.reduceGT, ↓reduceIte, Nat.reduceEqDiff, Nat.reduceBEq, reduceCtorEq, Int.reduceBEq, Int.reduceBNe, Int.reduceLT, Int.reduceLE, Int.reduceGT, Int.reduceGE, aggT_3, sizeT_3, bytesT_3, und_3, zero1_3, zeroT_3, h2]
    (refine Eq.trans ?_ rfl; kernel_rfl)
  | false =>
  cases h26 : (x.op == 26) with
  | true =>
    (rw [run_eq]; simp only [stepA, hx, Tryz.func177, Tryz.f177, show retF 177 = false from rfl]; simp only [List.length_cons, List.length_nil, Nat.reduceAdd, Nat.reduceLeDiff, Nat.zero_le, ↓reduceIte, List.zipIdx_cons, List.zipIdx_nil, List.map_cons, List.map_nil])
    simp only [iV, bV]
    simp only [zS, nilEq, wantedA, opA, eff, boxA, cells, ev, gt, pt, putO, updO, setO, okC, loadA, cutC, fieldAddrA, fieldA, indexAddrA, indexA, builtinA, callOpA, callV, target, ptrV, lenS, binA, intOp, strOp, unA, num, lk, over, allocA, pickA, buildA, fillA, convertA, extractA, ofComp, nilCheckA, makeFuncA, ptrs, ofValue, cellB, Nat.reduceAdd, Nat.reduceSub, Nat.reduceMul, Nat.reduceLT, Nat.reduceLeDiff, Nat.reduceGT, ↓reduceIte, Nat.reduceEqDiff, Nat.reduceBEq, reduceCtorEq, Int.reduceBEq, Int.reduceBNe, Int.reduceLT, Int.reduceLE, Int.reduceGT, Int.reduceGE, aggT_3, sizeT_3, bytesT_3, und_3, zero1_3, zeroT_3, h2, h26]
    (refine Eq.trans ?_ rfl; kernel_rfl)
  | false =>
  cases h27 : (x.op == 27) with
  | true =>
    (rw [run_eq]; simp only [stepA, hx, Tryz.func177, Tryz.f177, show retF 177 = false from rfl]; simp only [List.length_cons, List.length_nil, Nat.reduceAdd, Nat.reduceLeDiff, Nat.zero_le, ↓reduceIte, List.zipIdx_cons, List.zipIdx_nil, List.map_cons, List.map_nil])
    simp only [iV, bV]
    simp only [zS, nilEq, wantedA, opA, eff, boxA, cells, ev, gt, pt, putO, updO, setO, okC, loadA, cutC, fieldAddrA, fieldA, indexAddrA, indexA, builtinA, callOpA, callV, target, ptrV, lenS, binA, intOp, strOp, unA, num, lk, over, allocA, pickA, buildA, fillA, convertA, extractA, ofComp, nilCheckA, makeFuncA, ptrs, ofValue, cellB, Nat.reduceAdd, Nat.reduceSub, Nat.reduceMul, Nat.reduceLT, Nat.reduceLeDiff, Nat.reduceGT, ↓reduceIte, Nat.reduceEqDiff, Nat.reduceBEq, reduceCtorEq, Int.reduceBEq, Int.reduceBNe, Int.reduceLT, Int.reduceLE, Int.reduceGT, Int.reduceGE, aggT_3, sizeT_3, bytesT_3, und_3, zero1_3, zeroT_3, h2, h26, h27]
    (refine Eq.trans ?_ rfl; kernel_rfl)
  | false =>
    cases h28 : (x.op == 28)
    all_goals
      (rw [run_eq]; simp only [stepA, hx, Tryz.func177, Tryz.f177, show retF 177 = false from rfl]; simp only [List.length_cons, List.length_nil, Nat.reduceAdd, Nat.reduceLeDiff, Nat.zero_le, ↓reduceIte, List.zipIdx_cons, List.zipIdx_nil, List.map_cons, List.map_nil])
      simp only [iV, bV]
      simp only [zS, nilEq, wantedA, opA, eff, boxA, cells, ev, gt, pt, putO, updO, setO, okC, loadA, cutC, fieldAddrA, fieldA, indexAddrA, indexA, builtinA, callOpA, callV, target, ptrV, lenS, binA, intOp, strOp, unA, num, lk, over, allocA, pickA, buildA, fillA, convertA, extractA, ofComp, nilCheckA, makeFuncA, ptrs, ofValue, cellB, Nat.reduceAdd, Nat.reduceSub, Nat.reduceMul, Nat.reduceLT, Nat.reduceLeDiff, Nat.reduceGT, ↓reduceIte, Nat.reduceEqDiff, Nat.reduceBEq, reduceCtorEq, Int.reduceBEq, Int.reduceBNe, Int.reduceLT, Int.reduceLE, Int.reduceGT, Int.reduceGE, aggT_3, sizeT_3, bytesT_3, und_3, zero1_3, zeroT_3, h2, h26, h27, h28]
      (refine Eq.trans ?_ rfl; kernel_rfl)
theorem hasN_ix (l : List ByteArray) (s : ByteArray) : (ixOf (l.findIdx? fun a => a.toList == s.toList) < 0) = (hasN l s = false) := by
  have e : hasN l s = l.any fun a => a.toList == s.toList := by
    unfold hasN; congr 1; funext a
    rw [Bool.eq_iff_iff, beq_iff_eq, beq_iff_eq]; exact ⟨Eq.symm, Eq.symm⟩
  rw [e, any_ix, decide_eq_false_iff_not, Int.not_le]
def bx (l : List ByteArray) : Nat := match l with | [] => 0 | _ :: _ => 1
def nO (x : Tm) (l : List ByteArray) : List O := mkO 1 (l.map stD) ++ [.box (tmC x)]
def nV (l : List ByteArray) : V := mkV 0 (l.map stD)
theorem nV_nil : nV [] = .c (.d (.v (.slice none 0 0))) := rfl
theorem nV_cons (a : ByteArray) (r : List ByteArray) : nV (a :: r) = .c (.own 0) := rfl
theorem nO_nil (x : Tm) : nO x [] = [.box (tmC x)] := rfl
theorem nO_cons (x : Tm) (a : ByteArray) (r : List ByteArray) : nO x (a :: r) = [.arr 1 (stD a :: r.map stD), .box (tmC x)] := rfl
theorem bx_nil : bx [] = 0 := rfl
theorem bx_cons (a : ByteArray) (r : List ByteArray) : bx (a :: r) = 1 := rfl
def nArg (l : List ByteArray) : List O := mkO 1 (l.map stD)
theorem nArg_nil : nArg [] = [] := rfl
theorem nArg_cons (a : ByteArray) (r : List ByteArray) : nArg (a :: r) = [.arr 1 (stD a :: r.map stD)] := rfl
def E119a (L : D) (l : List ByteArray) (H : D) (k : Int) : Env := [(1, dV L), (2, nV l), (3, dV H), (4, .c (.ptr (bx l) 0)), (11, iV k)]
def E119b (L : D) (l : List ByteArray) (H : D) (k : Int) (W : D) (j : Int) : Env := [(1, dV L), (2, nV l), (3, dV H), (4, .c (.ptr (bx l) 0)), (11, iV k), (12, dV W), (13, iV j)]
def E119c (L : D) (l : List ByteArray) (H : D) (k : Int) : Env := [(1, dV L), (2, nV l), (3, dV H), (4, .c (.ptr (bx l) 0)), (14, iV k)]
def E119g (L : D) (H : D) (k : Int) : Env := [(1, dV L), (2, .c (.own 1)), (3, dV H), (4, .c (.ptr 2 0)), (14, iV k)]
def O119g (x : Tm) (l : List ByteArray) : List O := [.gone, .arr 1 (l.map stD), .box (tmC x)]
theorem en119n (hx : ext 119 = none) (x : Tm) (L H : D)  (out : Option Out) (h : H119a ext 0 (E119a L [] H 0) (nO x []) = out) : run Tryz.prog ext (.call 119 [tmV x, dV L, nV [], dV H] (nArg [])) = out := by
  unfold H119a at h
  (rw [run_eq]; simp only [stepA, hx, Tryz.func119, Tryz.f119, show retF 119 = true from rfl]; simp only [List.length_cons, List.length_nil, Nat.reduceAdd, Nat.reduceLeDiff, Nat.zero_le, ↓reduceIte, List.zipIdx_cons, List.zipIdx_nil, List.map_cons, List.map_nil])
  simp only [tmV, tmC, dV, iV, E119a, nV_nil, nV_cons, nO_nil, nO_cons, bx_nil, bx_cons, nArg_nil, nArg_cons] at h ⊢
  simp only [zS, nilEq, wantedA, opA, eff, boxA, cells, ev, gt, pt, putO, updO, setO, okC, loadA, cutC, fieldAddrA, fieldA, indexAddrA, indexA, builtinA, callOpA, callV, target, ptrV, lenS, binA, intOp, strOp, unA, num, lk, over, allocA, pickA, buildA, fillA, convertA, extractA, ofComp, nilCheckA, makeFuncA, ptrs, ofValue, cellB, Nat.reduceAdd, Nat.reduceSub, Nat.reduceMul, Nat.reduceLT, Nat.reduceLeDiff, Nat.reduceGT, ↓reduceIte, Nat.reduceEqDiff, Nat.reduceBEq, reduceCtorEq, Int.reduceBEq, Int.reduceBNe, Int.reduceLT, Int.reduceLE, Int.reduceGT, Int.reduceGE, aggT_33, sizeT_33, bytesT_33, fieldT_33_0, fieldT_33_1, fieldT_33_2, fieldT_33_3, fieldT_33_4, placesT_33, zeroT_33, aggT_30, sizeT_30, bytesT_30, und_30, elemT_30, isSliceT_30, zero1_30, zeroT_30, aggT_43, sizeT_43, bytesT_43, und_43, elemT_43, isSliceT_43, zero1_43, zeroT_43, aggT_52, sizeT_52, bytesT_52, und_52, elemT_52, isSliceT_52, zero1_52, zeroT_52, aggT_3, sizeT_3, bytesT_3, und_3, zero1_3, zeroT_3]
  (refine (r_inLoop_some ?_).trans h; kernel_rfl)
theorem sa119n (x : Tm) (u : Lev) (L H W : D)  (k : Nat) (hk : x.u[k]? = some u) (hl : (k : Int) < x.u.length) (hr : run Tryz.prog ext (.call 187 [levV u] []) = some (.ret [dV W] [])) (out : Option Out)
    (h : H119b ext 0 (E119b L [] H k W 0) (nO x []) = out) : H119a ext 0 (E119a L [] H k) (nO x []) = out := by
  have h0 : (0 : Int) ≤ k := by omega
  unfold H119b at h
  unfold H119a
  simp only [tmC, levV, levC, dV, iV, E119a, E119b, uD_lt hl, nV_nil, nV_cons, nO_nil, nO_cons, bx_nil, bx_cons, nArg_nil, nArg_cons] at h hr ⊢
  (rw [show (It.code L119a) = It.code (sub B119 [1, 0, 1, 0, 0]) from rfl]; simp only [B119, K119a, sub, Option.getD_some, Tryz.f119, ↓reduceIte, Nat.one_ne_zero])
  simp only [zS, nilEq, wantedA, opA, eff, boxA, cells, ev, gt, pt, putO, updO, setO, okC, loadA, cutC, fieldAddrA, fieldA, indexAddrA, indexA, builtinA, callOpA, callV, target, ptrV, lenS, binA, intOp, strOp, unA, num, lk, over, allocA, pickA, buildA, fillA, convertA, extractA, ofComp, nilCheckA, makeFuncA, ptrs, ofValue, cellB, Nat.reduceAdd, Nat.reduceSub, Nat.reduceMul, Nat.reduceLT, Nat.reduceLeDiff, Nat.reduceGT, ↓reduceIte, Nat.reduceEqDiff, Nat.reduceBEq, reduceCtorEq, Int.reduceBEq, Int.reduceBNe, Int.reduceLT, Int.reduceLE, Int.reduceGT, Int.reduceGE, aggT_33, sizeT_33, bytesT_33, fieldT_33_0, fieldT_33_1, fieldT_33_2, fieldT_33_3, fieldT_33_4, placesT_33, zeroT_33, aggT_30, sizeT_30, bytesT_30, und_30, elemT_30, isSliceT_30, zero1_30, zeroT_30, aggT_36, sizeT_36, bytesT_36, fieldT_36_0, fieldT_36_1, placesT_36, zeroT_36, aggT_43, sizeT_43, bytesT_43, und_43, elemT_43, isSliceT_43, zero1_43, zeroT_43, aggT_52, sizeT_52, bytesT_52, und_52, elemT_52, isSliceT_52, zero1_52, zeroT_52, aggT_9, sizeT_9, bytesT_9, und_9, zero1_9, zeroT_9, aggT_3, sizeT_3, bytesT_3, und_3, zero1_3, zeroT_3, h0, hl, Int.toNat_natCast, hk, levD_eq u, hr]
  (refine (r_inLoop_some ?_).trans h; kernel_rfl)
theorem sb119n (x : Tm) (L L' H : D) (z : Bool) (w : List Int) (n : Int)  (k : Int) (j : Nat) (hk : w[j]? = some n) (hl : (j : Int) < w.length) (hr : run Tryz.prog ext (.call 188 [dV L, iV n] []) = some (.ret [dV L'] [])) (out : Option Out)
    (h : H119b ext 0 (E119b L' [] H k (listD z 1 (w.map inD)) (wr ((j : Int) + 1))) (nO x []) = out) : H119b ext 0 (E119b L [] H k (listD z 1 (w.map inD)) j) (nO x []) = out := by
  have h0 : (0 : Int) ≤ j := by omega
  have hd : listD z 1 (w.map inD) = .s 1 (w.map inD) := listD_of_lt h0 (by simpa using hl)
  unfold H119b at h ⊢
  simp only [tmC, dV, iV, E119b, hd, nV_nil, nV_cons, nO_nil, nO_cons, bx_nil, bx_cons, nArg_nil, nArg_cons] at h hr ⊢
  (rw [show (It.code L119b) = It.code (sub B119 [1, 0, 1, 0, 0, 1, 0, 0, 1, 1, 0, 0]) from rfl]; simp only [B119, K119b, sub, Option.getD_some, Tryz.f119, ↓reduceIte, Nat.one_ne_zero])
  simp only [zS, nilEq, wantedA, opA, eff, boxA, cells, ev, gt, pt, putO, updO, setO, okC, loadA, cutC, fieldAddrA, fieldA, indexAddrA, indexA, builtinA, callOpA, callV, target, ptrV, lenS, binA, intOp, strOp, unA, num, lk, over, allocA, pickA, buildA, fillA, convertA, extractA, ofComp, nilCheckA, makeFuncA, ptrs, ofValue, cellB, Nat.reduceAdd, Nat.reduceSub, Nat.reduceMul, Nat.reduceLT, Nat.reduceLeDiff, Nat.reduceGT, ↓reduceIte, Nat.reduceEqDiff, Nat.reduceBEq, reduceCtorEq, Int.reduceBEq, Int.reduceBNe, Int.reduceLT, Int.reduceLE, Int.reduceGT, Int.reduceGE, aggT_33, sizeT_33, bytesT_33, fieldT_33_0, fieldT_33_1, fieldT_33_2, fieldT_33_3, fieldT_33_4, placesT_33, zeroT_33, aggT_43, sizeT_43, bytesT_43, und_43, elemT_43, isSliceT_43, zero1_43, zeroT_43, aggT_52, sizeT_52, bytesT_52, und_52, elemT_52, isSliceT_52, zero1_52, zeroT_52, aggT_9, sizeT_9, bytesT_9, und_9, zero1_9, zeroT_9, aggT_3, sizeT_3, bytesT_3, und_3, zero1_3, zeroT_3, h0, hl, Int.toNat_natCast, hk, inD, hr]
  (refine (r_inLoop_some ?_).trans h; kernel_rfl)
theorem db119n (x : Tm) (L H : D) (z : Bool) (w : List Int)  (k : Int) (out : Option Out)
    (h : H119a ext 0 (E119a L [] H (wr (k + 1))) (nO x []) = out) : H119b ext 0 (E119b L [] H k (listD z 1 (w.map inD)) w.length) (nO x []) = out := by
  unfold H119a at h
  unfold H119b
  simp only [tmC, dV, iV, E119a, E119b, nV_nil, nV_cons, nO_nil, nO_cons, bx_nil, bx_cons, nArg_nil, nArg_cons] at h ⊢
  (rw [show (It.code L119b) = It.code (sub B119 [1, 0, 1, 0, 0, 1, 0, 0, 1, 1, 0, 0]) from rfl]; simp only [B119, K119b, sub, Option.getD_some, Tryz.f119, ↓reduceIte, Nat.one_ne_zero])
  simp only [zS, nilEq, wantedA, opA, eff, boxA, cells, ev, gt, pt, putO, updO, setO, okC, loadA, cutC, fieldAddrA, fieldA, indexAddrA, indexA, builtinA, callOpA, callV, target, ptrV, lenS, binA, intOp, strOp, unA, num, lk, over, allocA, pickA, buildA, fillA, convertA, extractA, ofComp, nilCheckA, makeFuncA, ptrs, ofValue, cellB, Nat.reduceAdd, Nat.reduceSub, Nat.reduceMul, Nat.reduceLT, Nat.reduceLeDiff, Nat.reduceGT, ↓reduceIte, Nat.reduceEqDiff, Nat.reduceBEq, reduceCtorEq, Int.reduceBEq, Int.reduceBNe, Int.reduceLT, Int.reduceLE, Int.reduceGT, Int.reduceGE, aggT_33, sizeT_33, bytesT_33, fieldT_33_0, fieldT_33_1, fieldT_33_2, fieldT_33_3, fieldT_33_4, placesT_33, zeroT_33, aggT_43, sizeT_43, bytesT_43, und_43, elemT_43, isSliceT_43, zero1_43, zeroT_43, aggT_52, sizeT_52, bytesT_52, und_52, elemT_52, isSliceT_52, zero1_52, zeroT_52, aggT_9, sizeT_9, bytesT_9, und_9, zero1_9, zeroT_9, aggT_3, sizeT_3, bytesT_3, und_3, zero1_3, zeroT_3, Int.lt_irrefl]
  (refine (r_inLoop_some ?_).trans h; kernel_rfl)
theorem en119c (hx : ext 119 = none) (x : Tm) (L H : D) (a : ByteArray) (r : List ByteArray) (out : Option Out) (h : H119a ext 1 (E119a L (a :: r) H 0) (nO x (a :: r)) = out) : run Tryz.prog ext (.call 119 [tmV x, dV L, nV (a :: r), dV H] (nArg (a :: r))) = out := by
  unfold H119a at h
  (rw [run_eq]; simp only [stepA, hx, Tryz.func119, Tryz.f119, show retF 119 = true from rfl]; simp only [List.length_cons, List.length_nil, Nat.reduceAdd, Nat.reduceLeDiff, Nat.zero_le, ↓reduceIte, List.zipIdx_cons, List.zipIdx_nil, List.map_cons, List.map_nil])
  simp only [tmV, tmC, dV, iV, E119a, nV_nil, nV_cons, nO_nil, nO_cons, bx_nil, bx_cons, nArg_nil, nArg_cons] at h ⊢
  simp only [zS, nilEq, wantedA, opA, eff, boxA, cells, ev, gt, pt, putO, updO, setO, okC, loadA, cutC, fieldAddrA, fieldA, indexAddrA, indexA, builtinA, callOpA, callV, target, ptrV, lenS, binA, intOp, strOp, unA, num, lk, over, allocA, pickA, buildA, fillA, convertA, extractA, ofComp, nilCheckA, makeFuncA, ptrs, ofValue, cellB, Nat.reduceAdd, Nat.reduceSub, Nat.reduceMul, Nat.reduceLT, Nat.reduceLeDiff, Nat.reduceGT, ↓reduceIte, Nat.reduceEqDiff, Nat.reduceBEq, reduceCtorEq, Int.reduceBEq, Int.reduceBNe, Int.reduceLT, Int.reduceLE, Int.reduceGT, Int.reduceGE, aggT_33, sizeT_33, bytesT_33, fieldT_33_0, fieldT_33_1, fieldT_33_2, fieldT_33_3, fieldT_33_4, placesT_33, zeroT_33, aggT_30, sizeT_30, bytesT_30, und_30, elemT_30, isSliceT_30, zero1_30, zeroT_30, aggT_43, sizeT_43, bytesT_43, und_43, elemT_43, isSliceT_43, zero1_43, zeroT_43, aggT_52, sizeT_52, bytesT_52, und_52, elemT_52, isSliceT_52, zero1_52, zeroT_52, aggT_3, sizeT_3, bytesT_3, und_3, zero1_3, zeroT_3]
  (refine (r_inLoop_some ?_).trans h; kernel_rfl)
theorem sa119c (x : Tm) (u : Lev) (L H W : D) (a : ByteArray) (r : List ByteArray) (k : Nat) (hk : x.u[k]? = some u) (hl : (k : Int) < x.u.length) (hr : run Tryz.prog ext (.call 187 [levV u] []) = some (.ret [dV W] [])) (out : Option Out)
    (h : H119b ext 1 (E119b L (a :: r) H k W 0) (nO x (a :: r)) = out) : H119a ext 1 (E119a L (a :: r) H k) (nO x (a :: r)) = out := by
  have h0 : (0 : Int) ≤ k := by omega
  unfold H119b at h
  unfold H119a
  simp only [tmC, levV, levC, dV, iV, E119a, E119b, uD_lt hl, nV_nil, nV_cons, nO_nil, nO_cons, bx_nil, bx_cons, nArg_nil, nArg_cons] at h hr ⊢
  (rw [show (It.code L119a) = It.code (sub B119 [1, 0, 1, 0, 0]) from rfl]; simp only [B119, K119a, sub, Option.getD_some, Tryz.f119, ↓reduceIte, Nat.one_ne_zero])
  simp only [zS, nilEq, wantedA, opA, eff, boxA, cells, ev, gt, pt, putO, updO, setO, okC, loadA, cutC, fieldAddrA, fieldA, indexAddrA, indexA, builtinA, callOpA, callV, target, ptrV, lenS, binA, intOp, strOp, unA, num, lk, over, allocA, pickA, buildA, fillA, convertA, extractA, ofComp, nilCheckA, makeFuncA, ptrs, ofValue, cellB, Nat.reduceAdd, Nat.reduceSub, Nat.reduceMul, Nat.reduceLT, Nat.reduceLeDiff, Nat.reduceGT, ↓reduceIte, Nat.reduceEqDiff, Nat.reduceBEq, reduceCtorEq, Int.reduceBEq, Int.reduceBNe, Int.reduceLT, Int.reduceLE, Int.reduceGT, Int.reduceGE, aggT_33, sizeT_33, bytesT_33, fieldT_33_0, fieldT_33_1, fieldT_33_2, fieldT_33_3, fieldT_33_4, placesT_33, zeroT_33, aggT_30, sizeT_30, bytesT_30, und_30, elemT_30, isSliceT_30, zero1_30, zeroT_30, aggT_36, sizeT_36, bytesT_36, fieldT_36_0, fieldT_36_1, placesT_36, zeroT_36, aggT_43, sizeT_43, bytesT_43, und_43, elemT_43, isSliceT_43, zero1_43, zeroT_43, aggT_52, sizeT_52, bytesT_52, und_52, elemT_52, isSliceT_52, zero1_52, zeroT_52, aggT_9, sizeT_9, bytesT_9, und_9, zero1_9, zeroT_9, aggT_3, sizeT_3, bytesT_3, und_3, zero1_3, zeroT_3, h0, hl, Int.toNat_natCast, hk, levD_eq u, hr]
  (refine (r_inLoop_some ?_).trans h; kernel_rfl)
theorem sb119c (x : Tm) (L L' H : D) (z : Bool) (w : List Int) (n : Int) (a : ByteArray) (r : List ByteArray) (k : Int) (j : Nat) (hk : w[j]? = some n) (hl : (j : Int) < w.length) (hr : run Tryz.prog ext (.call 188 [dV L, iV n] []) = some (.ret [dV L'] [])) (out : Option Out)
    (h : H119b ext 1 (E119b L' (a :: r) H k (listD z 1 (w.map inD)) (wr ((j : Int) + 1))) (nO x (a :: r)) = out) : H119b ext 1 (E119b L (a :: r) H k (listD z 1 (w.map inD)) j) (nO x (a :: r)) = out := by
  have h0 : (0 : Int) ≤ j := by omega
  have hd : listD z 1 (w.map inD) = .s 1 (w.map inD) := listD_of_lt h0 (by simpa using hl)
  unfold H119b at h ⊢
  simp only [tmC, dV, iV, E119b, hd, nV_nil, nV_cons, nO_nil, nO_cons, bx_nil, bx_cons, nArg_nil, nArg_cons] at h hr ⊢
  (rw [show (It.code L119b) = It.code (sub B119 [1, 0, 1, 0, 0, 1, 0, 0, 1, 1, 0, 0]) from rfl]; simp only [B119, K119b, sub, Option.getD_some, Tryz.f119, ↓reduceIte, Nat.one_ne_zero])
  simp only [zS, nilEq, wantedA, opA, eff, boxA, cells, ev, gt, pt, putO, updO, setO, okC, loadA, cutC, fieldAddrA, fieldA, indexAddrA, indexA, builtinA, callOpA, callV, target, ptrV, lenS, binA, intOp, strOp, unA, num, lk, over, allocA, pickA, buildA, fillA, convertA, extractA, ofComp, nilCheckA, makeFuncA, ptrs, ofValue, cellB, Nat.reduceAdd, Nat.reduceSub, Nat.reduceMul, Nat.reduceLT, Nat.reduceLeDiff, Nat.reduceGT, ↓reduceIte, Nat.reduceEqDiff, Nat.reduceBEq, reduceCtorEq, Int.reduceBEq, Int.reduceBNe, Int.reduceLT, Int.reduceLE, Int.reduceGT, Int.reduceGE, aggT_33, sizeT_33, bytesT_33, fieldT_33_0, fieldT_33_1, fieldT_33_2, fieldT_33_3, fieldT_33_4, placesT_33, zeroT_33, aggT_43, sizeT_43, bytesT_43, und_43, elemT_43, isSliceT_43, zero1_43, zeroT_43, aggT_52, sizeT_52, bytesT_52, und_52, elemT_52, isSliceT_52, zero1_52, zeroT_52, aggT_9, sizeT_9, bytesT_9, und_9, zero1_9, zeroT_9, aggT_3, sizeT_3, bytesT_3, und_3, zero1_3, zeroT_3, h0, hl, Int.toNat_natCast, hk, inD, hr]
  (refine (r_inLoop_some ?_).trans h; kernel_rfl)
theorem db119c (x : Tm) (L H : D) (z : Bool) (w : List Int) (a : ByteArray) (r : List ByteArray) (k : Int) (out : Option Out)
    (h : H119a ext 1 (E119a L (a :: r) H (wr (k + 1))) (nO x (a :: r)) = out) : H119b ext 1 (E119b L (a :: r) H k (listD z 1 (w.map inD)) w.length) (nO x (a :: r)) = out := by
  unfold H119a at h
  unfold H119b
  simp only [tmC, dV, iV, E119a, E119b, nV_nil, nV_cons, nO_nil, nO_cons, bx_nil, bx_cons, nArg_nil, nArg_cons] at h ⊢
  (rw [show (It.code L119b) = It.code (sub B119 [1, 0, 1, 0, 0, 1, 0, 0, 1, 1, 0, 0]) from rfl]; simp only [B119, K119b, sub, Option.getD_some, Tryz.f119, ↓reduceIte, Nat.one_ne_zero])
  simp only [zS, nilEq, wantedA, opA, eff, boxA, cells, ev, gt, pt, putO, updO, setO, okC, loadA, cutC, fieldAddrA, fieldA, indexAddrA, indexA, builtinA, callOpA, callV, target, ptrV, lenS, binA, intOp, strOp, unA, num, lk, over, allocA, pickA, buildA, fillA, convertA, extractA, ofComp, nilCheckA, makeFuncA, ptrs, ofValue, cellB, Nat.reduceAdd, Nat.reduceSub, Nat.reduceMul, Nat.reduceLT, Nat.reduceLeDiff, Nat.reduceGT, ↓reduceIte, Nat.reduceEqDiff, Nat.reduceBEq, reduceCtorEq, Int.reduceBEq, Int.reduceBNe, Int.reduceLT, Int.reduceLE, Int.reduceGT, Int.reduceGE, aggT_33, sizeT_33, bytesT_33, fieldT_33_0, fieldT_33_1, fieldT_33_2, fieldT_33_3, fieldT_33_4, placesT_33, zeroT_33, aggT_43, sizeT_43, bytesT_43, und_43, elemT_43, isSliceT_43, zero1_43, zeroT_43, aggT_52, sizeT_52, bytesT_52, und_52, elemT_52, isSliceT_52, zero1_52, zeroT_52, aggT_9, sizeT_9, bytesT_9, und_9, zero1_9, zeroT_9, aggT_3, sizeT_3, bytesT_3, und_3, zero1_3, zeroT_3, Int.lt_irrefl]
  (refine (r_inLoop_some ?_).trans h; kernel_rfl)
theorem md119An (x : Tm) (L H : D)  (hm : run Tryz.prog ext (.call 177 [iV x.op] []) = some (.ret [bV true] [])) (n : Int) (hh : run Tryz.prog ext (.call 189 [dV (listD true 1 []), sV x.s] []) = some (.ret [iV n] [])) (hn : n < 0) (h29 : (x.op == 29) = false) (out : Option Out) (h : H119c ext 0 (E119c L [x.s] H 0) (nO x [x.s]) = out) : H119a ext 0 (E119a L [] H x.u.length) (nO x []) = out := by
  unfold H119c at h
  unfold H119a
  simp only [tmC, dV, iV, bV, sV, E119a, E119c, E119g, O119g, List.map_append, List.map_cons, List.map_nil, List.cons_append, List.nil_append, nV_nil, nV_cons, nO_nil, nO_cons, bx_nil, bx_cons, nArg_nil, nArg_cons, listD_n1, stD_eq x.s] at hm hh h ⊢
  (rw [show (It.code L119a) = It.code (sub B119 [1, 0, 1, 0, 0]) from rfl]; simp only [B119, K119a, sub, Option.getD_some, Tryz.f119, ↓reduceIte, Nat.one_ne_zero])
  simp only [zS, nilEq, wantedA, opA, eff, boxA, cells, ev, gt, pt, putO, updO, setO, okC, loadA, cutC, fieldAddrA, fieldA, indexAddrA, indexA, builtinA, callOpA, callV, target, ptrV, lenS, binA, intOp, strOp, unA, num, lk, over, allocA, pickA, buildA, fillA, convertA, extractA, ofComp, nilCheckA, makeFuncA, ptrs, ofValue, cellB, Nat.reduceAdd, Nat.reduceSub, Nat.reduceMul, Nat.reduceLT, Nat.reduceLeDiff, Nat.reduceGT, ↓reduceIte, Nat.reduceEqDiff, Nat.reduceBEq, reduceCtorEq, Int.reduceBEq, Int.reduceBNe, Int.reduceLT, Int.reduceLE, Int.reduceGT, Int.reduceGE, aggT_33, sizeT_33, bytesT_33, fieldT_33_0, fieldT_33_1, fieldT_33_2, fieldT_33_3, fieldT_33_4, placesT_33, zeroT_33, aggT_30, sizeT_30, bytesT_30, und_30, elemT_30, isSliceT_30, zero1_30, zeroT_30, aggT_43, sizeT_43, bytesT_43, und_43, elemT_43, isSliceT_43, zero1_43, zeroT_43, aggT_52, sizeT_52, bytesT_52, und_52, elemT_52, isSliceT_52, zero1_52, zeroT_52, aggT_9, sizeT_9, bytesT_9, und_9, zero1_9, zeroT_9, aggT_3, sizeT_3, bytesT_3, und_3, zero1_3, zeroT_3, lenA_uD, Int.lt_irrefl, hm, hh, hn, h29, bsSt, no52, apH_arr, Nat.zero_le]
  (refine (r_inLoop_some ?_).trans h; kernel_rfl)
theorem md119Bn (x : Tm) (L H : D)  (hm : run Tryz.prog ext (.call 177 [iV x.op] []) = some (.ret [bV false] [])) (h29 : (x.op == 29) = true) (H' : D) (hr : run Tryz.prog ext (.call 188 [dV H, iV x.n] []) = some (.ret [dV H'] [])) (out : Option Out) (h : H119c ext 0 (E119c L [] H' 0) (nO x []) = out) : H119a ext 0 (E119a L [] H x.u.length) (nO x []) = out := by
  unfold H119c at h
  unfold H119a
  simp only [tmC, dV, iV, bV, sV, E119a, E119c, E119g, O119g, List.map_append, List.map_cons, List.map_nil, List.cons_append, List.nil_append, nV_nil, nV_cons, nO_nil, nO_cons, bx_nil, bx_cons, nArg_nil, nArg_cons] at hm hr h ⊢
  (rw [show (It.code L119a) = It.code (sub B119 [1, 0, 1, 0, 0]) from rfl]; simp only [B119, K119a, sub, Option.getD_some, Tryz.f119, ↓reduceIte, Nat.one_ne_zero])
  simp only [zS, nilEq, wantedA, opA, eff, boxA, cells, ev, gt, pt, putO, updO, setO, okC, loadA, cutC, fieldAddrA, fieldA, indexAddrA, indexA, builtinA, callOpA, callV, target, ptrV, lenS, binA, intOp, strOp, unA, num, lk, over, allocA, pickA, buildA, fillA, convertA, extractA, ofComp, nilCheckA, makeFuncA, ptrs, ofValue, cellB, Nat.reduceAdd, Nat.reduceSub, Nat.reduceMul, Nat.reduceLT, Nat.reduceLeDiff, Nat.reduceGT, ↓reduceIte, Nat.reduceEqDiff, Nat.reduceBEq, reduceCtorEq, Int.reduceBEq, Int.reduceBNe, Int.reduceLT, Int.reduceLE, Int.reduceGT, Int.reduceGE, aggT_33, sizeT_33, bytesT_33, fieldT_33_0, fieldT_33_1, fieldT_33_2, fieldT_33_3, fieldT_33_4, placesT_33, zeroT_33, aggT_30, sizeT_30, bytesT_30, und_30, elemT_30, isSliceT_30, zero1_30, zeroT_30, aggT_43, sizeT_43, bytesT_43, und_43, elemT_43, isSliceT_43, zero1_43, zeroT_43, aggT_52, sizeT_52, bytesT_52, und_52, elemT_52, isSliceT_52, zero1_52, zeroT_52, aggT_9, sizeT_9, bytesT_9, und_9, zero1_9, zeroT_9, aggT_3, sizeT_3, bytesT_3, und_3, zero1_3, zeroT_3, lenA_uD, Int.lt_irrefl, hm, h29, hr]
  (refine (r_inLoop_some ?_).trans h; kernel_rfl)
theorem md119Cn (x : Tm) (L H : D)  (hm : run Tryz.prog ext (.call 177 [iV x.op] []) = some (.ret [bV false] [])) (h29 : (x.op == 29) = false) (out : Option Out) (h : H119c ext 0 (E119c L [] H 0) (nO x []) = out) : H119a ext 0 (E119a L [] H x.u.length) (nO x []) = out := by
  unfold H119c at h
  unfold H119a
  simp only [tmC, dV, iV, bV, sV, E119a, E119c, E119g, O119g, List.map_append, List.map_cons, List.map_nil, List.cons_append, List.nil_append, nV_nil, nV_cons, nO_nil, nO_cons, bx_nil, bx_cons, nArg_nil, nArg_cons] at hm h ⊢
  (rw [show (It.code L119a) = It.code (sub B119 [1, 0, 1, 0, 0]) from rfl]; simp only [B119, K119a, sub, Option.getD_some, Tryz.f119, ↓reduceIte, Nat.one_ne_zero])
  simp only [zS, nilEq, wantedA, opA, eff, boxA, cells, ev, gt, pt, putO, updO, setO, okC, loadA, cutC, fieldAddrA, fieldA, indexAddrA, indexA, builtinA, callOpA, callV, target, ptrV, lenS, binA, intOp, strOp, unA, num, lk, over, allocA, pickA, buildA, fillA, convertA, extractA, ofComp, nilCheckA, makeFuncA, ptrs, ofValue, cellB, Nat.reduceAdd, Nat.reduceSub, Nat.reduceMul, Nat.reduceLT, Nat.reduceLeDiff, Nat.reduceGT, ↓reduceIte, Nat.reduceEqDiff, Nat.reduceBEq, reduceCtorEq, Int.reduceBEq, Int.reduceBNe, Int.reduceLT, Int.reduceLE, Int.reduceGT, Int.reduceGE, aggT_33, sizeT_33, bytesT_33, fieldT_33_0, fieldT_33_1, fieldT_33_2, fieldT_33_3, fieldT_33_4, placesT_33, zeroT_33, aggT_30, sizeT_30, bytesT_30, und_30, elemT_30, isSliceT_30, zero1_30, zeroT_30, aggT_43, sizeT_43, bytesT_43, und_43, elemT_43, isSliceT_43, zero1_43, zeroT_43, aggT_52, sizeT_52, bytesT_52, und_52, elemT_52, isSliceT_52, zero1_52, zeroT_52, aggT_9, sizeT_9, bytesT_9, und_9, zero1_9, zeroT_9, aggT_3, sizeT_3, bytesT_3, und_3, zero1_3, zeroT_3, lenA_uD, Int.lt_irrefl, hm, h29]
  (refine (r_inLoop_some ?_).trans h; kernel_rfl)
theorem md119Dn (x : Tm) (L H : D)  (hm : run Tryz.prog ext (.call 177 [iV x.op] []) = some (.ret [bV true] [])) (n : Int) (hh : run Tryz.prog ext (.call 189 [dV (listD true 1 []), sV x.s] []) = some (.ret [iV n] [])) (hn : ¬ n < 0) (h29 : (x.op == 29) = false) (out : Option Out) (h : H119c ext 0 (E119c L [] H 0) (nO x []) = out) : H119a ext 0 (E119a L [] H x.u.length) (nO x []) = out := by
  unfold H119c at h
  unfold H119a
  simp only [tmC, dV, iV, bV, sV, E119a, E119c, E119g, O119g, List.map_append, List.map_cons, List.map_nil, List.cons_append, List.nil_append, nV_nil, nV_cons, nO_nil, nO_cons, bx_nil, bx_cons, nArg_nil, nArg_cons, listD_n1] at hm hh h ⊢
  (rw [show (It.code L119a) = It.code (sub B119 [1, 0, 1, 0, 0]) from rfl]; simp only [B119, K119a, sub, Option.getD_some, Tryz.f119, ↓reduceIte, Nat.one_ne_zero])
  simp only [zS, nilEq, wantedA, opA, eff, boxA, cells, ev, gt, pt, putO, updO, setO, okC, loadA, cutC, fieldAddrA, fieldA, indexAddrA, indexA, builtinA, callOpA, callV, target, ptrV, lenS, binA, intOp, strOp, unA, num, lk, over, allocA, pickA, buildA, fillA, convertA, extractA, ofComp, nilCheckA, makeFuncA, ptrs, ofValue, cellB, Nat.reduceAdd, Nat.reduceSub, Nat.reduceMul, Nat.reduceLT, Nat.reduceLeDiff, Nat.reduceGT, ↓reduceIte, Nat.reduceEqDiff, Nat.reduceBEq, reduceCtorEq, Int.reduceBEq, Int.reduceBNe, Int.reduceLT, Int.reduceLE, Int.reduceGT, Int.reduceGE, aggT_33, sizeT_33, bytesT_33, fieldT_33_0, fieldT_33_1, fieldT_33_2, fieldT_33_3, fieldT_33_4, placesT_33, zeroT_33, aggT_30, sizeT_30, bytesT_30, und_30, elemT_30, isSliceT_30, zero1_30, zeroT_30, aggT_43, sizeT_43, bytesT_43, und_43, elemT_43, isSliceT_43, zero1_43, zeroT_43, aggT_52, sizeT_52, bytesT_52, und_52, elemT_52, isSliceT_52, zero1_52, zeroT_52, aggT_9, sizeT_9, bytesT_9, und_9, zero1_9, zeroT_9, aggT_3, sizeT_3, bytesT_3, und_3, zero1_3, zeroT_3, lenA_uD, Int.lt_irrefl, hm, hh, hn, h29]
  (refine (r_inLoop_some ?_).trans h; kernel_rfl)
theorem md119Ac (x : Tm) (L H : D) (a : ByteArray) (r : List ByteArray) (hb : r.length < 2 ^ 28) (hm : run Tryz.prog ext (.call 177 [iV x.op] []) = some (.ret [bV true] [])) (n : Int) (hh : run Tryz.prog ext (.call 189 [dV (.s 1 (stD a :: r.map stD)), sV x.s] []) = some (.ret [iV n] [])) (hn : n < 0) (h29 : (x.op == 29) = false) (out : Option Out) (h : H119c ext 1 (E119g L H 0) (O119g x (a :: r ++ [x.s])) = out) : H119a ext 1 (E119a L (a :: r) H x.u.length) (nO x (a :: r)) = out := by
  unfold H119c at h
  unfold H119a
  have hC := fun o1 slot => callA_of (rec := run Tryz.prog ext) (look := lk [.arr 1 (stD a :: r.map stD), o1]) (slot := slot) (f := 189) (args := [.c (.own 0), sV x.s]) (ids := []) (bor := [0]) (e := ⟨.val (iV n), [], [0]⟩) (by kernel_rfl) hh (by kernel_rfl)
  have hb' : r.length + 1 ≤ 1000000000 := by omega
  simp only [tmC, dV, iV, bV, sV, E119a, E119c, E119g, O119g, List.map_append, List.map_cons, List.map_nil, List.cons_append, List.nil_append, nV_nil, nV_cons, nO_nil, nO_cons, bx_nil, bx_cons, nArg_nil, nArg_cons, stD_eq x.s] at hm hC h ⊢
  (rw [show (It.code L119a) = It.code (sub B119 [1, 0, 1, 0, 0]) from rfl]; simp only [B119, K119a, sub, Option.getD_some, Tryz.f119, ↓reduceIte, Nat.one_ne_zero])
  simp only [zS, nilEq, wantedA, opA, eff, boxA, cells, ev, gt, pt, putO, updO, setO, okC, loadA, cutC, fieldAddrA, fieldA, indexAddrA, indexA, builtinA, callOpA, callV, target, ptrV, lenS, binA, intOp, strOp, unA, num, lk, over, allocA, pickA, buildA, fillA, convertA, extractA, ofComp, nilCheckA, makeFuncA, ptrs, ofValue, cellB, Nat.reduceAdd, Nat.reduceSub, Nat.reduceMul, Nat.reduceLT, Nat.reduceLeDiff, Nat.reduceGT, ↓reduceIte, Nat.reduceEqDiff, Nat.reduceBEq, reduceCtorEq, Int.reduceBEq, Int.reduceBNe, Int.reduceLT, Int.reduceLE, Int.reduceGT, Int.reduceGE, aggT_33, sizeT_33, bytesT_33, fieldT_33_0, fieldT_33_1, fieldT_33_2, fieldT_33_3, fieldT_33_4, placesT_33, zeroT_33, aggT_30, sizeT_30, bytesT_30, und_30, elemT_30, isSliceT_30, zero1_30, zeroT_30, aggT_43, sizeT_43, bytesT_43, und_43, elemT_43, isSliceT_43, zero1_43, zeroT_43, aggT_52, sizeT_52, bytesT_52, und_52, elemT_52, isSliceT_52, zero1_52, zeroT_52, aggT_9, sizeT_9, bytesT_9, und_9, zero1_9, zeroT_9, aggT_3, sizeT_3, bytesT_3, und_3, zero1_3, zeroT_3, lenA_uD, Int.lt_irrefl, hm, hC, hn, h29, bsSt, oo52, apG_arr, hb']
  (refine (r_inLoop_some ?_).trans h; kernel_rfl)
theorem md119Bc (x : Tm) (L H : D) (a : ByteArray) (r : List ByteArray) (hm : run Tryz.prog ext (.call 177 [iV x.op] []) = some (.ret [bV false] [])) (h29 : (x.op == 29) = true) (H' : D) (hr : run Tryz.prog ext (.call 188 [dV H, iV x.n] []) = some (.ret [dV H'] [])) (out : Option Out) (h : H119c ext 1 (E119c L (a :: r) H' 0) (nO x (a :: r)) = out) : H119a ext 1 (E119a L (a :: r) H x.u.length) (nO x (a :: r)) = out := by
  unfold H119c at h
  unfold H119a
  simp only [tmC, dV, iV, bV, sV, E119a, E119c, E119g, O119g, List.map_append, List.map_cons, List.map_nil, List.cons_append, List.nil_append, nV_nil, nV_cons, nO_nil, nO_cons, bx_nil, bx_cons, nArg_nil, nArg_cons] at hm hr h ⊢
  (rw [show (It.code L119a) = It.code (sub B119 [1, 0, 1, 0, 0]) from rfl]; simp only [B119, K119a, sub, Option.getD_some, Tryz.f119, ↓reduceIte, Nat.one_ne_zero])
  simp only [zS, nilEq, wantedA, opA, eff, boxA, cells, ev, gt, pt, putO, updO, setO, okC, loadA, cutC, fieldAddrA, fieldA, indexAddrA, indexA, builtinA, callOpA, callV, target, ptrV, lenS, binA, intOp, strOp, unA, num, lk, over, allocA, pickA, buildA, fillA, convertA, extractA, ofComp, nilCheckA, makeFuncA, ptrs, ofValue, cellB, Nat.reduceAdd, Nat.reduceSub, Nat.reduceMul, Nat.reduceLT, Nat.reduceLeDiff, Nat.reduceGT, ↓reduceIte, Nat.reduceEqDiff, Nat.reduceBEq, reduceCtorEq, Int.reduceBEq, Int.reduceBNe, Int.reduceLT, Int.reduceLE, Int.reduceGT, Int.reduceGE, aggT_33, sizeT_33, bytesT_33, fieldT_33_0, fieldT_33_1, fieldT_33_2, fieldT_33_3, fieldT_33_4, placesT_33, zeroT_33, aggT_30, sizeT_30, bytesT_30, und_30, elemT_30, isSliceT_30, zero1_30, zeroT_30, aggT_43, sizeT_43, bytesT_43, und_43, elemT_43, isSliceT_43, zero1_43, zeroT_43, aggT_52, sizeT_52, bytesT_52, und_52, elemT_52, isSliceT_52, zero1_52, zeroT_52, aggT_9, sizeT_9, bytesT_9, und_9, zero1_9, zeroT_9, aggT_3, sizeT_3, bytesT_3, und_3, zero1_3, zeroT_3, lenA_uD, Int.lt_irrefl, hm, h29, hr]
  (refine (r_inLoop_some ?_).trans h; kernel_rfl)
theorem md119Cc (x : Tm) (L H : D) (a : ByteArray) (r : List ByteArray) (hm : run Tryz.prog ext (.call 177 [iV x.op] []) = some (.ret [bV false] [])) (h29 : (x.op == 29) = false) (out : Option Out) (h : H119c ext 1 (E119c L (a :: r) H 0) (nO x (a :: r)) = out) : H119a ext 1 (E119a L (a :: r) H x.u.length) (nO x (a :: r)) = out := by
  unfold H119c at h
  unfold H119a
  simp only [tmC, dV, iV, bV, sV, E119a, E119c, E119g, O119g, List.map_append, List.map_cons, List.map_nil, List.cons_append, List.nil_append, nV_nil, nV_cons, nO_nil, nO_cons, bx_nil, bx_cons, nArg_nil, nArg_cons] at hm h ⊢
  (rw [show (It.code L119a) = It.code (sub B119 [1, 0, 1, 0, 0]) from rfl]; simp only [B119, K119a, sub, Option.getD_some, Tryz.f119, ↓reduceIte, Nat.one_ne_zero])
  simp only [zS, nilEq, wantedA, opA, eff, boxA, cells, ev, gt, pt, putO, updO, setO, okC, loadA, cutC, fieldAddrA, fieldA, indexAddrA, indexA, builtinA, callOpA, callV, target, ptrV, lenS, binA, intOp, strOp, unA, num, lk, over, allocA, pickA, buildA, fillA, convertA, extractA, ofComp, nilCheckA, makeFuncA, ptrs, ofValue, cellB, Nat.reduceAdd, Nat.reduceSub, Nat.reduceMul, Nat.reduceLT, Nat.reduceLeDiff, Nat.reduceGT, ↓reduceIte, Nat.reduceEqDiff, Nat.reduceBEq, reduceCtorEq, Int.reduceBEq, Int.reduceBNe, Int.reduceLT, Int.reduceLE, Int.reduceGT, Int.reduceGE, aggT_33, sizeT_33, bytesT_33, fieldT_33_0, fieldT_33_1, fieldT_33_2, fieldT_33_3, fieldT_33_4, placesT_33, zeroT_33, aggT_30, sizeT_30, bytesT_30, und_30, elemT_30, isSliceT_30, zero1_30, zeroT_30, aggT_43, sizeT_43, bytesT_43, und_43, elemT_43, isSliceT_43, zero1_43, zeroT_43, aggT_52, sizeT_52, bytesT_52, und_52, elemT_52, isSliceT_52, zero1_52, zeroT_52, aggT_9, sizeT_9, bytesT_9, und_9, zero1_9, zeroT_9, aggT_3, sizeT_3, bytesT_3, und_3, zero1_3, zeroT_3, lenA_uD, Int.lt_irrefl, hm, h29]
  (refine (r_inLoop_some ?_).trans h; kernel_rfl)
theorem md119Dc (x : Tm) (L H : D) (a : ByteArray) (r : List ByteArray) (hm : run Tryz.prog ext (.call 177 [iV x.op] []) = some (.ret [bV true] [])) (n : Int) (hh : run Tryz.prog ext (.call 189 [dV (.s 1 (stD a :: r.map stD)), sV x.s] []) = some (.ret [iV n] [])) (hn : ¬ n < 0) (h29 : (x.op == 29) = false) (out : Option Out) (h : H119c ext 1 (E119c L (a :: r) H 0) (nO x (a :: r)) = out) : H119a ext 1 (E119a L (a :: r) H x.u.length) (nO x (a :: r)) = out := by
  unfold H119c at h
  unfold H119a
  have hC := fun o1 slot => callA_of (rec := run Tryz.prog ext) (look := lk [.arr 1 (stD a :: r.map stD), o1]) (slot := slot) (f := 189) (args := [.c (.own 0), sV x.s]) (ids := []) (bor := [0]) (e := ⟨.val (iV n), [], [0]⟩) (by kernel_rfl) hh (by kernel_rfl)
  simp only [tmC, dV, iV, bV, sV, E119a, E119c, E119g, O119g, List.map_append, List.map_cons, List.map_nil, List.cons_append, List.nil_append, nV_nil, nV_cons, nO_nil, nO_cons, bx_nil, bx_cons, nArg_nil, nArg_cons] at hm hC h ⊢
  (rw [show (It.code L119a) = It.code (sub B119 [1, 0, 1, 0, 0]) from rfl]; simp only [B119, K119a, sub, Option.getD_some, Tryz.f119, ↓reduceIte, Nat.one_ne_zero])
  simp only [zS, nilEq, wantedA, opA, eff, boxA, cells, ev, gt, pt, putO, updO, setO, okC, loadA, cutC, fieldAddrA, fieldA, indexAddrA, indexA, builtinA, callOpA, callV, target, ptrV, lenS, binA, intOp, strOp, unA, num, lk, over, allocA, pickA, buildA, fillA, convertA, extractA, ofComp, nilCheckA, makeFuncA, ptrs, ofValue, cellB, Nat.reduceAdd, Nat.reduceSub, Nat.reduceMul, Nat.reduceLT, Nat.reduceLeDiff, Nat.reduceGT, ↓reduceIte, Nat.reduceEqDiff, Nat.reduceBEq, reduceCtorEq, Int.reduceBEq, Int.reduceBNe, Int.reduceLT, Int.reduceLE, Int.reduceGT, Int.reduceGE, aggT_33, sizeT_33, bytesT_33, fieldT_33_0, fieldT_33_1, fieldT_33_2, fieldT_33_3, fieldT_33_4, placesT_33, zeroT_33, aggT_30, sizeT_30, bytesT_30, und_30, elemT_30, isSliceT_30, zero1_30, zeroT_30, aggT_43, sizeT_43, bytesT_43, und_43, elemT_43, isSliceT_43, zero1_43, zeroT_43, aggT_52, sizeT_52, bytesT_52, und_52, elemT_52, isSliceT_52, zero1_52, zeroT_52, aggT_9, sizeT_9, bytesT_9, und_9, zero1_9, zeroT_9, aggT_3, sizeT_3, bytesT_3, und_3, zero1_3, zeroT_3, lenA_uD, Int.lt_irrefl, hm, hC, hn, h29]
  (refine (r_inLoop_some ?_).trans h; kernel_rfl)
/-- What a call of collect leaves: g: the names lie in a new array. -/
def nRet (g : Bool) (l : List ByteArray) : V := match g with | true => .c (.own 1) | false => nV l
def nOut (g : Bool) (l : List ByteArray) : List O := match g with | true => [.gone, .arr 1 (l.map stD)] | false => nArg l
section
variable (rec : Rec) (y : Tm) (o1 : O) (L H L' H' : D) (slot : Nat)
theorem c119A (hr : rec (.call 119 [tmV y, dV L, nV [], dV H] (nArg [])) = some (.ret [dV L', nRet false [], dV H'] (nOut false []))) : callOut [] [] slot (rec (.call 119 [tmV y, dV L, nV [], dV H] (nArg []))) = some ⟨.val (.tup [(false, [.d L']), (false, [.d (.v (.slice none 0 0))]), (false, [.d H'])]), [], []⟩ := by
  rw [hr]
  simp [callOut, answer, nRet, nOut, nV_nil, nArg_nil, dV, mapO, renV, renO, renC, back, number, results1, comp, kills]
theorem c119B (b : ByteArray) (q : List ByteArray) (hr : rec (.call 119 [tmV y, dV L, nV [], dV H] (nArg [])) = some (.ret [dV L', nRet false (b :: q), dV H'] (nOut false (b :: q)))) : callOut [] [] slot (rec (.call 119 [tmV y, dV L, nV [], dV H] (nArg []))) = some ⟨.val (.tup [(false, [.d L']), (false, [.own slot]), (false, [.d H'])]), [(slot, .arr 1 (stD b :: q.map stD))], []⟩ := by
  rw [hr]
  simp [callOut, answer, nRet, nOut, nV_cons, nArg_cons, dV, mapO, renV, renO, renC, back, number, results1, comp, kills]
theorem c119C (a : ByteArray) (r : List ByteArray) (hr : rec (.call 119 [tmV y, dV L, nV (a :: r), dV H] (nArg (a :: r))) = some (.ret [dV L', nRet false (a :: r), dV H'] (nOut false (a :: r)))) : callA rec (lk [.arr 1 (stD a :: r.map stD), o1]) slot 119 [tmV y, dV L, .c (.own 0), dV H] = some ⟨.val (.tup [(false, [.d L']), (false, [.own 0]), (false, [.d H'])]), [(0, .arr 1 (stD a :: r.map stD))], [0]⟩ :=
  callA_of (ids := [0]) (bor := []) (by kernel_rfl) hr (by simp [answer, nRet, nOut, nV_cons, nArg_cons, dV, mapO, renV, renO, renC, back, number, results1, comp, kills])
theorem c119D (a b : ByteArray) (r q : List ByteArray) (hr : rec (.call 119 [tmV y, dV L, nV (a :: r), dV H] (nArg (a :: r))) = some (.ret [dV L', nRet true (b :: q), dV H'] (nOut true (b :: q)))) : callA rec (lk [.arr 1 (stD a :: r.map stD), o1]) slot 119 [tmV y, dV L, .c (.own 0), dV H] = some ⟨.val (.tup [(false, [.d L']), (false, [.own slot]), (false, [.d H'])]), [(0, .gone), (slot, .arr 1 (stD b :: q.map stD))], [0]⟩ :=
  callA_of (ids := [0]) (bor := []) (by kernel_rfl) hr (by simp [answer, nRet, nOut, dV, mapO, renV, renO, renC, back, number, results1, comp, kills])
theorem c119E (a : ByteArray) (r : List ByteArray) (hr : rec (.call 119 [tmV y, dV L, nV (a :: r), dV H] (nArg (a :: r))) = some (.ret [dV L', nRet false (a :: r), dV H'] (nOut false (a :: r)))) : callA rec (lk [.gone, .arr 1 (stD a :: r.map stD), o1]) slot 119 [tmV y, dV L, .c (.own 1), dV H] = some ⟨.val (.tup [(false, [.d L']), (false, [.own 1]), (false, [.d H'])]), [(1, .arr 1 (stD a :: r.map stD))], [1]⟩ :=
  callA_of (ids := [1]) (bor := []) (by kernel_rfl) hr (by simp [answer, nRet, nOut, nV_cons, nArg_cons, dV, mapO, renV, renO, renC, back, number, results1, comp, kills])
theorem c119F (a b : ByteArray) (r q : List ByteArray) (hr : rec (.call 119 [tmV y, dV L, nV (a :: r), dV H] (nArg (a :: r))) = some (.ret [dV L', nRet true (b :: q), dV H'] (nOut true (b :: q)))) : callA rec (lk [.gone, .arr 1 (stD a :: r.map stD), o1]) slot 119 [tmV y, dV L, .c (.own 1), dV H] = some ⟨.val (.tup [(false, [.d L']), (false, [.own slot]), (false, [.d H'])]), [(1, .gone), (slot, .arr 1 (stD b :: q.map stD))], [1]⟩ :=
  callA_of (ids := [1]) (bor := []) (by kernel_rfl) hr (by simp [answer, nRet, nOut, dV, mapO, renV, renO, renC, back, number, results1, comp, kills])
end
theorem sc1190A (x y : Tm) (L H L' H' : D)  (k : Nat) (hk : x.l[k]? = some y) (hl : (k : Int) < x.l.length) (hr : run Tryz.prog ext (.call 119 [tmV y, dV L, nV [], dV H] (nArg [])) = some (.ret [dV L', nRet false [], dV H'] (nOut false []))) (out : Option Out)
    (h : H119c ext 0 (E119c L' [] H' (wr ((k : Int) + 1))) (nO x []) = out) : H119c ext 0 (E119c L [] H k) (nO x []) = out := by
  have h0 : (0 : Int) ≤ k := by omega
  have hC := fun slot => c119A (run Tryz.prog ext) y L H L' H' slot hr
  unfold H119c at h ⊢
  simp only [tmV, tmC, dV, iV, E119c, E119g, O119g, List.map_cons, lD_lt hl, nV_nil, nV_cons, nO_nil, nO_cons, bx_nil, bx_cons, nArg_nil, nArg_cons] at h hC ⊢
  (rw [show (It.code L119c) = It.code (sub B119 [1, 1, 1, 1, 0, 1, 0, 0]) from rfl]; simp only [B119, K119c, sub, Option.getD_some, Tryz.f119, ↓reduceIte, Nat.one_ne_zero])
  simp only [zS, nilEq, wantedA, opA, eff, boxA, cells, ev, gt, pt, putO, updO, setO, okC, loadA, cutC, fieldAddrA, fieldA, indexAddrA, indexA, builtinA, callOpA, callV, target, ptrV, lenS, binA, intOp, strOp, unA, num, lk, over, allocA, pickA, buildA, fillA, convertA, extractA, ofComp, nilCheckA, makeFuncA, ptrs, ofValue, cellB, Nat.reduceAdd, Nat.reduceSub, Nat.reduceMul, Nat.reduceLT, Nat.reduceLeDiff, Nat.reduceGT, ↓reduceIte, Nat.reduceEqDiff, Nat.reduceBEq, reduceCtorEq, Int.reduceBEq, Int.reduceBNe, Int.reduceLT, Int.reduceLE, Int.reduceGT, Int.reduceGE, aggT_33, sizeT_33, bytesT_33, fieldT_33_0, fieldT_33_1, fieldT_33_2, fieldT_33_3, fieldT_33_4, placesT_33, zeroT_33, aggT_31, sizeT_31, bytesT_31, und_31, elemT_31, isSliceT_31, zero1_31, zeroT_31, aggT_43, sizeT_43, bytesT_43, und_43, elemT_43, isSliceT_43, zero1_43, zeroT_43, aggT_52, sizeT_52, bytesT_52, und_52, elemT_52, isSliceT_52, zero1_52, zeroT_52, aggT_9, sizeT_9, bytesT_9, und_9, zero1_9, zeroT_9, aggT_3, sizeT_3, bytesT_3, und_3, zero1_3, zeroT_3, h0, hl, Int.toNat_natCast, hk, tmD_eq y, hC]
  (refine (r_inLoop_some ?_).trans h; kernel_rfl)
theorem sc1190B (x y : Tm) (L H L' H' : D) (b : ByteArray) (q : List ByteArray) (k : Nat) (hk : x.l[k]? = some y) (hl : (k : Int) < x.l.length) (hr : run Tryz.prog ext (.call 119 [tmV y, dV L, nV [], dV H] (nArg [])) = some (.ret [dV L', nRet false (b :: q), dV H'] (nOut false (b :: q)))) (out : Option Out)
    (h : H119c ext 0 (E119c L' (b :: q) H' (wr ((k : Int) + 1))) (nO x (b :: q)) = out) : H119c ext 0 (E119c L [] H k) (nO x []) = out := by
  have h0 : (0 : Int) ≤ k := by omega
  have hC := fun slot => c119B (run Tryz.prog ext) y L H L' H' slot b q hr
  unfold H119c at h ⊢
  simp only [tmV, tmC, dV, iV, E119c, E119g, O119g, List.map_cons, lD_lt hl, nV_nil, nV_cons, nO_nil, nO_cons, bx_nil, bx_cons, nArg_nil, nArg_cons] at h hC ⊢
  (rw [show (It.code L119c) = It.code (sub B119 [1, 1, 1, 1, 0, 1, 0, 0]) from rfl]; simp only [B119, K119c, sub, Option.getD_some, Tryz.f119, ↓reduceIte, Nat.one_ne_zero])
  simp only [zS, nilEq, wantedA, opA, eff, boxA, cells, ev, gt, pt, putO, updO, setO, okC, loadA, cutC, fieldAddrA, fieldA, indexAddrA, indexA, builtinA, callOpA, callV, target, ptrV, lenS, binA, intOp, strOp, unA, num, lk, over, allocA, pickA, buildA, fillA, convertA, extractA, ofComp, nilCheckA, makeFuncA, ptrs, ofValue, cellB, Nat.reduceAdd, Nat.reduceSub, Nat.reduceMul, Nat.reduceLT, Nat.reduceLeDiff, Nat.reduceGT, ↓reduceIte, Nat.reduceEqDiff, Nat.reduceBEq, reduceCtorEq, Int.reduceBEq, Int.reduceBNe, Int.reduceLT, Int.reduceLE, Int.reduceGT, Int.reduceGE, aggT_33, sizeT_33, bytesT_33, fieldT_33_0, fieldT_33_1, fieldT_33_2, fieldT_33_3, fieldT_33_4, placesT_33, zeroT_33, aggT_31, sizeT_31, bytesT_31, und_31, elemT_31, isSliceT_31, zero1_31, zeroT_31, aggT_43, sizeT_43, bytesT_43, und_43, elemT_43, isSliceT_43, zero1_43, zeroT_43, aggT_52, sizeT_52, bytesT_52, und_52, elemT_52, isSliceT_52, zero1_52, zeroT_52, aggT_9, sizeT_9, bytesT_9, und_9, zero1_9, zeroT_9, aggT_3, sizeT_3, bytesT_3, und_3, zero1_3, zeroT_3, h0, hl, Int.toNat_natCast, hk, tmD_eq y, hC]
  (refine (r_inLoop_some ?_).trans h; kernel_rfl)
theorem sc1190C (x y : Tm) (L H L' H' : D) (a : ByteArray) (r : List ByteArray) (k : Nat) (hk : x.l[k]? = some y) (hl : (k : Int) < x.l.length) (hr : run Tryz.prog ext (.call 119 [tmV y, dV L, nV (a :: r), dV H] (nArg (a :: r))) = some (.ret [dV L', nRet false (a :: r), dV H'] (nOut false (a :: r)))) (out : Option Out)
    (h : H119c ext 0 (E119c L' (a :: r) H' (wr ((k : Int) + 1))) (nO x (a :: r)) = out) : H119c ext 0 (E119c L (a :: r) H k) (nO x (a :: r)) = out := by
  have h0 : (0 : Int) ≤ k := by omega
  have hC := fun o1 slot => c119C (run Tryz.prog ext) y o1 L H L' H' slot a r hr
  unfold H119c at h ⊢
  simp only [tmV, tmC, dV, iV, E119c, E119g, O119g, List.map_cons, lD_lt hl, nV_nil, nV_cons, nO_nil, nO_cons, bx_nil, bx_cons, nArg_nil, nArg_cons] at h hC ⊢
  (rw [show (It.code L119c) = It.code (sub B119 [1, 1, 1, 1, 0, 1, 0, 0]) from rfl]; simp only [B119, K119c, sub, Option.getD_some, Tryz.f119, ↓reduceIte, Nat.one_ne_zero])
  simp only [zS, nilEq, wantedA, opA, eff, boxA, cells, ev, gt, pt, putO, updO, setO, okC, loadA, cutC, fieldAddrA, fieldA, indexAddrA, indexA, builtinA, callOpA, callV, target, ptrV, lenS, binA, intOp, strOp, unA, num, lk, over, allocA, pickA, buildA, fillA, convertA, extractA, ofComp, nilCheckA, makeFuncA, ptrs, ofValue, cellB, Nat.reduceAdd, Nat.reduceSub, Nat.reduceMul, Nat.reduceLT, Nat.reduceLeDiff, Nat.reduceGT, ↓reduceIte, Nat.reduceEqDiff, Nat.reduceBEq, reduceCtorEq, Int.reduceBEq, Int.reduceBNe, Int.reduceLT, Int.reduceLE, Int.reduceGT, Int.reduceGE, aggT_33, sizeT_33, bytesT_33, fieldT_33_0, fieldT_33_1, fieldT_33_2, fieldT_33_3, fieldT_33_4, placesT_33, zeroT_33, aggT_31, sizeT_31, bytesT_31, und_31, elemT_31, isSliceT_31, zero1_31, zeroT_31, aggT_43, sizeT_43, bytesT_43, und_43, elemT_43, isSliceT_43, zero1_43, zeroT_43, aggT_52, sizeT_52, bytesT_52, und_52, elemT_52, isSliceT_52, zero1_52, zeroT_52, aggT_9, sizeT_9, bytesT_9, und_9, zero1_9, zeroT_9, aggT_3, sizeT_3, bytesT_3, und_3, zero1_3, zeroT_3, h0, hl, Int.toNat_natCast, hk, tmD_eq y, hC]
  (refine (r_inLoop_some ?_).trans h; kernel_rfl)
theorem sc1190D (x y : Tm) (L H L' H' : D) (a b : ByteArray) (r q : List ByteArray) (k : Nat) (hk : x.l[k]? = some y) (hl : (k : Int) < x.l.length) (hr : run Tryz.prog ext (.call 119 [tmV y, dV L, nV (a :: r), dV H] (nArg (a :: r))) = some (.ret [dV L', nRet true (b :: q), dV H'] (nOut true (b :: q)))) (out : Option Out)
    (h : H119c ext 0 (E119c L' (b :: q) H' (wr ((k : Int) + 1))) (nO x (b :: q)) = out) : H119c ext 0 (E119c L (a :: r) H k) (nO x (a :: r)) = out := by
  have h0 : (0 : Int) ≤ k := by omega
  have hC := fun o1 slot => c119D (run Tryz.prog ext) y o1 L H L' H' slot a b r q hr
  unfold H119c at h ⊢
  simp only [tmV, tmC, dV, iV, E119c, E119g, O119g, List.map_cons, lD_lt hl, nV_nil, nV_cons, nO_nil, nO_cons, bx_nil, bx_cons, nArg_nil, nArg_cons] at h hC ⊢
  (rw [show (It.code L119c) = It.code (sub B119 [1, 1, 1, 1, 0, 1, 0, 0]) from rfl]; simp only [B119, K119c, sub, Option.getD_some, Tryz.f119, ↓reduceIte, Nat.one_ne_zero])
  simp only [zS, nilEq, wantedA, opA, eff, boxA, cells, ev, gt, pt, putO, updO, setO, okC, loadA, cutC, fieldAddrA, fieldA, indexAddrA, indexA, builtinA, callOpA, callV, target, ptrV, lenS, binA, intOp, strOp, unA, num, lk, over, allocA, pickA, buildA, fillA, convertA, extractA, ofComp, nilCheckA, makeFuncA, ptrs, ofValue, cellB, Nat.reduceAdd, Nat.reduceSub, Nat.reduceMul, Nat.reduceLT, Nat.reduceLeDiff, Nat.reduceGT, ↓reduceIte, Nat.reduceEqDiff, Nat.reduceBEq, reduceCtorEq, Int.reduceBEq, Int.reduceBNe, Int.reduceLT, Int.reduceLE, Int.reduceGT, Int.reduceGE, aggT_33, sizeT_33, bytesT_33, fieldT_33_0, fieldT_33_1, fieldT_33_2, fieldT_33_3, fieldT_33_4, placesT_33, zeroT_33, aggT_31, sizeT_31, bytesT_31, und_31, elemT_31, isSliceT_31, zero1_31, zeroT_31, aggT_43, sizeT_43, bytesT_43, und_43, elemT_43, isSliceT_43, zero1_43, zeroT_43, aggT_52, sizeT_52, bytesT_52, und_52, elemT_52, isSliceT_52, zero1_52, zeroT_52, aggT_9, sizeT_9, bytesT_9, und_9, zero1_9, zeroT_9, aggT_3, sizeT_3, bytesT_3, und_3, zero1_3, zeroT_3, h0, hl, Int.toNat_natCast, hk, tmD_eq y, hC]
  (refine (r_inLoop_some ?_).trans h; kernel_rfl)
theorem sc1191C (x y : Tm) (L H L' H' : D) (a : ByteArray) (r : List ByteArray) (k : Nat) (hk : x.l[k]? = some y) (hl : (k : Int) < x.l.length) (hr : run Tryz.prog ext (.call 119 [tmV y, dV L, nV (a :: r), dV H] (nArg (a :: r))) = some (.ret [dV L', nRet false (a :: r), dV H'] (nOut false (a :: r)))) (out : Option Out)
    (h : H119c ext 1 (E119c L' (a :: r) H' (wr ((k : Int) + 1))) (nO x (a :: r)) = out) : H119c ext 1 (E119c L (a :: r) H k) (nO x (a :: r)) = out := by
  have h0 : (0 : Int) ≤ k := by omega
  have hC := fun o1 slot => c119C (run Tryz.prog ext) y o1 L H L' H' slot a r hr
  unfold H119c at h ⊢
  simp only [tmV, tmC, dV, iV, E119c, E119g, O119g, List.map_cons, lD_lt hl, nV_nil, nV_cons, nO_nil, nO_cons, bx_nil, bx_cons, nArg_nil, nArg_cons] at h hC ⊢
  (rw [show (It.code L119c) = It.code (sub B119 [1, 1, 1, 1, 0, 1, 0, 0]) from rfl]; simp only [B119, K119c, sub, Option.getD_some, Tryz.f119, ↓reduceIte, Nat.one_ne_zero])
  simp only [zS, nilEq, wantedA, opA, eff, boxA, cells, ev, gt, pt, putO, updO, setO, okC, loadA, cutC, fieldAddrA, fieldA, indexAddrA, indexA, builtinA, callOpA, callV, target, ptrV, lenS, binA, intOp, strOp, unA, num, lk, over, allocA, pickA, buildA, fillA, convertA, extractA, ofComp, nilCheckA, makeFuncA, ptrs, ofValue, cellB, Nat.reduceAdd, Nat.reduceSub, Nat.reduceMul, Nat.reduceLT, Nat.reduceLeDiff, Nat.reduceGT, ↓reduceIte, Nat.reduceEqDiff, Nat.reduceBEq, reduceCtorEq, Int.reduceBEq, Int.reduceBNe, Int.reduceLT, Int.reduceLE, Int.reduceGT, Int.reduceGE, aggT_33, sizeT_33, bytesT_33, fieldT_33_0, fieldT_33_1, fieldT_33_2, fieldT_33_3, fieldT_33_4, placesT_33, zeroT_33, aggT_31, sizeT_31, bytesT_31, und_31, elemT_31, isSliceT_31, zero1_31, zeroT_31, aggT_43, sizeT_43, bytesT_43, und_43, elemT_43, isSliceT_43, zero1_43, zeroT_43, aggT_52, sizeT_52, bytesT_52, und_52, elemT_52, isSliceT_52, zero1_52, zeroT_52, aggT_9, sizeT_9, bytesT_9, und_9, zero1_9, zeroT_9, aggT_3, sizeT_3, bytesT_3, und_3, zero1_3, zeroT_3, h0, hl, Int.toNat_natCast, hk, tmD_eq y, hC]
  (refine (r_inLoop_some ?_).trans h; kernel_rfl)
theorem sc1191D (x y : Tm) (L H L' H' : D) (a b : ByteArray) (r q : List ByteArray) (k : Nat) (hk : x.l[k]? = some y) (hl : (k : Int) < x.l.length) (hr : run Tryz.prog ext (.call 119 [tmV y, dV L, nV (a :: r), dV H] (nArg (a :: r))) = some (.ret [dV L', nRet true (b :: q), dV H'] (nOut true (b :: q)))) (out : Option Out)
    (h : H119c ext 1 (E119g L' H' (wr ((k : Int) + 1))) (O119g x (b :: q)) = out) : H119c ext 1 (E119c L (a :: r) H k) (nO x (a :: r)) = out := by
  have h0 : (0 : Int) ≤ k := by omega
  have hC := fun o1 slot => c119D (run Tryz.prog ext) y o1 L H L' H' slot a b r q hr
  unfold H119c at h ⊢
  simp only [tmV, tmC, dV, iV, E119c, E119g, O119g, List.map_cons, lD_lt hl, nV_nil, nV_cons, nO_nil, nO_cons, bx_nil, bx_cons, nArg_nil, nArg_cons] at h hC ⊢
  (rw [show (It.code L119c) = It.code (sub B119 [1, 1, 1, 1, 0, 1, 0, 0]) from rfl]; simp only [B119, K119c, sub, Option.getD_some, Tryz.f119, ↓reduceIte, Nat.one_ne_zero])
  simp only [zS, nilEq, wantedA, opA, eff, boxA, cells, ev, gt, pt, putO, updO, setO, okC, loadA, cutC, fieldAddrA, fieldA, indexAddrA, indexA, builtinA, callOpA, callV, target, ptrV, lenS, binA, intOp, strOp, unA, num, lk, over, allocA, pickA, buildA, fillA, convertA, extractA, ofComp, nilCheckA, makeFuncA, ptrs, ofValue, cellB, Nat.reduceAdd, Nat.reduceSub, Nat.reduceMul, Nat.reduceLT, Nat.reduceLeDiff, Nat.reduceGT, ↓reduceIte, Nat.reduceEqDiff, Nat.reduceBEq, reduceCtorEq, Int.reduceBEq, Int.reduceBNe, Int.reduceLT, Int.reduceLE, Int.reduceGT, Int.reduceGE, aggT_33, sizeT_33, bytesT_33, fieldT_33_0, fieldT_33_1, fieldT_33_2, fieldT_33_3, fieldT_33_4, placesT_33, zeroT_33, aggT_31, sizeT_31, bytesT_31, und_31, elemT_31, isSliceT_31, zero1_31, zeroT_31, aggT_43, sizeT_43, bytesT_43, und_43, elemT_43, isSliceT_43, zero1_43, zeroT_43, aggT_52, sizeT_52, bytesT_52, und_52, elemT_52, isSliceT_52, zero1_52, zeroT_52, aggT_9, sizeT_9, bytesT_9, und_9, zero1_9, zeroT_9, aggT_3, sizeT_3, bytesT_3, und_3, zero1_3, zeroT_3, h0, hl, Int.toNat_natCast, hk, tmD_eq y, hC]
  (refine (r_inLoop_some ?_).trans h; kernel_rfl)
theorem sc1191E (x y : Tm) (L H L' H' : D) (a : ByteArray) (r : List ByteArray) (k : Nat) (hk : x.l[k]? = some y) (hl : (k : Int) < x.l.length) (hr : run Tryz.prog ext (.call 119 [tmV y, dV L, nV (a :: r), dV H] (nArg (a :: r))) = some (.ret [dV L', nRet false (a :: r), dV H'] (nOut false (a :: r)))) (out : Option Out)
    (h : H119c ext 1 (E119g L' H' (wr ((k : Int) + 1))) (O119g x (a :: r)) = out) : H119c ext 1 (E119g L H k) (O119g x (a :: r)) = out := by
  have h0 : (0 : Int) ≤ k := by omega
  have hC := fun o1 slot => c119E (run Tryz.prog ext) y o1 L H L' H' slot a r hr
  unfold H119c at h ⊢
  simp only [tmV, tmC, dV, iV, E119c, E119g, O119g, List.map_cons, lD_lt hl, nV_nil, nV_cons, nO_nil, nO_cons, bx_nil, bx_cons, nArg_nil, nArg_cons] at h hC ⊢
  (rw [show (It.code L119c) = It.code (sub B119 [1, 1, 1, 1, 0, 1, 0, 0]) from rfl]; simp only [B119, K119c, sub, Option.getD_some, Tryz.f119, ↓reduceIte, Nat.one_ne_zero])
  simp only [zS, nilEq, wantedA, opA, eff, boxA, cells, ev, gt, pt, putO, updO, setO, okC, loadA, cutC, fieldAddrA, fieldA, indexAddrA, indexA, builtinA, callOpA, callV, target, ptrV, lenS, binA, intOp, strOp, unA, num, lk, over, allocA, pickA, buildA, fillA, convertA, extractA, ofComp, nilCheckA, makeFuncA, ptrs, ofValue, cellB, Nat.reduceAdd, Nat.reduceSub, Nat.reduceMul, Nat.reduceLT, Nat.reduceLeDiff, Nat.reduceGT, ↓reduceIte, Nat.reduceEqDiff, Nat.reduceBEq, reduceCtorEq, Int.reduceBEq, Int.reduceBNe, Int.reduceLT, Int.reduceLE, Int.reduceGT, Int.reduceGE, aggT_33, sizeT_33, bytesT_33, fieldT_33_0, fieldT_33_1, fieldT_33_2, fieldT_33_3, fieldT_33_4, placesT_33, zeroT_33, aggT_31, sizeT_31, bytesT_31, und_31, elemT_31, isSliceT_31, zero1_31, zeroT_31, aggT_43, sizeT_43, bytesT_43, und_43, elemT_43, isSliceT_43, zero1_43, zeroT_43, aggT_52, sizeT_52, bytesT_52, und_52, elemT_52, isSliceT_52, zero1_52, zeroT_52, aggT_9, sizeT_9, bytesT_9, und_9, zero1_9, zeroT_9, aggT_3, sizeT_3, bytesT_3, und_3, zero1_3, zeroT_3, h0, hl, Int.toNat_natCast, hk, tmD_eq y, hC]
  (refine (r_inLoop_some ?_).trans h; kernel_rfl)
theorem sc1191F (x y : Tm) (L H L' H' : D) (a b : ByteArray) (r q : List ByteArray) (k : Nat) (hk : x.l[k]? = some y) (hl : (k : Int) < x.l.length) (hr : run Tryz.prog ext (.call 119 [tmV y, dV L, nV (a :: r), dV H] (nArg (a :: r))) = some (.ret [dV L', nRet true (b :: q), dV H'] (nOut true (b :: q)))) (out : Option Out)
    (h : H119c ext 1 (E119g L' H' (wr ((k : Int) + 1))) (O119g x (b :: q)) = out) : H119c ext 1 (E119g L H k) (O119g x (a :: r)) = out := by
  have h0 : (0 : Int) ≤ k := by omega
  have hC := fun o1 slot => c119F (run Tryz.prog ext) y o1 L H L' H' slot a b r q hr
  unfold H119c at h ⊢
  simp only [tmV, tmC, dV, iV, E119c, E119g, O119g, List.map_cons, lD_lt hl, nV_nil, nV_cons, nO_nil, nO_cons, bx_nil, bx_cons, nArg_nil, nArg_cons] at h hC ⊢
  (rw [show (It.code L119c) = It.code (sub B119 [1, 1, 1, 1, 0, 1, 0, 0]) from rfl]; simp only [B119, K119c, sub, Option.getD_some, Tryz.f119, ↓reduceIte, Nat.one_ne_zero])
  simp only [zS, nilEq, wantedA, opA, eff, boxA, cells, ev, gt, pt, putO, updO, setO, okC, loadA, cutC, fieldAddrA, fieldA, indexAddrA, indexA, builtinA, callOpA, callV, target, ptrV, lenS, binA, intOp, strOp, unA, num, lk, over, allocA, pickA, buildA, fillA, convertA, extractA, ofComp, nilCheckA, makeFuncA, ptrs, ofValue, cellB, Nat.reduceAdd, Nat.reduceSub, Nat.reduceMul, Nat.reduceLT, Nat.reduceLeDiff, Nat.reduceGT, ↓reduceIte, Nat.reduceEqDiff, Nat.reduceBEq, reduceCtorEq, Int.reduceBEq, Int.reduceBNe, Int.reduceLT, Int.reduceLE, Int.reduceGT, Int.reduceGE, aggT_33, sizeT_33, bytesT_33, fieldT_33_0, fieldT_33_1, fieldT_33_2, fieldT_33_3, fieldT_33_4, placesT_33, zeroT_33, aggT_31, sizeT_31, bytesT_31, und_31, elemT_31, isSliceT_31, zero1_31, zeroT_31, aggT_43, sizeT_43, bytesT_43, und_43, elemT_43, isSliceT_43, zero1_43, zeroT_43, aggT_52, sizeT_52, bytesT_52, und_52, elemT_52, isSliceT_52, zero1_52, zeroT_52, aggT_9, sizeT_9, bytesT_9, und_9, zero1_9, zeroT_9, aggT_3, sizeT_3, bytesT_3, und_3, zero1_3, zeroT_3, h0, hl, Int.toNat_natCast, hk, tmD_eq y, hC]
  (refine (r_inLoop_some ?_).trans h; kernel_rfl)
theorem dc1190n (x : Tm) (L H : D)  : H119c ext 0 (E119c L [] H x.l.length) (nO x []) = some (.ret [dV L, nRet false [], dV H] (nOut false [])) := by
  unfold H119c
  simp only [tmC, dV, iV, E119c, E119g, O119g, nRet, nOut, List.map_cons, nV_nil, nV_cons, nO_nil, nO_cons, bx_nil, bx_cons, nArg_nil, nArg_cons]
  (rw [show (It.code L119c) = It.code (sub B119 [1, 1, 1, 1, 0, 1, 0, 0]) from rfl]; simp only [B119, K119c, sub, Option.getD_some, Tryz.f119, ↓reduceIte, Nat.one_ne_zero])
  simp only [zS, nilEq, wantedA, opA, eff, boxA, cells, ev, gt, pt, putO, updO, setO, okC, loadA, cutC, fieldAddrA, fieldA, indexAddrA, indexA, builtinA, callOpA, callV, target, ptrV, lenS, binA, intOp, strOp, unA, num, lk, over, allocA, pickA, buildA, fillA, convertA, extractA, ofComp, nilCheckA, makeFuncA, ptrs, ofValue, cellB, Nat.reduceAdd, Nat.reduceSub, Nat.reduceMul, Nat.reduceLT, Nat.reduceLeDiff, Nat.reduceGT, ↓reduceIte, Nat.reduceEqDiff, Nat.reduceBEq, reduceCtorEq, Int.reduceBEq, Int.reduceBNe, Int.reduceLT, Int.reduceLE, Int.reduceGT, Int.reduceGE, aggT_33, sizeT_33, bytesT_33, fieldT_33_0, fieldT_33_1, fieldT_33_2, fieldT_33_3, fieldT_33_4, placesT_33, zeroT_33, aggT_31, sizeT_31, bytesT_31, und_31, elemT_31, isSliceT_31, zero1_31, zeroT_31, aggT_43, sizeT_43, bytesT_43, und_43, elemT_43, isSliceT_43, zero1_43, zeroT_43, aggT_52, sizeT_52, bytesT_52, und_52, elemT_52, isSliceT_52, zero1_52, zeroT_52, aggT_9, sizeT_9, bytesT_9, und_9, zero1_9, zeroT_9, aggT_3, sizeT_3, bytesT_3, und_3, zero1_3, zeroT_3, lenA_lD, Int.lt_irrefl]
  (refine Eq.trans ?_ rfl; kernel_rfl)
theorem dc1190c (x : Tm) (L H : D) (a : ByteArray) (r : List ByteArray) : H119c ext 0 (E119c L (a :: r) H x.l.length) (nO x (a :: r)) = some (.ret [dV L, nRet false (a :: r), dV H] (nOut false (a :: r))) := by
  unfold H119c
  simp only [tmC, dV, iV, E119c, E119g, O119g, nRet, nOut, List.map_cons, nV_nil, nV_cons, nO_nil, nO_cons, bx_nil, bx_cons, nArg_nil, nArg_cons]
  (rw [show (It.code L119c) = It.code (sub B119 [1, 1, 1, 1, 0, 1, 0, 0]) from rfl]; simp only [B119, K119c, sub, Option.getD_some, Tryz.f119, ↓reduceIte, Nat.one_ne_zero])
  simp only [zS, nilEq, wantedA, opA, eff, boxA, cells, ev, gt, pt, putO, updO, setO, okC, loadA, cutC, fieldAddrA, fieldA, indexAddrA, indexA, builtinA, callOpA, callV, target, ptrV, lenS, binA, intOp, strOp, unA, num, lk, over, allocA, pickA, buildA, fillA, convertA, extractA, ofComp, nilCheckA, makeFuncA, ptrs, ofValue, cellB, Nat.reduceAdd, Nat.reduceSub, Nat.reduceMul, Nat.reduceLT, Nat.reduceLeDiff, Nat.reduceGT, ↓reduceIte, Nat.reduceEqDiff, Nat.reduceBEq, reduceCtorEq, Int.reduceBEq, Int.reduceBNe, Int.reduceLT, Int.reduceLE, Int.reduceGT, Int.reduceGE, aggT_33, sizeT_33, bytesT_33, fieldT_33_0, fieldT_33_1, fieldT_33_2, fieldT_33_3, fieldT_33_4, placesT_33, zeroT_33, aggT_31, sizeT_31, bytesT_31, und_31, elemT_31, isSliceT_31, zero1_31, zeroT_31, aggT_43, sizeT_43, bytesT_43, und_43, elemT_43, isSliceT_43, zero1_43, zeroT_43, aggT_52, sizeT_52, bytesT_52, und_52, elemT_52, isSliceT_52, zero1_52, zeroT_52, aggT_9, sizeT_9, bytesT_9, und_9, zero1_9, zeroT_9, aggT_3, sizeT_3, bytesT_3, und_3, zero1_3, zeroT_3, lenA_lD, Int.lt_irrefl]
  (refine Eq.trans ?_ rfl; kernel_rfl)
theorem dc1191c (x : Tm) (L H : D) (a : ByteArray) (r : List ByteArray) : H119c ext 1 (E119c L (a :: r) H x.l.length) (nO x (a :: r)) = some (.ret [dV L, nRet false (a :: r), dV H] (nOut false (a :: r))) := by
  unfold H119c
  simp only [tmC, dV, iV, E119c, E119g, O119g, nRet, nOut, List.map_cons, nV_nil, nV_cons, nO_nil, nO_cons, bx_nil, bx_cons, nArg_nil, nArg_cons]
  (rw [show (It.code L119c) = It.code (sub B119 [1, 1, 1, 1, 0, 1, 0, 0]) from rfl]; simp only [B119, K119c, sub, Option.getD_some, Tryz.f119, ↓reduceIte, Nat.one_ne_zero])
  simp only [zS, nilEq, wantedA, opA, eff, boxA, cells, ev, gt, pt, putO, updO, setO, okC, loadA, cutC, fieldAddrA, fieldA, indexAddrA, indexA, builtinA, callOpA, callV, target, ptrV, lenS, binA, intOp, strOp, unA, num, lk, over, allocA, pickA, buildA, fillA, convertA, extractA, ofComp, nilCheckA, makeFuncA, ptrs, ofValue, cellB, Nat.reduceAdd, Nat.reduceSub, Nat.reduceMul, Nat.reduceLT, Nat.reduceLeDiff, Nat.reduceGT, ↓reduceIte, Nat.reduceEqDiff, Nat.reduceBEq, reduceCtorEq, Int.reduceBEq, Int.reduceBNe, Int.reduceLT, Int.reduceLE, Int.reduceGT, Int.reduceGE, aggT_33, sizeT_33, bytesT_33, fieldT_33_0, fieldT_33_1, fieldT_33_2, fieldT_33_3, fieldT_33_4, placesT_33, zeroT_33, aggT_31, sizeT_31, bytesT_31, und_31, elemT_31, isSliceT_31, zero1_31, zeroT_31, aggT_43, sizeT_43, bytesT_43, und_43, elemT_43, isSliceT_43, zero1_43, zeroT_43, aggT_52, sizeT_52, bytesT_52, und_52, elemT_52, isSliceT_52, zero1_52, zeroT_52, aggT_9, sizeT_9, bytesT_9, und_9, zero1_9, zeroT_9, aggT_3, sizeT_3, bytesT_3, und_3, zero1_3, zeroT_3, lenA_lD, Int.lt_irrefl]
  (refine Eq.trans ?_ rfl; kernel_rfl)
theorem dc1191g (x : Tm) (L H : D) (a : ByteArray) (r : List ByteArray) : H119c ext 1 (E119g L H x.l.length) (O119g x (a :: r)) = some (.ret [dV L, nRet true (a :: r), dV H] (nOut true (a :: r))) := by
  unfold H119c
  simp only [tmC, dV, iV, E119c, E119g, O119g, nRet, nOut, List.map_cons, nV_nil, nV_cons, nO_nil, nO_cons, bx_nil, bx_cons, nArg_nil, nArg_cons]
  (rw [show (It.code L119c) = It.code (sub B119 [1, 1, 1, 1, 0, 1, 0, 0]) from rfl]; simp only [B119, K119c, sub, Option.getD_some, Tryz.f119, ↓reduceIte, Nat.one_ne_zero])
  simp only [zS, nilEq, wantedA, opA, eff, boxA, cells, ev, gt, pt, putO, updO, setO, okC, loadA, cutC, fieldAddrA, fieldA, indexAddrA, indexA, builtinA, callOpA, callV, target, ptrV, lenS, binA, intOp, strOp, unA, num, lk, over, allocA, pickA, buildA, fillA, convertA, extractA, ofComp, nilCheckA, makeFuncA, ptrs, ofValue, cellB, Nat.reduceAdd, Nat.reduceSub, Nat.reduceMul, Nat.reduceLT, Nat.reduceLeDiff, Nat.reduceGT, ↓reduceIte, Nat.reduceEqDiff, Nat.reduceBEq, reduceCtorEq, Int.reduceBEq, Int.reduceBNe, Int.reduceLT, Int.reduceLE, Int.reduceGT, Int.reduceGE, aggT_33, sizeT_33, bytesT_33, fieldT_33_0, fieldT_33_1, fieldT_33_2, fieldT_33_3, fieldT_33_4, placesT_33, zeroT_33, aggT_31, sizeT_31, bytesT_31, und_31, elemT_31, isSliceT_31, zero1_31, zeroT_31, aggT_43, sizeT_43, bytesT_43, und_43, elemT_43, isSliceT_43, zero1_43, zeroT_43, aggT_52, sizeT_52, bytesT_52, und_52, elemT_52, isSliceT_52, zero1_52, zeroT_52, aggT_9, sizeT_9, bytesT_9, und_9, zero1_9, zeroT_9, aggT_3, sizeT_3, bytesT_3, und_3, zero1_3, zeroT_3, lenA_lD, Int.lt_irrefl]
  (refine Eq.trans ?_ rfl; kernel_rfl)
end Go.Proofs.YteenjodhmppgjaaGreatDoor.Am
end
section
/- The names in a term, by the reference: collect, Names. -/
namespace Go.Proofs.YteenjodhmppgjaaGreatDoor.Am
open Go
variable (ext : Ext)
set_option maxHeartbeats 8000000
set_option maxRecDepth 4000
def inL (s : Bool × List Int) : D := listD s.1 1 (s.2.map inD)
theorem en119 (hx : ext 119 = none) (x : Tm) (L H : D) (l : List ByteArray) (out : Option Out) (h : H119a ext (bx l) (E119a L l H 0) (nO x l) = out) : run Tryz.prog ext (.call 119 [tmV x, dV L, nV l, dV H] (nArg l)) = out := by
  cases l with
  | nil => exact en119n ext hx x L H out h
  | cons a r => exact en119c ext hx x L H a r out h
theorem sa119 (x : Tm) (u : Lev) (L H W : D) (l : List ByteArray) (k : Nat) (hk : x.u[k]? = some u) (hl : (k : Int) < x.u.length) (hr : run Tryz.prog ext (.call 187 [levV u] []) = some (.ret [dV W] [])) : H119a ext (bx l) (E119a L l H k) (nO x l) = H119b ext (bx l) (E119b L l H k W 0) (nO x l) := by
  cases l with
  | nil => exact sa119n ext x u L H W k hk hl hr _ rfl
  | cons a r => exact sa119c ext x u L H W a r k hk hl hr _ rfl
theorem sb119 (x : Tm) (L L' H : D) (z : Bool) (w : List Int) (n : Int) (l : List ByteArray) (k : Int) (j : Nat) (hk : w[j]? = some n) (hl : (j : Int) < w.length) (hr : run Tryz.prog ext (.call 188 [dV L, iV n] []) = some (.ret [dV L'] [])) (out : Option Out)
    (h : H119b ext (bx l) (E119b L' l H k (listD z 1 (w.map inD)) (wr ((j : Int) + 1))) (nO x l) = out) : H119b ext (bx l) (E119b L l H k (listD z 1 (w.map inD)) j) (nO x l) = out := by
  cases l with
  | nil => exact sb119n ext x L L' H z w n k j hk hl hr out h
  | cons a r => exact sb119c ext x L L' H z w n a r k j hk hl hr out h
theorem db119 (x : Tm) (L H : D) (z : Bool) (w : List Int) (l : List ByteArray) (k : Int) : H119b ext (bx l) (E119b L l H k (listD z 1 (w.map inD)) w.length) (nO x l) = H119a ext (bx l) (E119a L l H (wr (k + 1))) (nO x l) := by
  cases l with
  | nil => exact db119n ext x L H z w k _ rfl
  | cons a r => exact db119c ext x L H z w a r k _ rfl
/-- The state of the loop over the parts. -/
structure Cs where
  g : Bool
  L : Bool × List Int
  l : List ByteArray
  H : Bool × List Int
noncomputable def SC (m : Nat) (x : Tm) (k : Int) (s : Cs) : Option Out := match s.g with
  | true => H119c ext m (E119g (inL s.L) (inL s.H) k) (O119g x s.l)
  | false => H119c ext m (E119c (inL s.L) s.l (inL s.H) k) (nO x s.l)
theorem mid119 (h177 : ext 177 = none) (h189 : ext 189 = none) (h188 : ext 188 = none) (x : Tm) (L H : Bool × List Int) (l : List ByteArray) (hl : l.length < 2 ^ 27) (hH : H.2.length < 50000000) :
    ∃ s : Cs, s.l = nm1 l x ∧ (s.g = false → l = [] ∨ s.l = l) ∧ (s.g = true → l ≠ [] ∧ s.l ≠ []) ∧ s.L = L ∧ s.H.2.length ≤ H.2.length + 1 ∧ H119a ext (bx l) (E119a (inL L) l (inL H) x.u.length) (nO x l) = SC ext (bx l) x 0 s := by
  have hm := many177 ext h177 x
  cases c : isNmd x with
  | false =>
    rw [c] at hm
    have e : nm1 l x = l := by unfold nm1; rw [c]; rfl
    cases h29 : (x.op == 29) with
    | true =>
      have hr := ord188 ext h188 H.1 H.2 x.n hH
      refine ⟨⟨false, L, l, (true, ordL H.2 x.n)⟩, e.symm, fun _ => .inr rfl, fun h => (by cases h), rfl, ordL_len _ _, ?_⟩
      cases l with
      | nil => exact md119Bn ext x (inL L) (inL H) hm h29 (inL (true, ordL H.2 x.n)) hr _ rfl
      | cons a r => exact md119Bc ext x (inL L) (inL H) a r hm h29 (inL (true, ordL H.2 x.n)) hr _ rfl
    | false =>
      refine ⟨⟨false, L, l, H⟩, e.symm, fun _ => .inr rfl, fun h => (by cases h), rfl, Nat.le_succ _, ?_⟩
      cases l with
      | nil => exact md119Cn ext x (inL L) (inL H) hm h29 _ rfl
      | cons a r => exact md119Cc ext x (inL L) (inL H) a r hm h29 _ rfl
  | true =>
    rw [c] at hm
    have h29 : (x.op == 29) = false := by
      cases h : (x.op == 29) with
      | false => rfl
      | true =>
        have e := beq_iff_eq.1 h
        unfold isNmd at c
        rw [e] at c
        simp at c
    have hh := has189 ext h189 true l x.s (by omega)
    have hn := hasN_ix l x.s
    generalize ixOf (l.findIdx? fun a => a.toList == x.s.toList) = n at hh hn
    cases d : hasN l x.s with
    | false =>
      have hn' : n < 0 := by rw [hn]; exact d
      have e : nm1 l x = l ++ [x.s] := by unfold nm1; rw [c, d]; rfl
      cases l with
      | nil => exact ⟨⟨false, L, [x.s], H⟩, e.symm, fun _ => .inl rfl, fun h => (by cases h), rfl, Nat.le_succ _, md119An ext x (inL L) (inL H) hm n hh hn' h29 _ rfl⟩
      | cons a r =>
        rw [List.map_cons, listD_t1] at hh
        exact ⟨⟨true, L, a :: r ++ [x.s], H⟩, e.symm, fun h => (by cases h), fun _ => ⟨by simp, by simp⟩, rfl, Nat.le_succ _, md119Ac ext x (inL L) (inL H) a r (by simp at hl; omega) hm n hh hn' h29 _ rfl⟩
    | true =>
      have hn' : ¬ n < 0 := by rw [hn, d]; simp
      have e : nm1 l x = l := by unfold nm1; rw [c, d]; rfl
      refine ⟨⟨false, L, l, H⟩, e.symm, fun _ => .inr rfl, fun h => (by cases h), rfl, Nat.le_succ _, ?_⟩
      cases l with
      | nil => exact md119Dn ext x (inL L) (inL H) hm n hh hn' h29 _ rfl
      | cons a r =>
        rw [List.map_cons, listD_t1] at hh
        exact md119Dc ext x (inL L) (inL H) a r hm n hh hn' h29 _ rfl
theorem step119 (l : List ByteArray) (x y : Tm) (k : Nat) (s s' : Cs) (hk : x.l[k]? = some y) (hlt : (k : Int) < x.l.length) (hg0 : s.g = false → l = [] ∨ s.l = l) (hg1 : s.g = true → l ≠ [] ∧ s.l ≠ []) (g' : Bool) (hn : s'.l = nms s.l y) (hc : chg' s.l s'.l g') (hs' : s'.g = (s.g || (g' && !l.isEmpty)))
    (hr : run Tryz.prog ext (.call 119 [tmV y, dV (inL s.L), nV s.l, dV (inL s.H)] (nArg s.l)) = some (.ret [dV (inL s'.L), nRet g' s'.l, dV (inL s'.H)] (nOut g' s'.l))) :
    ∀ out, SC ext (bx l) x (wr ((k : Int) + 1)) s' = out → SC ext (bx l) x k s = out := by
  intro out h
  obtain ⟨g, L, l1, H⟩ := s
  obtain ⟨g2, L2, l2, H2⟩ := s'
  dsimp only at hg0 hg1 hn hc hs' hr
  obtain ⟨c1, c2⟩ := hc
  cases l with
  | nil =>
    have e1 : g = false := by cases g with | false => rfl | true => exact absurd rfl (hg1 rfl).1
    subst e1
    have e2 : g2 = false := by rw [hs']; simp
    subst e2
    unfold SC at h ⊢
    dsimp only at h ⊢
    cases l1 with
    | nil =>
      have e3 : g' = false := by cases g' with | false => rfl | true => exact absurd rfl (c2 rfl).1
      subst e3
      cases l2 with
      | nil => exact sc1190A ext x y _ _ _ _ k hk hlt hr out h
      | cons b q => exact sc1190B ext x y _ _ _ _ b q k hk hlt hr out h
    | cons a r =>
      cases g' with
      | false =>
        have e : l2 = a :: r := by rcases c1 rfl with h | h; (· cases h); (· exact h)
        subst e
        exact sc1190C ext x y _ _ _ _ a r k hk hlt hr out h
      | true =>
        cases l2 with
        | nil => exact absurd rfl (c2 rfl).2
        | cons b q => exact sc1190D ext x y _ _ _ _ a b r q k hk hlt hr out h
  | cons a0 r0 =>
    have hb : (!(a0 :: r0).isEmpty) = true := rfl
    rw [hb, Bool.and_true] at hs'
    cases l1 with
    | nil =>
      cases g with
      | false => rcases hg0 rfl with h | h <;> cases h
      | true => exact absurd rfl (hg1 rfl).2
    | cons a r =>
      cases g with
      | false =>
        cases g' with
        | false =>
          have e : l2 = a :: r := by rcases c1 rfl with h | h; (· cases h); (· exact h)
          subst e hs'
          exact sc1191C ext x y _ _ _ _ a r k hk hlt hr out h
        | true =>
          subst hs'
          cases l2 with
          | nil => exact absurd rfl (c2 rfl).2
          | cons b q => exact sc1191D ext x y _ _ _ _ a b r q k hk hlt hr out h
      | true =>
        have e2 : g2 = true := by rw [hs']; rfl
        subst e2
        cases g' with
        | false =>
          have e : l2 = a :: r := by rcases c1 rfl with h | h; (· cases h); (· exact h)
          subst e
          exact sc1191E ext x y _ _ _ _ a r k hk hlt hr out h
        | true =>
          cases l2 with
          | nil => exact absurd rfl (c2 rfl).2
          | cons b q => exact sc1191F ext x y _ _ _ _ a b r q k hk hlt hr out h
theorem done119 (l : List ByteArray) (x : Tm) (s : Cs) (hg0 : s.g = false → l = [] ∨ s.l = l) (hg1 : s.g = true → l ≠ [] ∧ s.l ≠ []) :
    SC ext (bx l) x x.l.length s = some (.ret [dV (inL s.L), nRet s.g s.l, dV (inL s.H)] (nOut s.g s.l)) := by
  obtain ⟨g, L, l1, H⟩ := s
  dsimp only at hg0 hg1
  unfold SC
  cases l with
  | nil =>
    have e1 : g = false := by cases g with | false => rfl | true => exact absurd rfl (hg1 rfl).1
    subst e1
    cases l1 with
    | nil => exact dc1190n ext x _ _
    | cons a r => exact dc1190c ext x _ _ a r
  | cons a0 r0 =>
    cases l1 with
    | nil =>
      cases g with
      | false => rcases hg0 rfl with h | h <;> cases h
      | true => exact absurd rfl (hg1 rfl).2
    | cons a r =>
      cases g with
      | false => exact dc1191c ext x _ _ a r
      | true => exact dc1191g ext x _ _ a r
theorem sum_take_le (f : Tm → Nat) (l : List Tm) (k : Nat) (y : Tm) (hk : l[k]? = some y) : ((l.take k).map f).sum + f y ≤ (l.map f).sum := by
  have h1 : ((l.take (k + 1)).map f).sum + ((l.drop (k + 1)).map f).sum = (l.map f).sum := by
    rw [← List.sum_append, ← List.map_append, List.take_append_drop]
  have h2 : ((l.take (k + 1)).map f).sum = ((l.take k).map f).sum + f y := by
    rw [List.take_add_one, hk]; simp
  omega
theorem sum_take_leu (f : Lev → Nat) (l : List Lev) (k : Nat) (y : Lev) (hk : l[k]? = some y) : ((l.take (k + 1)).map f).sum = ((l.take k).map f).sum + f y ∧ ((l.take k).map f).sum + f y ≤ (l.map f).sum := by
  have h1 : ((l.take (k + 1)).map f).sum + ((l.drop (k + 1)).map f).sum = (l.map f).sum := by
    rw [← List.sum_append, ← List.map_append, List.take_append_drop]
  have h2 : ((l.take (k + 1)).map f).sum = ((l.take k).map f).sum + f y := by
    rw [List.take_add_one, hk]; simp
  exact ⟨h2, by omega⟩
theorem levs119 (h187 : ext 187 = none) (h196 : ext 196 = none) (h188 : ext 188 = none) (x : Tm) (hs : x.sz < 2 ^ 24) (l : List ByteArray) (H : D) (L : Bool × List Int) (hL : L.2.length + x.sz < 50000000) :
    ∃ L' : Bool × List Int, L'.2.length ≤ L.2.length + (x.u.map Lev.sz).sum ∧ H119a ext (bx l) (E119a (inL L) l H 0) (nO x l) = H119a ext (bx l) (E119a (inL L') l H x.u.length) (nO x l) := by
  have hsz := x.sz_eq
  have hul := x.ulen_lt
  have := loop_inv x.u (fun k L => H119a ext (bx l) (E119a (inL L) l H k) (nO x l)) (fun k (s : Bool × List Int) => s.2.length ≤ L.2.length + ((x.u.take k).map Lev.sz).sum)
    (fun o => ∃ L' : Bool × List Int, L'.2.length ≤ L.2.length + (x.u.map Lev.sz).sum ∧ o = H119a ext (bx l) (E119a (inL L') l H x.u.length) (nO x l)) (by omega)
    (fun k u s hI hk hl => by
      obtain ⟨e1, e2⟩ := sum_take_leu Lev.sz x.u k u hk
      have hu := Tm.lev_lt (List.mem_of_getElem? hk)
      have hu' : u.sz = 1 + u.vs.length := rfl
      have hv := vars187 ext h187 h196 u (by omega)
      have hvl := varsL_len u
      rw [sa119 ext x u (inL s) H (listD true 1 ((varsL u).map inD)) l k hk hl hv]
      have hin := loop_inv (varsL u) (fun j s => H119b ext (bx l) (E119b (inL s) l H k (listD true 1 ((varsL u).map inD)) j) (nO x l)) (fun j (s' : Bool × List Int) => s'.2.length ≤ s.2.length + j)
        (fun o => ∃ s' : Bool × List Int, s'.2.length ≤ s.2.length + (varsL u).length ∧ o = H119a ext (bx l) (E119a (inL s') l H (wr ((k : Int) + 1))) (nO x l)) (by omega)
        (fun j n s' hI' hj hjl => by
          have hr := ord188 ext h188 s'.1 s'.2 n (by omega)
          refine ⟨(true, ordL s'.2 n), ?_, fun out ho => sb119 ext x (inL s') (inL (true, ordL s'.2 n)) H true (varsL u) n l k j hj hjl hr out ho⟩
          have := ordL_len s'.2 n
          dsimp only; omega) (fun s' hI' => ⟨s', hI', db119 ext x (inL s') H true (varsL u) l k⟩) s (by simp)
      obtain ⟨s', q1, q2⟩ := hin
      refine ⟨s', ?_, fun out ho => ?_⟩
      · omega
      · rw [← ho]; exact q2) (fun s hI => ⟨s, by rw [List.take_length] at hI; exact hI, rfl⟩) L (by simp)
  exact this
theorem col119 (hx : ext 119 = none) (h177 : ext 177 = none) (h187 : ext 187 = none) (h188 : ext 188 = none) (h189 : ext 189 = none) (h196 : ext 196 = none) : ∀ (N : Nat) (x : Tm), x.sz ≤ N → N < 2 ^ 24 → ∀ (l : List ByteArray) (L H : Bool × List Int), l.length + x.sz < 2 ^ 27 → L.2.length + x.sz < 50000000 → H.2.length + x.sz < 50000000 →
    ∃ s : Cs, s.l = nms l x ∧ chg' l s.l s.g ∧ s.L.2.length ≤ L.2.length + x.sz ∧ s.H.2.length ≤ H.2.length + x.sz ∧
      run Tryz.prog ext (.call 119 [tmV x, dV (inL L), nV l, dV (inL H)] (nArg l)) = some (.ret [dV (inL s.L), nRet s.g s.l, dV (inL s.H)] (nOut s.g s.l))
  | 0, x, h, _, _, _, _, _, _, _ => by have := x.sz_pos; omega
  | N + 1, x, h, hN, l, L, H, bl, bL, bH => by
    have hsz := x.sz_eq
    have hll := x.len_lt
    obtain ⟨L1, hL1, e1⟩ := levs119 ext h187 h196 h188 x (by omega) l (inL H) L bL
    obtain ⟨s0, p1, p2, p3, p4, p5, e2⟩ := mid119 ext h177 h189 h188 x L1 H l (by omega) (by omega)
    have hloop := loop_inv x.l (fun k s => SC ext (bx l) x k s) (fun k s => s.l = (x.l.take k).foldl nms (nm1 l x) ∧ (s.g = false → l = [] ∨ s.l = l) ∧ (s.g = true → l ≠ [] ∧ s.l ≠ []) ∧ s.L.2.length ≤ L1.2.length + ((x.l.take k).map Tm.sz).sum ∧ s.H.2.length ≤ H.2.length + 1 + ((x.l.take k).map Tm.sz).sum)
      (fun o => ∃ s : Cs, s.l = nms l x ∧ chg' l s.l s.g ∧ s.L.2.length ≤ L.2.length + x.sz ∧ s.H.2.length ≤ H.2.length + x.sz ∧ o = some (.ret [dV (inL s.L), nRet s.g s.l, dV (inL s.H)] (nOut s.g s.l))) (by omega)
      (fun k y s hI hk hlt => by
        obtain ⟨i1, i2, i3, i4, i5⟩ := hI
        have hsum := sum_take_le Tm.sz x.l k y hk
        have hys := Tm.sz_lt (List.mem_of_getElem? hk)
        have f1 := fold_len (x.l.take k) (nm1 l x) (fun y hy => nms_len y.sz y (Nat.le_refl _))
        have f2 := nm1_len l x
        rw [← i1] at f1
        obtain ⟨t, q1, q2, q3, q4, q5⟩ := col119 hx h177 h187 h188 h189 h196 N y (by omega) (by omega) s.l s.L s.H (by omega) (by omega) (by omega)
        have tk : ((x.l.take (k + 1)).map Tm.sz).sum = ((x.l.take k).map Tm.sz).sum + y.sz := by rw [List.take_add_one, hk]; simp
        refine ⟨⟨s.g || (t.g && !l.isEmpty), t.L, t.l, t.H⟩, ⟨?_, ?_, ?_, ?_, ?_⟩, step119 ext l x y k s ⟨s.g || (t.g && !l.isEmpty), t.L, t.l, t.H⟩ hk hlt i2 i3 t.g q1 q2 rfl q5⟩
        · dsimp only; rw [q1, i1, take_fold _ hk]
        · intro hg
          dsimp only at hg ⊢
          cases l with
          | nil => exact .inl rfl
          | cons a r =>
            have hb : (!(a :: r).isEmpty) = true := rfl
            rw [hb, Bool.and_true, Bool.or_eq_false_iff] at hg
            rcases i2 hg.1 with h | h
            · cases h
            · rcases q2.1 hg.2 with h' | h'
              · rw [h] at h'; cases h'
              · exact .inr (by rw [h', h])
        · intro hg
          dsimp only at hg ⊢
          cases l with
          | nil =>
            have hb : (!([] : List ByteArray).isEmpty) = false := rfl
            rw [hb, Bool.and_false, Bool.or_false] at hg
            exact absurd rfl (i3 hg).1
          | cons a r =>
            have hb : (!(a :: r).isEmpty) = true := rfl
            rw [hb, Bool.and_true] at hg
            refine ⟨by simp, ?_⟩
            rw [q1]
            refine nms_ne y.sz y (Nat.le_refl _) _ ?_
            cases hgs : s.g with
            | true => exact (i3 hgs).2
            | false =>
              rcases i2 hgs with h | h
              · cases h
              · rw [h]; simp
        · dsimp only; omega
        · dsimp only; omega) (fun s hI => by
        obtain ⟨i1, i2, i3, i4, i5⟩ := hI
        rw [List.take_length] at i1 i4 i5
        exact ⟨s, by rw [i1, nms_eq], ⟨i2, i3⟩, by omega, by omega, done119 ext l x s i2 i3⟩) s0 ⟨by rw [p1]; rfl, p2, p3, by rw [p4]; simp, by simp; omega⟩
    obtain ⟨s, q1, q2, q3, q4, q5⟩ := hloop
    exact ⟨s, q1, q2, q3, q4, en119 ext hx x (inL L) (inL H) l _ (by rw [e1, e2]; exact q5)⟩
theorem names77 (hx : ext 77 = none) (h119 : ext 119 = none) (h177 : ext 177 = none) (h187 : ext 187 = none) (h188 : ext 188 = none) (h189 : ext 189 = none) (h196 : ext 196 = none) (x : Tm) (hs : x.sz < 2 ^ 24) :
    run Tryz.prog ext (.call 77 [tmV x] []) = some (.ret [dV (listD true 1 ((nms [] x).map stD))] []) := by
  obtain ⟨⟨g, L, l, H⟩, q1, q2, _, _, q5⟩ := col119 ext h119 h177 h187 h188 h189 h196 x.sz x (Nat.le_refl _) hs [] (true, []) (true, []) (by simp; omega) (by simp; omega) (by simp; omega)
  dsimp only at q1 q2 q5
  have hg : g = false := by cases g with | false => rfl | true => exact absurd rfl (q2.2 rfl).1
  subst hg
  rw [q1] at q5
  have ei : inL (true, []) = .v (.slice none 0 0) := rfl
  rw [ei] at q5
  cases e : nms [] x with
  | nil =>
    rw [e] at q5
    have hC := fun slot => c119A (run Tryz.prog ext) x _ _ (inL L) (inL H) slot q5
    (rw [run_eq]; simp only [stepA, hx, Tryz.func77, Tryz.f77, show retF 77 = false from rfl]; simp only [List.length_cons, List.length_nil, Nat.reduceAdd, Nat.reduceLeDiff, Nat.zero_le, ↓reduceIte, List.zipIdx_cons, List.zipIdx_nil, List.map_cons, List.map_nil])
    simp only [tmV, tmC, dV, List.map_nil, listD_n1, nV_nil, nArg_nil] at hC ⊢
    simp only [zS, nilEq, wantedA, opA, eff, boxA, cells, ev, gt, pt, putO, updO, setO, okC, loadA, cutC, fieldAddrA, fieldA, indexAddrA, indexA, builtinA, callOpA, callV, target, ptrV, lenS, binA, intOp, strOp, unA, num, lk, over, allocA, pickA, buildA, fillA, convertA, extractA, ofComp, nilCheckA, makeFuncA, ptrs, ofValue, cellB, Nat.reduceAdd, Nat.reduceSub, Nat.reduceMul, Nat.reduceLT, Nat.reduceLeDiff, Nat.reduceGT, ↓reduceIte, Nat.reduceEqDiff, Nat.reduceBEq, reduceCtorEq, Int.reduceBEq, Int.reduceBNe, Int.reduceLT, Int.reduceLE, Int.reduceGT, Int.reduceGE, aggT_33, sizeT_33, bytesT_33, fieldT_33_0, fieldT_33_1, fieldT_33_2, fieldT_33_3, fieldT_33_4, placesT_33, zeroT_33, aggT_43, sizeT_43, bytesT_43, und_43, elemT_43, isSliceT_43, zero1_43, zeroT_43, aggT_52, sizeT_52, bytesT_52, und_52, elemT_52, isSliceT_52, zero1_52, zeroT_52, hC]
    (refine Eq.trans ?_ rfl; kernel_rfl)
  | cons b q =>
    rw [e] at q5
    have hC := fun slot => c119B (run Tryz.prog ext) x _ _ (inL L) (inL H) slot b q q5
    (rw [run_eq]; simp only [stepA, hx, Tryz.func77, Tryz.f77, show retF 77 = false from rfl]; simp only [List.length_cons, List.length_nil, Nat.reduceAdd, Nat.reduceLeDiff, Nat.zero_le, ↓reduceIte, List.zipIdx_cons, List.zipIdx_nil, List.map_cons, List.map_nil])
    simp only [tmV, tmC, dV, List.map_cons, listD_t1, nV_nil, nArg_nil] at hC ⊢
    simp only [zS, nilEq, wantedA, opA, eff, boxA, cells, ev, gt, pt, putO, updO, setO, okC, loadA, cutC, fieldAddrA, fieldA, indexAddrA, indexA, builtinA, callOpA, callV, target, ptrV, lenS, binA, intOp, strOp, unA, num, lk, over, allocA, pickA, buildA, fillA, convertA, extractA, ofComp, nilCheckA, makeFuncA, ptrs, ofValue, cellB, Nat.reduceAdd, Nat.reduceSub, Nat.reduceMul, Nat.reduceLT, Nat.reduceLeDiff, Nat.reduceGT, ↓reduceIte, Nat.reduceEqDiff, Nat.reduceBEq, reduceCtorEq, Int.reduceBEq, Int.reduceBNe, Int.reduceLT, Int.reduceLE, Int.reduceGT, Int.reduceGE, aggT_33, sizeT_33, bytesT_33, fieldT_33_0, fieldT_33_1, fieldT_33_2, fieldT_33_3, fieldT_33_4, placesT_33, zeroT_33, aggT_43, sizeT_43, bytesT_43, und_43, elemT_43, isSliceT_43, zero1_43, zeroT_43, aggT_52, sizeT_52, bytesT_52, und_52, elemT_52, isSliceT_52, zero1_52, zeroT_52, hC]
    (refine Eq.trans ?_ rfl; kernel_rfl)
end Go.Proofs.YteenjodhmppgjaaGreatDoor.Am
end
section
/- Maps of numbers that were seen; slices of truths. -/
namespace Go.Proofs.YteenjodhmppgjaaGreatDoor.Am
open Go
set_option maxHeartbeats 8000000
set_option maxRecDepth 4000
def entsFrom : Nat → List Int → List MapEntry
  | _, [] => []
  | k, n :: S => ⟨.int .i64 n, .bool true, k⟩ :: entsFrom (k + 1) S
theorem entsFrom_snoc : ∀ (S : List Int) (k : Nat) (n : Int), entsFrom k (S ++ [n]) = entsFrom k S ++ [⟨.int .i64 n, .bool true, k + S.length⟩]
  | [], k, n => rfl
  | a :: S, k, n => by
    have := entsFrom_snoc S (k + 1) n
    simp only [List.cons_append, entsFrom, this, List.length_cons]
    have e : k + 1 + S.length = k + (S.length + 1) := by omega
    rw [e]
/-- A map in which numbers are marked. -/
def seenO (S : List Int) : O := .raw (.map (entsFrom 0 S).toArray S.length)
theorem find_ents (n : Int) : ∀ (S : List Int) (k i : Nat), Instr.findNow (.int .i64) (.int .i64 n) (entsFrom k S) i = some (if S.contains n = true then some (i + (S.idxOf n), .bool true) else none)
  | [], k, i => rfl
  | a :: S, k, i => by
    simp only [entsFrom, Instr.findNow, Instr.sameNow, if_true]
    cases h : (n == a) with
    | true =>
      have e : n = a := by simpa using h
      subst e
      simp
    | false =>
      have e : ¬ n = a := by simpa using h
      have e' : ¬ a = n := fun h => e h.symm
      rw [find_ents n S (k + 1) (i + 1)]
      simp only [List.contains_cons, h, Bool.false_or]
      rw [List.idxOf_cons]
      have : (a == n) = false := by simpa using e'
      rw [this]
      simp only [cond_false]
      split
      · have : i + 1 + S.idxOf n = i + (S.idxOf n + 1) := by omega
        rw [this]
      · rfl
noncomputable def lkS (id : Nat) (n : Int) (o : Option O) : Option Eff := lookupA Tryz.prog (fun _ => o) 100 (.c (.rf true id)) (.c (.d (.v (.int .i64 n)))) false
theorem lookup_seen (look : Look) (id : Nat) (n : Int) : lookupA Tryz.prog look 100 (.c (.rf true id)) (.c (.d (.v (.int .i64 n)))) false = lkS id n (look id) := rfl
theorem key100 (n : Int) : keyA Tryz.prog 100 (.int .i64 n) = some (.int .i64, 4) := by
  simp only [keyA, und_100, und_3, isKeyB, decide_true, if_true]
theorem lkS_seen (id : Nat) (n : Int) (S : List Int) : lkS id n (some (seenO S)) = some ⟨.val (.c (.d (.v (.bool (S.contains n))))), [], [id]⟩ := by
  simp only [lkS, lookupA, scal, key100, seenO, List.toList_toArray, find_ents, zero1_4, pairV, eff]
  cases S.contains n <;> rfl
noncomputable def upS (id : Nat) (n : Int) (o : Option O) : Option Eff := mapUpdateA Tryz.prog (fun _ => o) 100 (.c (.rf true id)) (.c (.d (.v (.int .i64 n)))) (.c (.d (.v (.bool true))))
theorem update_seen (look : Look) (id : Nat) (n : Int) : mapUpdateA Tryz.prog look 100 (.c (.rf true id)) (.c (.d (.v (.int .i64 n)))) (.c (.d (.v (.bool true)))) = upS id n (look id) := rfl
theorem upS_seen (id : Nat) (n : Int) (S : List Int) (h : S.contains n = false) : upS id n (some (seenO S)) = some ⟨.val (.c .any), [(id, seenO (S ++ [n]))], [id]⟩ := by
  simp only [upS, mapUpdateA, scal, key100, seenO, List.toList_toArray, find_ents, h, Bool.false_eq_true, if_false, entsFrom_snoc, List.push_toArray, List.length_append, List.length_cons, List.length_nil, Nat.zero_add]
theorem lk_seen (S : List Int) : lk.match_1 (fun _ => Option O) (some (seenO S)) (fun _ => none) (fun x => x) = some (seenO S) := rfl
noncomputable def slS (slot id : Nat) (o : Option O) : Option Eff := sliceA Tryz.prog (fun _ => o) slot 43 (.c (.own id)) (some (.c (.d (.v (.int .i64 1))))) none none
theorem slice_tail (look : Look) (slot id : Nat) : sliceA Tryz.prog look slot 43 (.c (.own id)) (some (.c (.d (.v (.int .i64 1))))) none none = slS slot id (look id) := by
  simp only [slS, sliceA]
theorem slS_cons (slot id : Nat) (a : List D) (r : List (List D)) : slS slot id (some (.arr 1 (a :: r))) = some ⟨.val (.c (.own slot)), [(id, .gone), (slot, .arr 1 r)], [id]⟩ := by
  have h : (1 : Int) ≤ (r.length : Int) + 1 := by omega
  simp [slS, sliceA, und_43, sizeT_3, bound, num, h]
/-- Truths. -/
def boD (b : Bool) : List D := [.v (.bool b)]
theorem boD_eq (b : Bool) : boD b = [.v (.bool b)] := rfl
theorem mk102 (slot n : Nat) (h : n ≤ 1000000000) : makeSliceA Tryz.prog slot 102 (.c (.d (.v (.int .i64 n)))) (.c (.d (.v (.int .i64 n)))) = some ⟨.val (.c (.own slot)), [(slot, .arr 1 ((List.replicate n false).map boD))], []⟩ := by
  simp only [makeSliceA, elemT_102, sizeT_4, bytesT_4, zeroT_4, num, toDs, toD, List.append_nil]
  rw [if_pos]
  · simp [boD]
  · exact ⟨by omega, by omega, by omega, by omega, by decide, rfl⟩
theorem bsTm3 {look : Look} {slot : Nat} {a1 b1 a2 b2 a3 b3 : Int} {s1 s2 s3 : ByteArray} {x1 y1 x2 y2 x3 y3 : D} :
    buildSliceA Tryz.prog look slot 31 3 [(0, .agg [.d (.v (.int .i64 a1)), .d (.v (.int .i64 b1)), .d (.v (.string s1)), .d x1, .d y1]), (1, .agg [.d (.v (.int .i64 a2)), .d (.v (.int .i64 b2)), .d (.v (.string s2)), .d x2, .d y2]), (2, .agg [.d (.v (.int .i64 a3)), .d (.v (.int .i64 b3)), .d (.v (.string s3)), .d x3, .d y3])] =
      some ⟨.val (.c (.own slot)), [(slot, .arr 5 [[.v (.int .i64 a1), .v (.int .i64 b1), .v (.string s1), x1, y1], [.v (.int .i64 a2), .v (.int .i64 b2), .v (.string s2), x2, y2], [.v (.int .i64 a3), .v (.int .i64 b3), .v (.string s3), x3, y3]])], []⟩ := by
  simp only [buildSliceA, elemT_31, sizeT_33, List.map_cons, List.map_nil, toDss, cells, List.all_cons, List.all_nil, okC, Bool.and_self, if_true, toDs, toD, List.append_nil]
  rw [if_pos]
  · rfl
  · exact ⟨rfl, by decide, by decide, rfl, i31⟩
end Go.Proofs.YteenjodhmppgjaaGreatDoor.Am
end
section
/- Uses, by the program. -/
namespace Go.Proofs.YteenjodhmppgjaaGreatDoor.Am
open Go
variable (ext : Ext)
set_option maxHeartbeats 8000000
set_option maxRecDepth 4000
noncomputable def B25 : Code := (Tryz.f25.body.getD .skip)
noncomputable def L25a : Code := sub B25 [1, 1, 1, 1, 0, 1, 0, 0]
noncomputable def K25a : List It := [.inBlock 0, .code (sub B25 [1, 1, 1, 1, 1])]
noncomputable def H25a (ext : Ext) (m : Nat) (env : Env) (loc : List O) : Option Out := run Tryz.prog ext (.k ⟨118, m, [.tmp 4, .tmp 5], false⟩ (.code L25a :: .inLoop L25a :: K25a) env loc)
noncomputable def L25b : Code := sub B25 [1, 1, 1, 1, 0, 1, 0, 0, 1, 0, 1, 1, 1, 0, 1, 0, 0]
noncomputable def K25b : List It := [.inBlock 2, .code (sub B25 [1, 1, 1, 1, 0, 1, 0, 0, 1, 0, 1, 1, 1, 1]), .inBlock 1, .inLoop L25a, .inBlock 0, .code (sub B25 [1, 1, 1, 1, 1])]
noncomputable def H25b (ext : Ext) (m : Nat) (env : Env) (loc : List O) : Option Out := run Tryz.prog ext (.k ⟨118, m, [.tmp 4, .tmp 5], false⟩ (.code L25b :: .inLoop L25b :: K25b) env loc)
noncomputable def L25c : Code := sub B25 [1, 1, 1, 1, 0, 1, 0, 0, 1, 0, 1, 1, 1, 1, 1, 0, 0]
noncomputable def K25c : List It := [.inBlock 4, .inBlock 1, .inLoop L25a, .inBlock 0, .code (sub B25 [1, 1, 1, 1, 1])]
noncomputable def H25c (ext : Ext) (m : Nat) (env : Env) (loc : List O) : Option Out := run Tryz.prog ext (.k ⟨118, m, [.tmp 4, .tmp 5], false⟩ (.code L25c :: .inLoop L25c :: K25c) env loc)
noncomputable def L25d : Code := sub B25 [1, 1, 1, 1, 0, 1, 0, 0, 1, 0, 1, 1, 1, 1, 1, 0, 0, 1, 1, 0, 0, 1, 1, 0, 0]
noncomputable def K25d : List It := [.inBlock 6, .inBlock 5, .code (sub B25 [1, 1, 1, 1, 0, 1, 0, 0, 1, 0, 1, 1, 1, 1, 1, 0, 0, 1, 1, 1]), .inLoop L25c, .inBlock 4, .inBlock 1, .inLoop L25a, .inBlock 0, .code (sub B25 [1, 1, 1, 1, 1])]
noncomputable def H25d (ext : Ext) (m : Nat) (env : Env) (loc : List O) : Option Out := run Tryz.prog ext (.k ⟨118, m, [.tmp 4, .tmp 5], false⟩ (.code L25d :: .inLoop L25d :: K25d) env loc)
noncomputable def L25e : Code := sub B25 [1, 1, 1, 1, 1, 1, 0, 1, 0, 0]
noncomputable def K25e : List It := [.inBlock 8, .code (sub B25 [1, 1, 1, 1, 1, 1, 1])]
noncomputable def H25e (ext : Ext) (m : Nat) (env : Env) (loc : List O) : Option Out := run Tryz.prog ext (.k ⟨118, m, [.tmp 4, .tmp 5], false⟩ (.code L25e :: .inLoop L25e :: K25e) env loc)
def parts (d : Dc) : List Tm := [d.type, d.body, d.param] ++ d.cons.map Con.arg
def pushN (x : Tb) (st : List Int × List Int) (n : ByteArray) : List Int × List Int := if 0 ≤ find x n ∧ st.1.contains (find x n) = false then (st.1 ++ [find x n], st.2 ++ [find x n]) else st
def O25 (x : Tb) (st : List Int × List Int) : List O := [.box [.d x.d], seenO st.1, .arr 1 (st.2.map inD)]
def O25p (x : Tb) (st : List Int × List Int) (ps : List Tm) : List O := [.box [.d x.d], seenO st.1, .arr 1 (st.2.map inD), .arr 5 (ps.map tmD)]
def E25a (f : Int) : Env := [(2, .c (.ptr 0 0)), (6, iV f), (7, .c (.rf true 1)), (8, .c (.own 2))]
def E25b (f : Int) (d : Dc) (k : Int) : Env := [(2, .c (.ptr 0 0)), (6, iV f), (7, .c (.rf true 1)), (8, .c (.own 2)), (10, .c (.own 3)), (51, dV d.d), (52, iV d.cons.length), (53, iV k)]
def E25c (f : Int) (n : Nat) (k : Int) : Env := [(2, .c (.ptr 0 0)), (6, iV f), (7, .c (.rf true 1)), (8, .c (.own 2)), (63, .c (.own 3)), (64, iV n), (65, iV k)]
def E25d (f : Int) (n : Nat) (k : Int) (ns : List ByteArray) (j : Int) : Env := [(2, .c (.ptr 0 0)), (6, iV f), (7, .c (.rf true 1)), (8, .c (.own 2)), (63, .c (.own 3)), (64, iV n), (65, iV k), (70, dV (listD true 1 (ns.map stD))), (71, iV ns.length), (72, iV j)]
def E25e (x : Tb) (f : Int) (ls : List ByteArray) (k : Int) : Env := [(6, iV f), (7, .c (.rf true 0)), (18, mkV 1 (ls.map stD)), (96, dV x.d), (97, iV x.ds.length), (98, iV k)]
def O25e (S : List Int) (ls : List ByteArray) : List O := seenO S :: mkO 1 (ls.map stD)
theorem bad25 (hx : ext 25 = none) (x : Tb) (s : ByteArray) (f : Int) (hf : f < 0) (hr : run Tryz.prog ext (.call 22 [tbV x, sV s] []) = some (.ret [iV f] [])) : run Tryz.prog ext (.call 25 [tbV x, sV s] []) = some (.ret [dV nilD, iV 3] []) := by
  (rw [run_eq]; simp only [stepA, hx, Tryz.func25, Tryz.f25, show retF 25 = false from rfl]; simp only [List.length_cons, List.length_nil, Nat.reduceAdd, Nat.reduceLeDiff, Nat.zero_le, ↓reduceIte, List.zipIdx_cons, List.zipIdx_nil, List.map_cons, List.map_nil])
  simp only [tbV, tbC, sV, iV, dV, nilD] at hr ⊢
  simp only [zS, nilEq, wantedA, opA, eff, boxA, cells, ev, gt, pt, putO, updO, setO, okC, loadA, cutC, fieldAddrA, fieldA, indexAddrA, indexA, builtinA, callOpA, callV, target, ptrV, lenS, binA, intOp, strOp, unA, num, lk, over, allocA, pickA, buildA, fillA, convertA, extractA, ofComp, nilCheckA, makeFuncA, ptrs, ofValue, cellB, Nat.reduceAdd, Nat.reduceSub, Nat.reduceMul, Nat.reduceLT, Nat.reduceLeDiff, Nat.reduceGT, ↓reduceIte, Nat.reduceEqDiff, Nat.reduceBEq, reduceCtorEq, Int.reduceBEq, Int.reduceBNe, Int.reduceLT, Int.reduceLE, Int.reduceGT, Int.reduceGE, aggT_24, sizeT_24, bytesT_24, fieldT_24_0, placesT_24, zeroT_24, aggT_9, sizeT_9, bytesT_9, und_9, zero1_9, zeroT_9, aggT_3, sizeT_3, bytesT_3, und_3, zero1_3, zeroT_3, aggT_52, sizeT_52, bytesT_52, und_52, elemT_52, isSliceT_52, zero1_52, zeroT_52, hr, hf]
  (refine Eq.trans ?_ rfl; kernel_rfl)
theorem enter25 (hx : ext 25 = none) (x : Tb) (s : ByteArray) (f : Int) (hf : ¬ f < 0) (hr : run Tryz.prog ext (.call 22 [tbV x, sV s] []) = some (.ret [iV f] [])) (out : Option Out) (h : H25a ext 0 (E25a f) (O25 x ([f], [f])) = out) : run Tryz.prog ext (.call 25 [tbV x, sV s] []) = out := by
  have hu : ∀ id, upS id f (some (.raw (.map #[] 0))) = some ⟨.val (.c .any), [(id, seenO [f])], [id]⟩ := fun id => upS_seen id f [] rfl
  unfold H25a at h
  (rw [run_eq]; simp only [stepA, hx, Tryz.func25, Tryz.f25, show retF 25 = false from rfl]; simp only [List.length_cons, List.length_nil, Nat.reduceAdd, Nat.reduceLeDiff, Nat.zero_le, ↓reduceIte, List.zipIdx_cons, List.zipIdx_nil, List.map_cons, List.map_nil])
  simp only [tbV, tbC, sV, iV, E25a, O25, List.map_cons, List.map_nil, inD_eq] at hr h ⊢
  simp only [zS, nilEq, wantedA, opA, eff, boxA, cells, ev, gt, pt, putO, updO, setO, okC, loadA, cutC, fieldAddrA, fieldA, indexAddrA, indexA, builtinA, callOpA, callV, target, ptrV, lenS, binA, intOp, strOp, unA, num, lk, over, allocA, pickA, buildA, fillA, convertA, extractA, ofComp, nilCheckA, makeFuncA, ptrs, ofValue, cellB, Nat.reduceAdd, Nat.reduceSub, Nat.reduceMul, Nat.reduceLT, Nat.reduceLeDiff, Nat.reduceGT, ↓reduceIte, Nat.reduceEqDiff, Nat.reduceBEq, reduceCtorEq, Int.reduceBEq, Int.reduceBNe, Int.reduceLT, Int.reduceLE, Int.reduceGT, Int.reduceGE, aggT_24, sizeT_24, bytesT_24, fieldT_24_0, placesT_24, zeroT_24, aggT_9, sizeT_9, bytesT_9, und_9, zero1_9, zeroT_9, aggT_3, sizeT_3, bytesT_3, und_3, zero1_3, zeroT_3, aggT_43, sizeT_43, bytesT_43, und_43, elemT_43, isSliceT_43, zero1_43, zeroT_43, aggT_100, sizeT_100, bytesT_100, und_100, zero1_100, zeroT_100, hr, hf, makeMapA, update_seen, hu, bsIn]
  (refine (r_inLoop_some ?_).trans h; kernel_rfl)
theorem stepA25 (x : Tb) (d : Dc) (f : Int) (S : List Int) (t : Nat) (T : List Int) (hk : x.ds[t]? = some d) (hl : (t : Int) < x.ds.length) (out : Option Out) (h : H25b ext 0 (E25b f d 0) (O25p x (S, T) [d.type, d.body, d.param]) = out) :
    H25a ext 0 (E25a f) (O25 x (S, (t : Int) :: T)) = out := by
  have h0 : (0 : Int) ≤ t := by omega
  have k1 : (((T.map inD).length + 1 : Nat) : Int) > 0 := by omega
  have k1' : ((T.length + 1 : Nat) : Int) > 0 := by omega
  unfold H25b at h
  unfold H25a
  simp only [dV, iV, E25a, E25b, O25, O25p, List.map_cons, List.map_nil, inD_eq, dsD_lt h0 hl, tmD_eq] at h ⊢
  (rw [show (It.code L25a) = It.code (sub B25 [1, 1, 1, 1, 0, 1, 0, 0]) from rfl]; simp only [B25, K25a, sub, Option.getD_some, Tryz.f25, ↓reduceIte, Nat.one_ne_zero])
  simp only [zS, nilEq, wantedA, opA, eff, boxA, cells, ev, gt, pt, putO, updO, setO, okC, loadA, cutC, fieldAddrA, fieldA, indexAddrA, indexA, builtinA, callOpA, callV, target, ptrV, lenS, binA, intOp, strOp, unA, num, lk, over, allocA, pickA, buildA, fillA, convertA, extractA, ofComp, nilCheckA, makeFuncA, ptrs, ofValue, cellB, Nat.reduceAdd, Nat.reduceSub, Nat.reduceMul, Nat.reduceLT, Nat.reduceLeDiff, Nat.reduceGT, ↓reduceIte, Nat.reduceEqDiff, Nat.reduceBEq, reduceCtorEq, Int.reduceBEq, Int.reduceBNe, Int.reduceLT, Int.reduceLE, Int.reduceGT, Int.reduceGE, aggT_24, sizeT_24, bytesT_24, fieldT_24_0, placesT_24, zeroT_24, aggT_22, sizeT_22, bytesT_22, und_22, elemT_22, isSliceT_22, zero1_22, zeroT_22, aggT_39, sizeT_39, bytesT_39, fieldT_39_0, fieldT_39_1, fieldT_39_2, fieldT_39_3, fieldT_39_4, fieldT_39_5, fieldT_39_6, fieldT_39_7, fieldT_39_8, placesT_39, zeroT_39, aggT_37, sizeT_37, bytesT_37, und_37, elemT_37, isSliceT_37, zero1_37, zeroT_37, aggT_33, sizeT_33, bytesT_33, fieldT_33_0, fieldT_33_1, fieldT_33_2, fieldT_33_3, fieldT_33_4, placesT_33, zeroT_33, aggT_31, sizeT_31, bytesT_31, und_31, elemT_31, isSliceT_31, zero1_31, zeroT_31, aggT_9, sizeT_9, bytesT_9, und_9, zero1_9, zeroT_9, aggT_3, sizeT_3, bytesT_3, und_3, zero1_3, zeroT_3, aggT_43, sizeT_43, bytesT_43, und_43, elemT_43, isSliceT_43, zero1_43, zeroT_43, aggT_100, sizeT_100, bytesT_100, und_100, zero1_100, zeroT_100, drawA, holes_succ, holes_zero, Array.size, List.length, h0, hl, k1, k1', Int.toNat_natCast, hk, dcD_eq d, Int.toNat_zero]
  rw [afterDraw_some _ _ _ _ (by kernel_rfl)]
  simp only [zS, nilEq, wantedA, opA, eff, boxA, cells, ev, gt, pt, putO, updO, setO, okC, loadA, cutC, fieldAddrA, fieldA, indexAddrA, indexA, builtinA, callOpA, callV, target, ptrV, lenS, binA, intOp, strOp, unA, num, lk, over, allocA, pickA, buildA, fillA, convertA, extractA, ofComp, nilCheckA, makeFuncA, ptrs, ofValue, cellB, Nat.reduceAdd, Nat.reduceSub, Nat.reduceMul, Nat.reduceLT, Nat.reduceLeDiff, Nat.reduceGT, ↓reduceIte, Nat.reduceEqDiff, Nat.reduceBEq, reduceCtorEq, Int.reduceBEq, Int.reduceBNe, Int.reduceLT, Int.reduceLE, Int.reduceGT, Int.reduceGE, aggT_24, sizeT_24, bytesT_24, fieldT_24_0, placesT_24, zeroT_24, aggT_22, sizeT_22, bytesT_22, und_22, elemT_22, isSliceT_22, zero1_22, zeroT_22, aggT_39, sizeT_39, bytesT_39, fieldT_39_0, fieldT_39_1, fieldT_39_2, fieldT_39_3, fieldT_39_4, fieldT_39_5, fieldT_39_6, fieldT_39_7, fieldT_39_8, placesT_39, zeroT_39, aggT_37, sizeT_37, bytesT_37, und_37, elemT_37, isSliceT_37, zero1_37, zeroT_37, aggT_33, sizeT_33, bytesT_33, fieldT_33_0, fieldT_33_1, fieldT_33_2, fieldT_33_3, fieldT_33_4, placesT_33, zeroT_33, aggT_31, sizeT_31, bytesT_31, und_31, elemT_31, isSliceT_31, zero1_31, zeroT_31, aggT_9, sizeT_9, bytesT_9, und_9, zero1_9, zeroT_9, aggT_3, sizeT_3, bytesT_3, und_3, zero1_3, zeroT_3, aggT_43, sizeT_43, bytesT_43, und_43, elemT_43, isSliceT_43, zero1_43, zeroT_43, aggT_100, sizeT_100, bytesT_100, und_100, zero1_100, zeroT_100, slice_tail, slS_cons, lenA_cd, bsTm3]
  (refine (r_inLoop_some ?_).trans h; kernel_rfl)
theorem stepB25 (x : Tb) (d : Dc) (c : Con) (f : Int) (st : List Int × List Int) (p : Tm) (ps : List Tm) (hb : ps.length < 2 ^ 29) (k : Nat) (hk : d.cons[k]? = some c) (hl : (k : Int) < d.cons.length) (out : Option Out)
    (h : H25b ext 0 (E25b f d (wr ((k : Int) + 1))) (O25p x st (p :: ps ++ [c.arg])) = out) : H25b ext 0 (E25b f d k) (O25p x st (p :: ps)) = out := by
  have h0 : (0 : Int) ≤ k := by omega
  have hb' : ps.length + 1 ≤ 1000000000 := by omega
  unfold H25b at h ⊢
  simp only [dV, iV, E25b, O25p, consD_lt hl, List.map_append, List.map_cons, List.map_nil, List.cons_append, tmD_eq c.arg] at h ⊢
  (rw [show (It.code L25b) = It.code (sub B25 [1, 1, 1, 1, 0, 1, 0, 0, 1, 0, 1, 1, 1, 0, 1, 0, 0]) from rfl]; simp only [B25, K25b, sub, Option.getD_some, Tryz.f25, ↓reduceIte, Nat.one_ne_zero])
  simp only [zS, nilEq, wantedA, opA, eff, boxA, cells, ev, gt, pt, putO, updO, setO, okC, loadA, cutC, fieldAddrA, fieldA, indexAddrA, indexA, builtinA, callOpA, callV, target, ptrV, lenS, binA, intOp, strOp, unA, num, lk, over, allocA, pickA, buildA, fillA, convertA, extractA, ofComp, nilCheckA, makeFuncA, ptrs, ofValue, cellB, Nat.reduceAdd, Nat.reduceSub, Nat.reduceMul, Nat.reduceLT, Nat.reduceLeDiff, Nat.reduceGT, ↓reduceIte, Nat.reduceEqDiff, Nat.reduceBEq, reduceCtorEq, Int.reduceBEq, Int.reduceBNe, Int.reduceLT, Int.reduceLE, Int.reduceGT, Int.reduceGE, aggT_24, sizeT_24, bytesT_24, fieldT_24_0, placesT_24, zeroT_24, aggT_22, sizeT_22, bytesT_22, und_22, elemT_22, isSliceT_22, zero1_22, zeroT_22, aggT_39, sizeT_39, bytesT_39, fieldT_39_0, fieldT_39_1, fieldT_39_2, fieldT_39_3, fieldT_39_4, fieldT_39_5, fieldT_39_6, fieldT_39_7, fieldT_39_8, placesT_39, zeroT_39, aggT_37, sizeT_37, bytesT_37, und_37, elemT_37, isSliceT_37, zero1_37, zeroT_37, aggT_98, sizeT_98, bytesT_98, fieldT_98_0, fieldT_98_1, placesT_98, zeroT_98, aggT_33, sizeT_33, bytesT_33, fieldT_33_0, fieldT_33_1, fieldT_33_2, fieldT_33_3, fieldT_33_4, placesT_33, zeroT_33, aggT_31, sizeT_31, bytesT_31, und_31, elemT_31, isSliceT_31, zero1_31, zeroT_31, aggT_9, sizeT_9, bytesT_9, und_9, zero1_9, zeroT_9, aggT_3, sizeT_3, bytesT_3, und_3, zero1_3, zeroT_3, aggT_43, sizeT_43, bytesT_43, und_43, elemT_43, isSliceT_43, zero1_43, zeroT_43, aggT_100, sizeT_100, bytesT_100, und_100, zero1_100, zeroT_100, h0, hl, Int.toNat_natCast, hk, conD_eq c, bsTm, oo31, apG_arr, hb']
  (refine (r_inLoop_some ?_).trans h; kernel_rfl)
theorem doneB25 (x : Tb) (d : Dc) (f : Int) (st : List Int × List Int) (ps : List Tm) (out : Option Out) (h : H25c ext 0 (E25c f ps.length 0) (O25p x st ps) = out) : H25b ext 0 (E25b f d d.cons.length) (O25p x st ps) = out := by
  unfold H25c at h
  unfold H25b
  simp only [dV, iV, E25b, E25c, O25p] at h ⊢
  (rw [show (It.code L25b) = It.code (sub B25 [1, 1, 1, 1, 0, 1, 0, 0, 1, 0, 1, 1, 1, 0, 1, 0, 0]) from rfl]; simp only [B25, K25b, sub, Option.getD_some, Tryz.f25, ↓reduceIte, Nat.one_ne_zero])
  simp only [zS, nilEq, wantedA, opA, eff, boxA, cells, ev, gt, pt, putO, updO, setO, okC, loadA, cutC, fieldAddrA, fieldA, indexAddrA, indexA, builtinA, callOpA, callV, target, ptrV, lenS, binA, intOp, strOp, unA, num, lk, over, allocA, pickA, buildA, fillA, convertA, extractA, ofComp, nilCheckA, makeFuncA, ptrs, ofValue, cellB, Nat.reduceAdd, Nat.reduceSub, Nat.reduceMul, Nat.reduceLT, Nat.reduceLeDiff, Nat.reduceGT, ↓reduceIte, Nat.reduceEqDiff, Nat.reduceBEq, reduceCtorEq, Int.reduceBEq, Int.reduceBNe, Int.reduceLT, Int.reduceLE, Int.reduceGT, Int.reduceGE, aggT_24, sizeT_24, bytesT_24, fieldT_24_0, placesT_24, zeroT_24, aggT_22, sizeT_22, bytesT_22, und_22, elemT_22, isSliceT_22, zero1_22, zeroT_22, aggT_39, sizeT_39, bytesT_39, fieldT_39_0, fieldT_39_1, fieldT_39_2, fieldT_39_3, fieldT_39_4, fieldT_39_5, fieldT_39_6, fieldT_39_7, fieldT_39_8, placesT_39, zeroT_39, aggT_37, sizeT_37, bytesT_37, und_37, elemT_37, isSliceT_37, zero1_37, zeroT_37, aggT_98, sizeT_98, bytesT_98, fieldT_98_0, fieldT_98_1, placesT_98, zeroT_98, aggT_33, sizeT_33, bytesT_33, fieldT_33_0, fieldT_33_1, fieldT_33_2, fieldT_33_3, fieldT_33_4, placesT_33, zeroT_33, aggT_31, sizeT_31, bytesT_31, und_31, elemT_31, isSliceT_31, zero1_31, zeroT_31, aggT_9, sizeT_9, bytesT_9, und_9, zero1_9, zeroT_9, aggT_3, sizeT_3, bytesT_3, und_3, zero1_3, zeroT_3, aggT_43, sizeT_43, bytesT_43, und_43, elemT_43, isSliceT_43, zero1_43, zeroT_43, aggT_100, sizeT_100, bytesT_100, und_100, zero1_100, zeroT_100, Int.lt_irrefl]
  (refine (r_inLoop_some ?_).trans h; kernel_rfl)
theorem stepC25 (x : Tb) (f : Int) (st : List Int × List Int) (ps : List Tm) (p : Tm) (ns : List ByteArray) (k : Nat) (hk : ps[k]? = some p) (hl : (k : Int) < ps.length) (hr : run Tryz.prog ext (.call 75 [tmV p] []) = some (.ret [dV (listD true 1 (ns.map stD))] [])) (out : Option Out)
    (h : H25d ext 0 (E25d f ps.length k ns 0) (O25p x st ps) = out) : H25c ext 0 (E25c f ps.length k) (O25p x st ps) = out := by
  have h0 : (0 : Int) ≤ k := by omega
  unfold H25d at h
  unfold H25c
  simp only [tmV, tmC, dV, iV, E25c, E25d, O25p] at h hr ⊢
  (rw [show (It.code L25c) = It.code (sub B25 [1, 1, 1, 1, 0, 1, 0, 0, 1, 0, 1, 1, 1, 1, 1, 0, 0]) from rfl]; simp only [B25, K25c, sub, Option.getD_some, Tryz.f25, ↓reduceIte, Nat.one_ne_zero])
  simp only [zS, nilEq, wantedA, opA, eff, boxA, cells, ev, gt, pt, putO, updO, setO, okC, loadA, cutC, fieldAddrA, fieldA, indexAddrA, indexA, builtinA, callOpA, callV, target, ptrV, lenS, binA, intOp, strOp, unA, num, lk, over, allocA, pickA, buildA, fillA, convertA, extractA, ofComp, nilCheckA, makeFuncA, ptrs, ofValue, cellB, Nat.reduceAdd, Nat.reduceSub, Nat.reduceMul, Nat.reduceLT, Nat.reduceLeDiff, Nat.reduceGT, ↓reduceIte, Nat.reduceEqDiff, Nat.reduceBEq, reduceCtorEq, Int.reduceBEq, Int.reduceBNe, Int.reduceLT, Int.reduceLE, Int.reduceGT, Int.reduceGE, aggT_24, sizeT_24, bytesT_24, fieldT_24_0, placesT_24, zeroT_24, aggT_33, sizeT_33, bytesT_33, fieldT_33_0, fieldT_33_1, fieldT_33_2, fieldT_33_3, fieldT_33_4, placesT_33, zeroT_33, aggT_31, sizeT_31, bytesT_31, und_31, elemT_31, isSliceT_31, zero1_31, zeroT_31, aggT_9, sizeT_9, bytesT_9, und_9, zero1_9, zeroT_9, aggT_3, sizeT_3, bytesT_3, und_3, zero1_3, zeroT_3, aggT_43, sizeT_43, bytesT_43, und_43, elemT_43, isSliceT_43, zero1_43, zeroT_43, aggT_52, sizeT_52, bytesT_52, und_52, elemT_52, isSliceT_52, zero1_52, zeroT_52, aggT_100, sizeT_100, bytesT_100, und_100, zero1_100, zeroT_100, h0, hl, Int.toNat_natCast, hk, tmD_eq p, hr]
  (refine (r_inLoop_some ?_).trans h; kernel_rfl)
theorem stepD25 (x : Tb) (f : Int) (st : List Int × List Int) (ps : List Tm) (k : Int) (ns : List ByteArray) (n : ByteArray) (hb : st.2.length < 2 ^ 29) (j : Nat) (hk : ns[j]? = some n) (hl : (j : Int) < ns.length) (hr : run Tryz.prog ext (.call 22 [tbV x, sV n] []) = some (.ret [iV (find x n)] [])) (out : Option Out)
    (h : H25d ext 0 (E25d f ps.length k ns (wr ((j : Int) + 1))) (O25p x (pushN x st n) ps) = out) : H25d ext 0 (E25d f ps.length k ns j) (O25p x st ps) = out := by
  have h0 : (0 : Int) ≤ j := by omega
  have hd : listD true 1 (ns.map stD) = .s 1 (ns.map stD) := listD_of_lt h0 (by simpa using hl)
  obtain ⟨S, T⟩ := st
  unfold H25d at h ⊢
  by_cases c1 : 0 ≤ find x n
  · cases c2 : S.contains (find x n) with
    | false =>
      have hb' : T.length ≤ 1000000000 := by dsimp only at hb; omega
      have hp : pushN x (S, T) n = (S ++ [find x n], T ++ [find x n]) := by unfold pushN; rw [if_pos ⟨c1, c2⟩]
      rw [hp] at h
      have hup : ∀ id, upS id (find x n) (some (seenO S)) = some ⟨.val (.c .any), [(id, seenO (S ++ [find x n]))], [id]⟩ := fun id => upS_seen id _ S c2
      generalize find x n = i at h hr c1 c2 hup
      simp only [tbV, tbC, sV, dV, iV, E25d, O25p, hd, List.map_append, List.map_cons, List.map_nil, inD_eq i] at h hr ⊢
      (rw [show (It.code L25d) = It.code (sub B25 [1, 1, 1, 1, 0, 1, 0, 0, 1, 0, 1, 1, 1, 1, 1, 0, 0, 1, 1, 0, 0, 1, 1, 0, 0]) from rfl]; simp only [B25, K25d, sub, Option.getD_some, Tryz.f25, ↓reduceIte, Nat.one_ne_zero])
      simp only [zS, nilEq, wantedA, opA, eff, boxA, cells, ev, gt, pt, putO, updO, setO, okC, loadA, cutC, fieldAddrA, fieldA, indexAddrA, indexA, builtinA, callOpA, callV, target, ptrV, lenS, binA, intOp, strOp, unA, num, lk, over, allocA, pickA, buildA, fillA, convertA, extractA, ofComp, nilCheckA, makeFuncA, ptrs, ofValue, cellB, Nat.reduceAdd, Nat.reduceSub, Nat.reduceMul, Nat.reduceLT, Nat.reduceLeDiff, Nat.reduceGT, ↓reduceIte, Nat.reduceEqDiff, Nat.reduceBEq, reduceCtorEq, Int.reduceBEq, Int.reduceBNe, Int.reduceLT, Int.reduceLE, Int.reduceGT, Int.reduceGE, aggT_24, sizeT_24, bytesT_24, fieldT_24_0, placesT_24, zeroT_24, aggT_33, sizeT_33, bytesT_33, fieldT_33_0, fieldT_33_1, fieldT_33_2, fieldT_33_3, fieldT_33_4, placesT_33, zeroT_33, aggT_31, sizeT_31, bytesT_31, und_31, elemT_31, isSliceT_31, zero1_31, zeroT_31, aggT_9, sizeT_9, bytesT_9, und_9, zero1_9, zeroT_9, aggT_3, sizeT_3, bytesT_3, und_3, zero1_3, zeroT_3, aggT_4, sizeT_4, bytesT_4, und_4, zero1_4, zeroT_4, aggT_43, sizeT_43, bytesT_43, und_43, elemT_43, isSliceT_43, zero1_43, zeroT_43, aggT_52, sizeT_52, bytesT_52, und_52, elemT_52, isSliceT_52, zero1_52, zeroT_52, aggT_100, sizeT_100, bytesT_100, und_100, zero1_100, zeroT_100, h0, hl, Int.toNat_natCast, hk, stD, hr, ge_iff_le, c1, lk_seen, lookup_seen, lkS_seen, c2, update_seen, hup, bsIn, oo43, apG_arr, hb']
      (refine (r_inLoop_some ?_).trans h; kernel_rfl)
    | true =>
      have hp : pushN x (S, T) n = (S, T) := by unfold pushN; rw [if_neg (by rw [c2]; simp)]
      rw [hp] at h
      generalize find x n = i at h hr c1 c2
      simp only [tbV, tbC, sV, dV, iV, E25d, O25p, hd] at h hr ⊢
      (rw [show (It.code L25d) = It.code (sub B25 [1, 1, 1, 1, 0, 1, 0, 0, 1, 0, 1, 1, 1, 1, 1, 0, 0, 1, 1, 0, 0, 1, 1, 0, 0]) from rfl]; simp only [B25, K25d, sub, Option.getD_some, Tryz.f25, ↓reduceIte, Nat.one_ne_zero])
      simp only [zS, nilEq, wantedA, opA, eff, boxA, cells, ev, gt, pt, putO, updO, setO, okC, loadA, cutC, fieldAddrA, fieldA, indexAddrA, indexA, builtinA, callOpA, callV, target, ptrV, lenS, binA, intOp, strOp, unA, num, lk, over, allocA, pickA, buildA, fillA, convertA, extractA, ofComp, nilCheckA, makeFuncA, ptrs, ofValue, cellB, Nat.reduceAdd, Nat.reduceSub, Nat.reduceMul, Nat.reduceLT, Nat.reduceLeDiff, Nat.reduceGT, ↓reduceIte, Nat.reduceEqDiff, Nat.reduceBEq, reduceCtorEq, Int.reduceBEq, Int.reduceBNe, Int.reduceLT, Int.reduceLE, Int.reduceGT, Int.reduceGE, aggT_24, sizeT_24, bytesT_24, fieldT_24_0, placesT_24, zeroT_24, aggT_33, sizeT_33, bytesT_33, fieldT_33_0, fieldT_33_1, fieldT_33_2, fieldT_33_3, fieldT_33_4, placesT_33, zeroT_33, aggT_31, sizeT_31, bytesT_31, und_31, elemT_31, isSliceT_31, zero1_31, zeroT_31, aggT_9, sizeT_9, bytesT_9, und_9, zero1_9, zeroT_9, aggT_3, sizeT_3, bytesT_3, und_3, zero1_3, zeroT_3, aggT_4, sizeT_4, bytesT_4, und_4, zero1_4, zeroT_4, aggT_43, sizeT_43, bytesT_43, und_43, elemT_43, isSliceT_43, zero1_43, zeroT_43, aggT_52, sizeT_52, bytesT_52, und_52, elemT_52, isSliceT_52, zero1_52, zeroT_52, aggT_100, sizeT_100, bytesT_100, und_100, zero1_100, zeroT_100, h0, hl, Int.toNat_natCast, hk, stD, hr, ge_iff_le, c1, lk_seen, lookup_seen, lkS_seen, c2]
      (refine (r_inLoop_some ?_).trans h; kernel_rfl)
  · have hp : pushN x (S, T) n = (S, T) := by unfold pushN; rw [if_neg (fun h => c1 h.1)]
    rw [hp] at h
    generalize find x n = i at h hr c1
    simp only [tbV, tbC, sV, dV, iV, E25d, O25p, hd] at h hr ⊢
    (rw [show (It.code L25d) = It.code (sub B25 [1, 1, 1, 1, 0, 1, 0, 0, 1, 0, 1, 1, 1, 1, 1, 0, 0, 1, 1, 0, 0, 1, 1, 0, 0]) from rfl]; simp only [B25, K25d, sub, Option.getD_some, Tryz.f25, ↓reduceIte, Nat.one_ne_zero])
    simp only [zS, nilEq, wantedA, opA, eff, boxA, cells, ev, gt, pt, putO, updO, setO, okC, loadA, cutC, fieldAddrA, fieldA, indexAddrA, indexA, builtinA, callOpA, callV, target, ptrV, lenS, binA, intOp, strOp, unA, num, lk, over, allocA, pickA, buildA, fillA, convertA, extractA, ofComp, nilCheckA, makeFuncA, ptrs, ofValue, cellB, Nat.reduceAdd, Nat.reduceSub, Nat.reduceMul, Nat.reduceLT, Nat.reduceLeDiff, Nat.reduceGT, ↓reduceIte, Nat.reduceEqDiff, Nat.reduceBEq, reduceCtorEq, Int.reduceBEq, Int.reduceBNe, Int.reduceLT, Int.reduceLE, Int.reduceGT, Int.reduceGE, aggT_24, sizeT_24, bytesT_24, fieldT_24_0, placesT_24, zeroT_24, aggT_33, sizeT_33, bytesT_33, fieldT_33_0, fieldT_33_1, fieldT_33_2, fieldT_33_3, fieldT_33_4, placesT_33, zeroT_33, aggT_31, sizeT_31, bytesT_31, und_31, elemT_31, isSliceT_31, zero1_31, zeroT_31, aggT_9, sizeT_9, bytesT_9, und_9, zero1_9, zeroT_9, aggT_3, sizeT_3, bytesT_3, und_3, zero1_3, zeroT_3, aggT_4, sizeT_4, bytesT_4, und_4, zero1_4, zeroT_4, aggT_43, sizeT_43, bytesT_43, und_43, elemT_43, isSliceT_43, zero1_43, zeroT_43, aggT_52, sizeT_52, bytesT_52, und_52, elemT_52, isSliceT_52, zero1_52, zeroT_52, aggT_100, sizeT_100, bytesT_100, und_100, zero1_100, zeroT_100, h0, hl, Int.toNat_natCast, hk, stD, hr, ge_iff_le, c1]
    (refine (r_inLoop_some ?_).trans h; kernel_rfl)
theorem doneD25 (x : Tb) (f : Int) (st : List Int × List Int) (ps : List Tm) (k : Int) (ns : List ByteArray) (out : Option Out) (h : H25c ext 0 (E25c f ps.length (wr (k + 1))) (O25p x st ps) = out) : H25d ext 0 (E25d f ps.length k ns ns.length) (O25p x st ps) = out := by
  unfold H25c at h
  unfold H25d
  simp only [dV, iV, E25c, E25d, O25p] at h ⊢
  (rw [show (It.code L25d) = It.code (sub B25 [1, 1, 1, 1, 0, 1, 0, 0, 1, 0, 1, 1, 1, 1, 1, 0, 0, 1, 1, 0, 0, 1, 1, 0, 0]) from rfl]; simp only [B25, K25d, sub, Option.getD_some, Tryz.f25, ↓reduceIte, Nat.one_ne_zero])
  simp only [zS, nilEq, wantedA, opA, eff, boxA, cells, ev, gt, pt, putO, updO, setO, okC, loadA, cutC, fieldAddrA, fieldA, indexAddrA, indexA, builtinA, callOpA, callV, target, ptrV, lenS, binA, intOp, strOp, unA, num, lk, over, allocA, pickA, buildA, fillA, convertA, extractA, ofComp, nilCheckA, makeFuncA, ptrs, ofValue, cellB, Nat.reduceAdd, Nat.reduceSub, Nat.reduceMul, Nat.reduceLT, Nat.reduceLeDiff, Nat.reduceGT, ↓reduceIte, Nat.reduceEqDiff, Nat.reduceBEq, reduceCtorEq, Int.reduceBEq, Int.reduceBNe, Int.reduceLT, Int.reduceLE, Int.reduceGT, Int.reduceGE, aggT_24, sizeT_24, bytesT_24, fieldT_24_0, placesT_24, zeroT_24, aggT_33, sizeT_33, bytesT_33, fieldT_33_0, fieldT_33_1, fieldT_33_2, fieldT_33_3, fieldT_33_4, placesT_33, zeroT_33, aggT_31, sizeT_31, bytesT_31, und_31, elemT_31, isSliceT_31, zero1_31, zeroT_31, aggT_9, sizeT_9, bytesT_9, und_9, zero1_9, zeroT_9, aggT_3, sizeT_3, bytesT_3, und_3, zero1_3, zeroT_3, aggT_43, sizeT_43, bytesT_43, und_43, elemT_43, isSliceT_43, zero1_43, zeroT_43, aggT_52, sizeT_52, bytesT_52, und_52, elemT_52, isSliceT_52, zero1_52, zeroT_52, aggT_100, sizeT_100, bytesT_100, und_100, zero1_100, zeroT_100, Int.lt_irrefl]
  (refine (r_inLoop_some ?_).trans h; kernel_rfl)
theorem doneC25 (x : Tb) (f : Int) (st : List Int × List Int) (ps : List Tm) (out : Option Out) (h : H25a ext 0 (E25a f) (O25 x st) = out) : H25c ext 0 (E25c f ps.length ps.length) (O25p x st ps) = out := by
  unfold H25a at h
  unfold H25c
  simp only [dV, iV, E25a, E25c, O25, O25p] at h ⊢
  (rw [show (It.code L25c) = It.code (sub B25 [1, 1, 1, 1, 0, 1, 0, 0, 1, 0, 1, 1, 1, 1, 1, 0, 0]) from rfl]; simp only [B25, K25c, sub, Option.getD_some, Tryz.f25, ↓reduceIte, Nat.one_ne_zero])
  simp only [zS, nilEq, wantedA, opA, eff, boxA, cells, ev, gt, pt, putO, updO, setO, okC, loadA, cutC, fieldAddrA, fieldA, indexAddrA, indexA, builtinA, callOpA, callV, target, ptrV, lenS, binA, intOp, strOp, unA, num, lk, over, allocA, pickA, buildA, fillA, convertA, extractA, ofComp, nilCheckA, makeFuncA, ptrs, ofValue, cellB, Nat.reduceAdd, Nat.reduceSub, Nat.reduceMul, Nat.reduceLT, Nat.reduceLeDiff, Nat.reduceGT, ↓reduceIte, Nat.reduceEqDiff, Nat.reduceBEq, reduceCtorEq, Int.reduceBEq, Int.reduceBNe, Int.reduceLT, Int.reduceLE, Int.reduceGT, Int.reduceGE, aggT_24, sizeT_24, bytesT_24, fieldT_24_0, placesT_24, zeroT_24, aggT_33, sizeT_33, bytesT_33, fieldT_33_0, fieldT_33_1, fieldT_33_2, fieldT_33_3, fieldT_33_4, placesT_33, zeroT_33, aggT_31, sizeT_31, bytesT_31, und_31, elemT_31, isSliceT_31, zero1_31, zeroT_31, aggT_9, sizeT_9, bytesT_9, und_9, zero1_9, zeroT_9, aggT_3, sizeT_3, bytesT_3, und_3, zero1_3, zeroT_3, aggT_43, sizeT_43, bytesT_43, und_43, elemT_43, isSliceT_43, zero1_43, zeroT_43, aggT_52, sizeT_52, bytesT_52, und_52, elemT_52, isSliceT_52, zero1_52, zeroT_52, aggT_100, sizeT_100, bytesT_100, und_100, zero1_100, zeroT_100, Int.lt_irrefl]
  (refine (r_inLoop_some ?_).trans h; kernel_rfl)
theorem doneA25 (x : Tb) (f : Int) (S : List Int) (out : Option Out) (h : H25e ext 0 (E25e x f [] 0) (O25e S []) = out) : H25a ext 0 (E25a f) (O25 x (S, [])) = out := by
  have e0 : ((0 : Nat) : Int) = 0 := rfl
  unfold H25e at h
  unfold H25a
  simp only [dV, iV, E25a, E25e, O25, O25e, List.map_nil, mkV_nil, mkO_nil] at h ⊢
  (rw [show (It.code L25a) = It.code (sub B25 [1, 1, 1, 1, 0, 1, 0, 0]) from rfl]; simp only [B25, K25a, sub, Option.getD_some, Tryz.f25, ↓reduceIte, Nat.one_ne_zero])
  simp only [zS, nilEq, wantedA, opA, eff, boxA, cells, ev, gt, pt, putO, updO, setO, okC, loadA, cutC, fieldAddrA, fieldA, indexAddrA, indexA, builtinA, callOpA, callV, target, ptrV, lenS, binA, intOp, strOp, unA, num, lk, over, allocA, pickA, buildA, fillA, convertA, extractA, ofComp, nilCheckA, makeFuncA, ptrs, ofValue, cellB, Nat.reduceAdd, Nat.reduceSub, Nat.reduceMul, Nat.reduceLT, Nat.reduceLeDiff, Nat.reduceGT, ↓reduceIte, Nat.reduceEqDiff, Nat.reduceBEq, reduceCtorEq, Int.reduceBEq, Int.reduceBNe, Int.reduceLT, Int.reduceLE, Int.reduceGT, Int.reduceGE, aggT_24, sizeT_24, bytesT_24, fieldT_24_0, placesT_24, zeroT_24, aggT_22, sizeT_22, bytesT_22, und_22, elemT_22, isSliceT_22, zero1_22, zeroT_22, aggT_39, sizeT_39, bytesT_39, fieldT_39_0, fieldT_39_1, fieldT_39_2, fieldT_39_3, fieldT_39_4, fieldT_39_5, fieldT_39_6, fieldT_39_7, fieldT_39_8, placesT_39, zeroT_39, aggT_37, sizeT_37, bytesT_37, und_37, elemT_37, isSliceT_37, zero1_37, zeroT_37, aggT_33, sizeT_33, bytesT_33, fieldT_33_0, fieldT_33_1, fieldT_33_2, fieldT_33_3, fieldT_33_4, placesT_33, zeroT_33, aggT_31, sizeT_31, bytesT_31, und_31, elemT_31, isSliceT_31, zero1_31, zeroT_31, aggT_9, sizeT_9, bytesT_9, und_9, zero1_9, zeroT_9, aggT_3, sizeT_3, bytesT_3, und_3, zero1_3, zeroT_3, aggT_43, sizeT_43, bytesT_43, und_43, elemT_43, isSliceT_43, zero1_43, zeroT_43, aggT_52, sizeT_52, bytesT_52, und_52, elemT_52, isSliceT_52, zero1_52, zeroT_52, aggT_100, sizeT_100, bytesT_100, und_100, zero1_100, zeroT_100, e0, Int.lt_irrefl, gt_iff_lt, lenA_td]
  (refine (r_inLoop_some ?_).trans h; kernel_rfl)
theorem stepE25 (x : Tb) (y : Dc) (f : Int) (S : List Int) (ls : List ByteArray) (hb : ls.length < 2 ^ 29) (k : Nat) (hk : x.ds[k]? = some y) (hl : (k : Int) < x.ds.length) (b : Bool) (hc : (S.contains (k : Int) && ((k : Int) != f)) = b) (out : Option Out)
    (h : H25e ext 0 (E25e x f (if b = true then ls ++ [y.name] else ls) (wr ((k : Int) + 1))) (O25e S (if b = true then ls ++ [y.name] else ls)) = out) : H25e ext 0 (E25e x f ls k) (O25e S ls) = out := by
  have h0 : (0 : Int) ≤ k := by omega
  unfold H25e at h ⊢
  cases c1 : S.contains (k : Int) with
  | false =>
    rw [c1, Bool.false_and] at hc
    subst hc
    rw [if_neg (by simp)] at h
    cases ls
    all_goals
      simp only [dV, iV, E25e, O25e, dsD_lt h0 hl, List.map_cons, List.map_nil, mkV_nil, mkV_cons, mkO_nil, mkO_cons] at h ⊢
      (rw [show (It.code L25e) = It.code (sub B25 [1, 1, 1, 1, 1, 1, 0, 1, 0, 0]) from rfl]; simp only [B25, K25e, sub, Option.getD_some, Tryz.f25, ↓reduceIte, Nat.one_ne_zero])
      simp only [zS, nilEq, wantedA, opA, eff, boxA, cells, ev, gt, pt, putO, updO, setO, okC, loadA, cutC, fieldAddrA, fieldA, indexAddrA, indexA, builtinA, callOpA, callV, target, ptrV, lenS, binA, intOp, strOp, unA, num, lk, over, allocA, pickA, buildA, fillA, convertA, extractA, ofComp, nilCheckA, makeFuncA, ptrs, ofValue, cellB, Nat.reduceAdd, Nat.reduceSub, Nat.reduceMul, Nat.reduceLT, Nat.reduceLeDiff, Nat.reduceGT, ↓reduceIte, Nat.reduceEqDiff, Nat.reduceBEq, reduceCtorEq, Int.reduceBEq, Int.reduceBNe, Int.reduceLT, Int.reduceLE, Int.reduceGT, Int.reduceGE, aggT_39, sizeT_39, bytesT_39, fieldT_39_0, fieldT_39_1, fieldT_39_2, fieldT_39_3, fieldT_39_4, fieldT_39_5, fieldT_39_6, fieldT_39_7, fieldT_39_8, placesT_39, zeroT_39, aggT_22, sizeT_22, bytesT_22, und_22, elemT_22, isSliceT_22, zero1_22, zeroT_22, aggT_43, sizeT_43, bytesT_43, und_43, elemT_43, isSliceT_43, zero1_43, zeroT_43, aggT_52, sizeT_52, bytesT_52, und_52, elemT_52, isSliceT_52, zero1_52, zeroT_52, aggT_9, sizeT_9, bytesT_9, und_9, zero1_9, zeroT_9, aggT_4, sizeT_4, bytesT_4, und_4, zero1_4, zeroT_4, aggT_3, sizeT_3, bytesT_3, und_3, zero1_3, zeroT_3, aggT_100, sizeT_100, bytesT_100, und_100, zero1_100, zeroT_100, h0, hl, Int.toNat_natCast, hk, dcD_eq y, lk_seen, lookup_seen, lkS_seen, c1]
      (refine (r_inLoop_some ?_).trans h; kernel_rfl)
  | true =>
    rw [c1, Bool.true_and] at hc
    cases b with
    | false =>
      rw [if_neg (by simp)] at h
      cases ls
      all_goals
        simp only [dV, iV, E25e, O25e, dsD_lt h0 hl, List.map_cons, List.map_nil, mkV_nil, mkV_cons, mkO_nil, mkO_cons] at h ⊢
        (rw [show (It.code L25e) = It.code (sub B25 [1, 1, 1, 1, 1, 1, 0, 1, 0, 0]) from rfl]; simp only [B25, K25e, sub, Option.getD_some, Tryz.f25, ↓reduceIte, Nat.one_ne_zero])
        simp only [zS, nilEq, wantedA, opA, eff, boxA, cells, ev, gt, pt, putO, updO, setO, okC, loadA, cutC, fieldAddrA, fieldA, indexAddrA, indexA, builtinA, callOpA, callV, target, ptrV, lenS, binA, intOp, strOp, unA, num, lk, over, allocA, pickA, buildA, fillA, convertA, extractA, ofComp, nilCheckA, makeFuncA, ptrs, ofValue, cellB, Nat.reduceAdd, Nat.reduceSub, Nat.reduceMul, Nat.reduceLT, Nat.reduceLeDiff, Nat.reduceGT, ↓reduceIte, Nat.reduceEqDiff, Nat.reduceBEq, reduceCtorEq, Int.reduceBEq, Int.reduceBNe, Int.reduceLT, Int.reduceLE, Int.reduceGT, Int.reduceGE, aggT_39, sizeT_39, bytesT_39, fieldT_39_0, fieldT_39_1, fieldT_39_2, fieldT_39_3, fieldT_39_4, fieldT_39_5, fieldT_39_6, fieldT_39_7, fieldT_39_8, placesT_39, zeroT_39, aggT_22, sizeT_22, bytesT_22, und_22, elemT_22, isSliceT_22, zero1_22, zeroT_22, aggT_43, sizeT_43, bytesT_43, und_43, elemT_43, isSliceT_43, zero1_43, zeroT_43, aggT_52, sizeT_52, bytesT_52, und_52, elemT_52, isSliceT_52, zero1_52, zeroT_52, aggT_9, sizeT_9, bytesT_9, und_9, zero1_9, zeroT_9, aggT_4, sizeT_4, bytesT_4, und_4, zero1_4, zeroT_4, aggT_3, sizeT_3, bytesT_3, und_3, zero1_3, zeroT_3, aggT_100, sizeT_100, bytesT_100, und_100, zero1_100, zeroT_100, h0, hl, Int.toNat_natCast, hk, dcD_eq y, lk_seen, lookup_seen, lkS_seen, c1, hc]
        (refine (r_inLoop_some ?_).trans h; kernel_rfl)
    | true =>
      rw [if_pos rfl] at h
      cases ls with
      | nil =>
        simp only [dV, iV, E25e, O25e, dsD_lt h0 hl, List.map_append, List.map_cons, List.map_nil, mkV_nil, mkO_nil, mkV_snoc, mkO_snoc, List.nil_append, stD_eq] at h ⊢
        (rw [show (It.code L25e) = It.code (sub B25 [1, 1, 1, 1, 1, 1, 0, 1, 0, 0]) from rfl]; simp only [B25, K25e, sub, Option.getD_some, Tryz.f25, ↓reduceIte, Nat.one_ne_zero])
        simp only [zS, nilEq, wantedA, opA, eff, boxA, cells, ev, gt, pt, putO, updO, setO, okC, loadA, cutC, fieldAddrA, fieldA, indexAddrA, indexA, builtinA, callOpA, callV, target, ptrV, lenS, binA, intOp, strOp, unA, num, lk, over, allocA, pickA, buildA, fillA, convertA, extractA, ofComp, nilCheckA, makeFuncA, ptrs, ofValue, cellB, Nat.reduceAdd, Nat.reduceSub, Nat.reduceMul, Nat.reduceLT, Nat.reduceLeDiff, Nat.reduceGT, ↓reduceIte, Nat.reduceEqDiff, Nat.reduceBEq, reduceCtorEq, Int.reduceBEq, Int.reduceBNe, Int.reduceLT, Int.reduceLE, Int.reduceGT, Int.reduceGE, aggT_39, sizeT_39, bytesT_39, fieldT_39_0, fieldT_39_1, fieldT_39_2, fieldT_39_3, fieldT_39_4, fieldT_39_5, fieldT_39_6, fieldT_39_7, fieldT_39_8, placesT_39, zeroT_39, aggT_22, sizeT_22, bytesT_22, und_22, elemT_22, isSliceT_22, zero1_22, zeroT_22, aggT_43, sizeT_43, bytesT_43, und_43, elemT_43, isSliceT_43, zero1_43, zeroT_43, aggT_52, sizeT_52, bytesT_52, und_52, elemT_52, isSliceT_52, zero1_52, zeroT_52, aggT_9, sizeT_9, bytesT_9, und_9, zero1_9, zeroT_9, aggT_4, sizeT_4, bytesT_4, und_4, zero1_4, zeroT_4, aggT_3, sizeT_3, bytesT_3, und_3, zero1_3, zeroT_3, aggT_100, sizeT_100, bytesT_100, und_100, zero1_100, zeroT_100, h0, hl, Int.toNat_natCast, hk, dcD_eq y, lk_seen, lookup_seen, lkS_seen, c1, hc, bsSt, no52, apH_arr, Nat.zero_le]
        (refine (r_inLoop_some ?_).trans h; kernel_rfl)
      | cons a r =>
        have hb' : r.length + 1 ≤ 1000000000 := by simp only [List.length_cons] at hb; omega
        simp only [dV, iV, E25e, O25e, dsD_lt h0 hl, List.map_append, List.map_cons, List.map_nil, mkV_cons, mkO_cons, mkV_snoc, mkO_snoc, List.cons_append, List.nil_append, stD_eq] at h ⊢
        (rw [show (It.code L25e) = It.code (sub B25 [1, 1, 1, 1, 1, 1, 0, 1, 0, 0]) from rfl]; simp only [B25, K25e, sub, Option.getD_some, Tryz.f25, ↓reduceIte, Nat.one_ne_zero])
        simp only [zS, nilEq, wantedA, opA, eff, boxA, cells, ev, gt, pt, putO, updO, setO, okC, loadA, cutC, fieldAddrA, fieldA, indexAddrA, indexA, builtinA, callOpA, callV, target, ptrV, lenS, binA, intOp, strOp, unA, num, lk, over, allocA, pickA, buildA, fillA, convertA, extractA, ofComp, nilCheckA, makeFuncA, ptrs, ofValue, cellB, Nat.reduceAdd, Nat.reduceSub, Nat.reduceMul, Nat.reduceLT, Nat.reduceLeDiff, Nat.reduceGT, ↓reduceIte, Nat.reduceEqDiff, Nat.reduceBEq, reduceCtorEq, Int.reduceBEq, Int.reduceBNe, Int.reduceLT, Int.reduceLE, Int.reduceGT, Int.reduceGE, aggT_39, sizeT_39, bytesT_39, fieldT_39_0, fieldT_39_1, fieldT_39_2, fieldT_39_3, fieldT_39_4, fieldT_39_5, fieldT_39_6, fieldT_39_7, fieldT_39_8, placesT_39, zeroT_39, aggT_22, sizeT_22, bytesT_22, und_22, elemT_22, isSliceT_22, zero1_22, zeroT_22, aggT_43, sizeT_43, bytesT_43, und_43, elemT_43, isSliceT_43, zero1_43, zeroT_43, aggT_52, sizeT_52, bytesT_52, und_52, elemT_52, isSliceT_52, zero1_52, zeroT_52, aggT_9, sizeT_9, bytesT_9, und_9, zero1_9, zeroT_9, aggT_4, sizeT_4, bytesT_4, und_4, zero1_4, zeroT_4, aggT_3, sizeT_3, bytesT_3, und_3, zero1_3, zeroT_3, aggT_100, sizeT_100, bytesT_100, und_100, zero1_100, zeroT_100, h0, hl, Int.toNat_natCast, hk, dcD_eq y, lk_seen, lookup_seen, lkS_seen, c1, hc, bsSt, oo52, apG_arr, hb']
        (refine (r_inLoop_some ?_).trans h; kernel_rfl)
theorem doneE25 (x : Tb) (f : Int) (S : List Int) (ls : List ByteArray) : H25e ext 0 (E25e x f ls x.ds.length) (O25e S ls) = some (.ret [dV (listD true 1 (ls.map stD)), iV 0] []) := by
  unfold H25e
  cases ls
  all_goals
    simp only [dV, iV, E25e, O25e, List.map_cons, List.map_nil, mkV_nil, mkV_cons, mkO_nil, mkO_cons]
    (rw [show (It.code L25e) = It.code (sub B25 [1, 1, 1, 1, 1, 1, 0, 1, 0, 0]) from rfl]; simp only [B25, K25e, sub, Option.getD_some, Tryz.f25, ↓reduceIte, Nat.one_ne_zero])
    simp only [zS, nilEq, wantedA, opA, eff, boxA, cells, ev, gt, pt, putO, updO, setO, okC, loadA, cutC, fieldAddrA, fieldA, indexAddrA, indexA, builtinA, callOpA, callV, target, ptrV, lenS, binA, intOp, strOp, unA, num, lk, over, allocA, pickA, buildA, fillA, convertA, extractA, ofComp, nilCheckA, makeFuncA, ptrs, ofValue, cellB, Nat.reduceAdd, Nat.reduceSub, Nat.reduceMul, Nat.reduceLT, Nat.reduceLeDiff, Nat.reduceGT, ↓reduceIte, Nat.reduceEqDiff, Nat.reduceBEq, reduceCtorEq, Int.reduceBEq, Int.reduceBNe, Int.reduceLT, Int.reduceLE, Int.reduceGT, Int.reduceGE, aggT_22, sizeT_22, bytesT_22, und_22, elemT_22, isSliceT_22, zero1_22, zeroT_22, aggT_52, sizeT_52, bytesT_52, und_52, elemT_52, isSliceT_52, zero1_52, zeroT_52, aggT_3, sizeT_3, bytesT_3, und_3, zero1_3, zeroT_3, aggT_100, sizeT_100, bytesT_100, und_100, zero1_100, zeroT_100, Int.lt_irrefl]
    (refine Eq.trans ?_ rfl; kernel_rfl)
end Go.Proofs.YteenjodhmppgjaaGreatDoor.Am
end
section
/- Uses, by the reference: the steps. -/
namespace Go.Proofs.YteenjodhmppgjaaGreatDoor.Am
open Go
variable (ext : Ext)
set_option maxHeartbeats 8000000
set_option maxRecDepth 4000
noncomputable def B26 : Code := (Tryz.f26.body.getD .skip)
noncomputable def L26a : Code := sub B26 [1, 1, 1, 1, 1, 0, 0, 0]
noncomputable def K26a : List It := [.inBlock 0, .code (sub B26 [1, 1, 1, 1, 1, 1])]
noncomputable def H26a (ext : Ext) (m : Nat) (env : Env) (loc : List O) : Option Out := run Tryz.prog ext (.k ⟨104, m, [.tmp 4, .tmp 5], false⟩ (.code L26a :: .inLoop L26a :: K26a) env loc)
noncomputable def L26b : Code := sub B26 [1, 1, 1, 1, 1, 0, 0, 0, 1, 0, 1, 1, 1, 0, 0]
noncomputable def K26b : List It := [.inBlock 2, .inBlock 1, .inLoop L26a, .inBlock 0, .code (sub B26 [1, 1, 1, 1, 1, 1])]
noncomputable def H26b (ext : Ext) (m : Nat) (env : Env) (loc : List O) : Option Out := run Tryz.prog ext (.k ⟨104, m, [.tmp 4, .tmp 5], false⟩ (.code L26b :: .inLoop L26b :: K26b) env loc)
noncomputable def L26c : Code := sub B26 [1, 1, 1, 1, 1, 0, 0, 0, 1, 0, 1, 1, 1, 0, 0, 1, 0, 0, 1, 1, 0, 0]
noncomputable def K26c : List It := [.inBlock 4, .inBlock 3, .code (sub B26 [1, 1, 1, 1, 1, 0, 0, 0, 1, 0, 1, 1, 1, 0, 0, 1, 1]), .inLoop L26b, .inBlock 2, .inBlock 1, .inLoop L26a, .inBlock 0, .code (sub B26 [1, 1, 1, 1, 1, 1])]
noncomputable def H26c (ext : Ext) (m : Nat) (env : Env) (loc : List O) : Option Out := run Tryz.prog ext (.k ⟨104, m, [.tmp 4, .tmp 5], false⟩ (.code L26c :: .inLoop L26c :: K26c) env loc)
noncomputable def L26d : Code := sub B26 [1, 1, 1, 1, 1, 1, 1, 0, 1, 0, 0]
noncomputable def K26d : List It := [.inBlock 6, .code (sub B26 [1, 1, 1, 1, 1, 1, 1, 1])]
noncomputable def H26d (ext : Ext) (m : Nat) (env : Env) (loc : List O) : Option Out := run Tryz.prog ext (.k ⟨104, m, [.tmp 4, .tmp 5], false⟩ (.code L26d :: .inLoop L26d :: K26d) env loc)
noncomputable def B76 : Code := (Tryz.f76.body.getD .skip)
noncomputable def L76a : Code := sub B76 [1, 1, 0, 1, 0, 0]
noncomputable def K76a : List It := [.inBlock 0, .code (sub B76 [1, 1, 1])]
noncomputable def H76a (ext : Ext) (m : Nat) (env : Env) (loc : List O) : Option Out := run Tryz.prog ext (.k ⟨29, m, [.tmp 2], false⟩ (.code L76a :: .inLoop L76a :: K76a) env loc)
/-! ### parts -/
def E76 (k : Int) : Env := [(1, .c (.ptr 0 0)), (3, .c (.own 1)), (4, iV k)]
def O76 (d : Dc) (ps : List Tm) : List O := [.box (dcC d), .arr 5 (ps.map tmD)]
theorem enter76 (hx : ext 76 = none) (d : Dc) (out : Option Out) (h : H76a ext 0 (E76 0) (O76 d [d.type, d.body, d.param]) = out) : run Tryz.prog ext (.call 76 [dcV d] []) = out := by
  unfold H76a at h
  (rw [run_eq]; simp only [stepA, hx, Tryz.func76, Tryz.f76, show retF 76 = false from rfl]; simp only [List.length_cons, List.length_nil, Nat.reduceAdd, Nat.reduceLeDiff, Nat.zero_le, ↓reduceIte, List.zipIdx_cons, List.zipIdx_nil, List.map_cons, List.map_nil])
  simp only [dcV, dcC, iV, E76, O76, List.map_cons, List.map_nil, tmD_eq] at h ⊢
  simp only [zS, nilEq, wantedA, opA, eff, boxA, cells, ev, gt, pt, putO, updO, setO, okC, loadA, cutC, fieldAddrA, fieldA, indexAddrA, indexA, builtinA, callOpA, callV, target, ptrV, lenS, binA, intOp, strOp, unA, num, lk, over, allocA, pickA, buildA, fillA, convertA, extractA, ofComp, nilCheckA, makeFuncA, ptrs, ofValue, cellB, Nat.reduceAdd, Nat.reduceSub, Nat.reduceMul, Nat.reduceLT, Nat.reduceLeDiff, Nat.reduceGT, ↓reduceIte, Nat.reduceEqDiff, Nat.reduceBEq, reduceCtorEq, Int.reduceBEq, Int.reduceBNe, Int.reduceLT, Int.reduceLE, Int.reduceGT, Int.reduceGE, aggT_39, sizeT_39, bytesT_39, fieldT_39_0, fieldT_39_1, fieldT_39_2, fieldT_39_3, fieldT_39_4, fieldT_39_5, fieldT_39_6, fieldT_39_7, fieldT_39_8, placesT_39, zeroT_39, aggT_33, sizeT_33, bytesT_33, fieldT_33_0, fieldT_33_1, fieldT_33_2, fieldT_33_3, fieldT_33_4, placesT_33, zeroT_33, aggT_31, sizeT_31, bytesT_31, und_31, elemT_31, isSliceT_31, zero1_31, zeroT_31, aggT_3, sizeT_3, bytesT_3, und_3, zero1_3, zeroT_3, bsTm3]
  (refine (r_inLoop_some ?_).trans h; kernel_rfl)
theorem step76 (d : Dc) (c : Con) (p : Tm) (ps : List Tm) (hb : ps.length < 2 ^ 29) (k : Nat) (hk : d.cons[k]? = some c) (hl : (k : Int) < d.cons.length) (out : Option Out)
    (h : H76a ext 0 (E76 (wr ((k : Int) + 1))) (O76 d (p :: ps ++ [c.arg])) = out) : H76a ext 0 (E76 k) (O76 d (p :: ps)) = out := by
  have h0 : (0 : Int) ≤ k := by omega
  have hb' : ps.length + 1 ≤ 1000000000 := by omega
  unfold H76a at h ⊢
  simp only [dcC, dV, iV, E76, O76, consD_lt hl, List.map_append, List.map_cons, List.map_nil, List.cons_append, tmD_eq c.arg] at h ⊢
  (rw [show (It.code L76a) = It.code (sub B76 [1, 1, 0, 1, 0, 0]) from rfl]; simp only [B76, K76a, sub, Option.getD_some, Tryz.f76, ↓reduceIte, Nat.one_ne_zero])
  simp only [zS, nilEq, wantedA, opA, eff, boxA, cells, ev, gt, pt, putO, updO, setO, okC, loadA, cutC, fieldAddrA, fieldA, indexAddrA, indexA, builtinA, callOpA, callV, target, ptrV, lenS, binA, intOp, strOp, unA, num, lk, over, allocA, pickA, buildA, fillA, convertA, extractA, ofComp, nilCheckA, makeFuncA, ptrs, ofValue, cellB, Nat.reduceAdd, Nat.reduceSub, Nat.reduceMul, Nat.reduceLT, Nat.reduceLeDiff, Nat.reduceGT, ↓reduceIte, Nat.reduceEqDiff, Nat.reduceBEq, reduceCtorEq, Int.reduceBEq, Int.reduceBNe, Int.reduceLT, Int.reduceLE, Int.reduceGT, Int.reduceGE, aggT_39, sizeT_39, bytesT_39, fieldT_39_0, fieldT_39_1, fieldT_39_2, fieldT_39_3, fieldT_39_4, fieldT_39_5, fieldT_39_6, fieldT_39_7, fieldT_39_8, placesT_39, zeroT_39, aggT_98, sizeT_98, bytesT_98, fieldT_98_0, fieldT_98_1, placesT_98, zeroT_98, aggT_37, sizeT_37, bytesT_37, und_37, elemT_37, isSliceT_37, zero1_37, zeroT_37, aggT_33, sizeT_33, bytesT_33, fieldT_33_0, fieldT_33_1, fieldT_33_2, fieldT_33_3, fieldT_33_4, placesT_33, zeroT_33, aggT_31, sizeT_31, bytesT_31, und_31, elemT_31, isSliceT_31, zero1_31, zeroT_31, aggT_9, sizeT_9, bytesT_9, und_9, zero1_9, zeroT_9, aggT_3, sizeT_3, bytesT_3, und_3, zero1_3, zeroT_3, h0, hl, Int.toNat_natCast, hk, conD_eq c, bsTm, oo31, apG_arr, hb']
  (refine (r_inLoop_some ?_).trans h; kernel_rfl)
theorem done76 (d : Dc) (p : Tm) (ps : List Tm) : H76a ext 0 (E76 d.cons.length) (O76 d (p :: ps)) = some (.ret [dV (.s 5 ((p :: ps).map tmD))] []) := by
  unfold H76a
  simp only [dcC, dV, iV, E76, O76, List.map_cons]
  (rw [show (It.code L76a) = It.code (sub B76 [1, 1, 0, 1, 0, 0]) from rfl]; simp only [B76, K76a, sub, Option.getD_some, Tryz.f76, ↓reduceIte, Nat.one_ne_zero])
  simp only [zS, nilEq, wantedA, opA, eff, boxA, cells, ev, gt, pt, putO, updO, setO, okC, loadA, cutC, fieldAddrA, fieldA, indexAddrA, indexA, builtinA, callOpA, callV, target, ptrV, lenS, binA, intOp, strOp, unA, num, lk, over, allocA, pickA, buildA, fillA, convertA, extractA, ofComp, nilCheckA, makeFuncA, ptrs, ofValue, cellB, Nat.reduceAdd, Nat.reduceSub, Nat.reduceMul, Nat.reduceLT, Nat.reduceLeDiff, Nat.reduceGT, ↓reduceIte, Nat.reduceEqDiff, Nat.reduceBEq, reduceCtorEq, Int.reduceBEq, Int.reduceBNe, Int.reduceLT, Int.reduceLE, Int.reduceGT, Int.reduceGE, aggT_39, sizeT_39, bytesT_39, fieldT_39_0, fieldT_39_1, fieldT_39_2, fieldT_39_3, fieldT_39_4, fieldT_39_5, fieldT_39_6, fieldT_39_7, fieldT_39_8, placesT_39, zeroT_39, aggT_37, sizeT_37, bytesT_37, und_37, elemT_37, isSliceT_37, zero1_37, zeroT_37, aggT_31, sizeT_31, bytesT_31, und_31, elemT_31, isSliceT_31, zero1_31, zeroT_31, aggT_3, sizeT_3, bytesT_3, und_3, zero1_3, zeroT_3, lenA_cd, Int.lt_irrefl]
  (refine Eq.trans ?_ rfl; kernel_rfl)
theorem parts76 (hx : ext 76 = none) (d : Dc) (hs : d.cons.length < 2 ^ 28) : run Tryz.prog ext (.call 76 [dcV d] []) = some (.ret [dV (.s 5 ((parts d).map tmD))] []) := by
  refine enter76 ext hx d _ ?_
  have := loop_inv d.cons (fun k ps => H76a ext 0 (E76 k) (O76 d (d.type :: ps))) (fun k ps => ps = [d.body, d.param] ++ (d.cons.take k).map Con.arg) (fun o => o = some (.ret [dV (.s 5 ((parts d).map tmD))] [])) (by omega)
    (fun k c ps hI hk hl => ⟨ps ++ [c.arg], by rw [hI, List.take_add_one, hk]; simp, fun out ho => step76 ext d c d.type ps (by rw [hI]; simp; omega) k hk hl out ho⟩) (fun ps hI => by
      rw [done76, hI, List.take_length]; rfl) [d.body, d.param] (by simp)
  exact this
/-! ### the steps -/
def O26 (x : Tb) (W : List Bool) (T : List Int) : List O := [.box [.d x.d], .arr 1 (W.map boD), .arr 1 (T.map inD)]
def E26a (f : Int) : Env := [(2, .c (.ptr 0 0)), (6, iV f), (7, .c (.own 1)), (8, .c (.own 2))]
def E26b (f : Int) (ps : List Tm) (k : Int) : Env := [(2, .c (.ptr 0 0)), (6, iV f), (7, .c (.own 1)), (8, .c (.own 2)), (9, dV (.s 5 (ps.map tmD))), (10, iV k)]
def E26c (f : Int) (ps : List Tm) (k : Int) (ns : List ByteArray) (j : Int) : Env := [(2, .c (.ptr 0 0)), (6, iV f), (7, .c (.own 1)), (8, .c (.own 2)), (9, dV (.s 5 (ps.map tmD))), (10, iV k), (11, dV (listD true 1 (ns.map stD))), (12, iV j)]
def E26d (f : Int) (ls : List ByteArray) (k : Int) : Env := [(2, .c (.ptr 0 0)), (6, iV f), (7, .c (.own 1)), (14, mkV 2 (ls.map stD)), (15, iV k)]
def O26d (x : Tb) (W : List Bool) (ls : List ByteArray) : List O := .box [.d x.d] :: .arr 1 (W.map boD) :: mkO 1 (ls.map stD)
theorem bad26 (hx : ext 26 = none) (x : Tb) (s : ByteArray) (f : Int) (hf : f < 0) (hr : run Tryz.prog ext (.call 37 [tbV x, sV s] []) = some (.ret [iV f] [])) : run Tryz.prog ext (.call 26 [tbV x, sV s] []) = some (.ret [dV nilD, iV 3] []) := by
  (rw [run_eq]; simp only [stepA, hx, Tryz.func26, Tryz.f26, show retF 26 = false from rfl]; simp only [List.length_cons, List.length_nil, Nat.reduceAdd, Nat.reduceLeDiff, Nat.zero_le, ↓reduceIte, List.zipIdx_cons, List.zipIdx_nil, List.map_cons, List.map_nil])
  simp only [tbV, tbC, sV, iV, dV, nilD] at hr ⊢
  simp only [zS, nilEq, wantedA, opA, eff, boxA, cells, ev, gt, pt, putO, updO, setO, okC, loadA, cutC, fieldAddrA, fieldA, indexAddrA, indexA, builtinA, callOpA, callV, target, ptrV, lenS, binA, intOp, strOp, unA, num, lk, over, allocA, pickA, buildA, fillA, convertA, extractA, ofComp, nilCheckA, makeFuncA, ptrs, ofValue, cellB, Nat.reduceAdd, Nat.reduceSub, Nat.reduceMul, Nat.reduceLT, Nat.reduceLeDiff, Nat.reduceGT, ↓reduceIte, Nat.reduceEqDiff, Nat.reduceBEq, reduceCtorEq, Int.reduceBEq, Int.reduceBNe, Int.reduceLT, Int.reduceLE, Int.reduceGT, Int.reduceGE, aggT_24, sizeT_24, bytesT_24, fieldT_24_0, placesT_24, zeroT_24, aggT_9, sizeT_9, bytesT_9, und_9, zero1_9, zeroT_9, aggT_3, sizeT_3, bytesT_3, und_3, zero1_3, zeroT_3, aggT_52, sizeT_52, bytesT_52, und_52, elemT_52, isSliceT_52, zero1_52, zeroT_52, hr, hf]
  (refine Eq.trans ?_ rfl; kernel_rfl)
theorem enter26 (hx : ext 26 = none) (x : Tb) (s : ByteArray) (f : Int) (hf : ¬ f < 0) (hn : x.ds.length < 2 ^ 29) (hr : run Tryz.prog ext (.call 37 [tbV x, sV s] []) = some (.ret [iV f] [])) (out : Option Out) (h : H26a ext 0 (E26a f) (O26 x (List.replicate x.ds.length false) [f]) = out) : run Tryz.prog ext (.call 26 [tbV x, sV s] []) = out := by
  have hm := fun slot => mk102 slot x.ds.length (by omega)
  unfold H26a at h
  generalize (List.replicate x.ds.length false) = W at h hm
  (rw [run_eq]; simp only [stepA, hx, Tryz.func26, Tryz.f26, show retF 26 = false from rfl]; simp only [List.length_cons, List.length_nil, Nat.reduceAdd, Nat.reduceLeDiff, Nat.zero_le, ↓reduceIte, List.zipIdx_cons, List.zipIdx_nil, List.map_cons, List.map_nil])
  simp only [tbV, tbC, sV, iV, E26a, O26, List.map_cons, List.map_nil, inD_eq] at hr h ⊢
  simp only [zS, nilEq, wantedA, opA, eff, boxA, cells, ev, gt, pt, putO, updO, setO, okC, loadA, cutC, fieldAddrA, fieldA, indexAddrA, indexA, builtinA, callOpA, callV, target, ptrV, lenS, binA, intOp, strOp, unA, num, lk, over, allocA, pickA, buildA, fillA, convertA, extractA, ofComp, nilCheckA, makeFuncA, ptrs, ofValue, cellB, Nat.reduceAdd, Nat.reduceSub, Nat.reduceMul, Nat.reduceLT, Nat.reduceLeDiff, Nat.reduceGT, ↓reduceIte, Nat.reduceEqDiff, Nat.reduceBEq, reduceCtorEq, Int.reduceBEq, Int.reduceBNe, Int.reduceLT, Int.reduceLE, Int.reduceGT, Int.reduceGE, aggT_24, sizeT_24, bytesT_24, fieldT_24_0, placesT_24, zeroT_24, aggT_22, sizeT_22, bytesT_22, und_22, elemT_22, isSliceT_22, zero1_22, zeroT_22, aggT_9, sizeT_9, bytesT_9, und_9, zero1_9, zeroT_9, aggT_3, sizeT_3, bytesT_3, und_3, zero1_3, zeroT_3, aggT_43, sizeT_43, bytesT_43, und_43, elemT_43, isSliceT_43, zero1_43, zeroT_43, aggT_102, sizeT_102, bytesT_102, und_102, elemT_102, isSliceT_102, zero1_102, zeroT_102, hr, hf, lenA_td, hm, bsIn]
  (refine (r_inLoop_some ?_).trans h; kernel_rfl)
theorem stepA26 (x : Tb) (d : Dc) (f : Int) (W : List Bool) (t : Nat) (T : List Int) (ps : List Tm) (hp : run Tryz.prog ext (.call 76 [dcV d] []) = some (.ret [dV (.s 5 (ps.map tmD))] [])) (hk : x.ds[t]? = some d) (hl : (t : Int) < x.ds.length) (out : Option Out) (h : H26b ext 0 (E26b f ps 0) (O26 x W T) = out) :
    H26a ext 0 (E26a f) (O26 x W ((t : Int) :: T)) = out := by
  have h0 : (0 : Int) ≤ t := by omega
  have k1' : ((T.length + 1 : Nat) : Int) > 0 := by omega
  unfold H26b at h
  unfold H26a
  generalize ps.map tmD = P at hp
  simp only [dV, iV, dcV, dcC, E26a, E26b, O26, List.map_cons, List.map_nil, inD_eq, dsD_lt h0 hl] at h hp ⊢
  (rw [show (It.code L26a) = It.code (sub B26 [1, 1, 1, 1, 1, 0, 0, 0]) from rfl]; simp only [B26, K26a, sub, Option.getD_some, Tryz.f26, ↓reduceIte, Nat.one_ne_zero])
  simp only [zS, nilEq, wantedA, opA, eff, boxA, cells, ev, gt, pt, putO, updO, setO, okC, loadA, cutC, fieldAddrA, fieldA, indexAddrA, indexA, builtinA, callOpA, callV, target, ptrV, lenS, binA, intOp, strOp, unA, num, lk, over, allocA, pickA, buildA, fillA, convertA, extractA, ofComp, nilCheckA, makeFuncA, ptrs, ofValue, cellB, Nat.reduceAdd, Nat.reduceSub, Nat.reduceMul, Nat.reduceLT, Nat.reduceLeDiff, Nat.reduceGT, ↓reduceIte, Nat.reduceEqDiff, Nat.reduceBEq, reduceCtorEq, Int.reduceBEq, Int.reduceBNe, Int.reduceLT, Int.reduceLE, Int.reduceGT, Int.reduceGE, aggT_24, sizeT_24, bytesT_24, fieldT_24_0, placesT_24, zeroT_24, aggT_22, sizeT_22, bytesT_22, und_22, elemT_22, isSliceT_22, zero1_22, zeroT_22, aggT_39, sizeT_39, bytesT_39, fieldT_39_0, fieldT_39_1, fieldT_39_2, fieldT_39_3, fieldT_39_4, fieldT_39_5, fieldT_39_6, fieldT_39_7, fieldT_39_8, placesT_39, zeroT_39, aggT_37, sizeT_37, bytesT_37, und_37, elemT_37, isSliceT_37, zero1_37, zeroT_37, aggT_33, sizeT_33, bytesT_33, fieldT_33_0, fieldT_33_1, fieldT_33_2, fieldT_33_3, fieldT_33_4, placesT_33, zeroT_33, aggT_31, sizeT_31, bytesT_31, und_31, elemT_31, isSliceT_31, zero1_31, zeroT_31, aggT_9, sizeT_9, bytesT_9, und_9, zero1_9, zeroT_9, aggT_3, sizeT_3, bytesT_3, und_3, zero1_3, zeroT_3, aggT_43, sizeT_43, bytesT_43, und_43, elemT_43, isSliceT_43, zero1_43, zeroT_43, aggT_102, sizeT_102, bytesT_102, und_102, elemT_102, isSliceT_102, zero1_102, zeroT_102, drawA, holes_succ, holes_zero, Array.size, List.length, h0, hl, k1', Int.toNat_natCast, hk, dcD_eq d, Int.toNat_zero, hp]
  rw [afterDraw_some _ _ _ _ (by kernel_rfl)]
  simp only [zS, nilEq, wantedA, opA, eff, boxA, cells, ev, gt, pt, putO, updO, setO, okC, loadA, cutC, fieldAddrA, fieldA, indexAddrA, indexA, builtinA, callOpA, callV, target, ptrV, lenS, binA, intOp, strOp, unA, num, lk, over, allocA, pickA, buildA, fillA, convertA, extractA, ofComp, nilCheckA, makeFuncA, ptrs, ofValue, cellB, Nat.reduceAdd, Nat.reduceSub, Nat.reduceMul, Nat.reduceLT, Nat.reduceLeDiff, Nat.reduceGT, ↓reduceIte, Nat.reduceEqDiff, Nat.reduceBEq, reduceCtorEq, Int.reduceBEq, Int.reduceBNe, Int.reduceLT, Int.reduceLE, Int.reduceGT, Int.reduceGE, aggT_24, sizeT_24, bytesT_24, fieldT_24_0, placesT_24, zeroT_24, aggT_22, sizeT_22, bytesT_22, und_22, elemT_22, isSliceT_22, zero1_22, zeroT_22, aggT_39, sizeT_39, bytesT_39, fieldT_39_0, fieldT_39_1, fieldT_39_2, fieldT_39_3, fieldT_39_4, fieldT_39_5, fieldT_39_6, fieldT_39_7, fieldT_39_8, placesT_39, zeroT_39, aggT_37, sizeT_37, bytesT_37, und_37, elemT_37, isSliceT_37, zero1_37, zeroT_37, aggT_33, sizeT_33, bytesT_33, fieldT_33_0, fieldT_33_1, fieldT_33_2, fieldT_33_3, fieldT_33_4, placesT_33, zeroT_33, aggT_31, sizeT_31, bytesT_31, und_31, elemT_31, isSliceT_31, zero1_31, zeroT_31, aggT_9, sizeT_9, bytesT_9, und_9, zero1_9, zeroT_9, aggT_3, sizeT_3, bytesT_3, und_3, zero1_3, zeroT_3, aggT_43, sizeT_43, bytesT_43, und_43, elemT_43, isSliceT_43, zero1_43, zeroT_43, aggT_102, sizeT_102, bytesT_102, und_102, elemT_102, isSliceT_102, zero1_102, zeroT_102, slice_tail, slS_cons]
  (refine (r_inLoop_some ?_).trans h; kernel_rfl)
theorem stepB26 (x : Tb) (f : Int) (W : List Bool) (T : List Int) (ps : List Tm) (p : Tm) (ns : List ByteArray) (k : Nat) (hk : ps[k]? = some p) (hl : (k : Int) < ps.length) (hr : run Tryz.prog ext (.call 77 [tmV p] []) = some (.ret [dV (listD true 1 (ns.map stD))] [])) (out : Option Out)
    (h : H26c ext 0 (E26c f ps k ns 0) (O26 x W T) = out) : H26b ext 0 (E26b f ps k) (O26 x W T) = out := by
  have h0 : (0 : Int) ≤ k := by omega
  unfold H26c at h
  unfold H26b
  simp only [tmV, tmC, dV, iV, E26b, E26c, O26] at h hr ⊢
  (rw [show (It.code L26b) = It.code (sub B26 [1, 1, 1, 1, 1, 0, 0, 0, 1, 0, 1, 1, 1, 0, 0]) from rfl]; simp only [B26, K26b, sub, Option.getD_some, Tryz.f26, ↓reduceIte, Nat.one_ne_zero])
  simp only [zS, nilEq, wantedA, opA, eff, boxA, cells, ev, gt, pt, putO, updO, setO, okC, loadA, cutC, fieldAddrA, fieldA, indexAddrA, indexA, builtinA, callOpA, callV, target, ptrV, lenS, binA, intOp, strOp, unA, num, lk, over, allocA, pickA, buildA, fillA, convertA, extractA, ofComp, nilCheckA, makeFuncA, ptrs, ofValue, cellB, Nat.reduceAdd, Nat.reduceSub, Nat.reduceMul, Nat.reduceLT, Nat.reduceLeDiff, Nat.reduceGT, ↓reduceIte, Nat.reduceEqDiff, Nat.reduceBEq, reduceCtorEq, Int.reduceBEq, Int.reduceBNe, Int.reduceLT, Int.reduceLE, Int.reduceGT, Int.reduceGE, aggT_24, sizeT_24, bytesT_24, fieldT_24_0, placesT_24, zeroT_24, aggT_33, sizeT_33, bytesT_33, fieldT_33_0, fieldT_33_1, fieldT_33_2, fieldT_33_3, fieldT_33_4, placesT_33, zeroT_33, aggT_31, sizeT_31, bytesT_31, und_31, elemT_31, isSliceT_31, zero1_31, zeroT_31, aggT_9, sizeT_9, bytesT_9, und_9, zero1_9, zeroT_9, aggT_3, sizeT_3, bytesT_3, und_3, zero1_3, zeroT_3, aggT_43, sizeT_43, bytesT_43, und_43, elemT_43, isSliceT_43, zero1_43, zeroT_43, aggT_52, sizeT_52, bytesT_52, und_52, elemT_52, isSliceT_52, zero1_52, zeroT_52, aggT_102, sizeT_102, bytesT_102, und_102, elemT_102, isSliceT_102, zero1_102, zeroT_102, h0, hl, Int.toNat_natCast, hk, tmD_eq p, hr]
  (refine (r_inLoop_some ?_).trans h; kernel_rfl)
theorem doneB26 (x : Tb) (f : Int) (W : List Bool) (T : List Int) (ps : List Tm) (out : Option Out) (h : H26a ext 0 (E26a f) (O26 x W T) = out) : H26b ext 0 (E26b f ps ps.length) (O26 x W T) = out := by
  unfold H26a at h
  unfold H26b
  simp only [dV, iV, E26a, E26b, O26] at h ⊢
  (rw [show (It.code L26b) = It.code (sub B26 [1, 1, 1, 1, 1, 0, 0, 0, 1, 0, 1, 1, 1, 0, 0]) from rfl]; simp only [B26, K26b, sub, Option.getD_some, Tryz.f26, ↓reduceIte, Nat.one_ne_zero])
  simp only [zS, nilEq, wantedA, opA, eff, boxA, cells, ev, gt, pt, putO, updO, setO, okC, loadA, cutC, fieldAddrA, fieldA, indexAddrA, indexA, builtinA, callOpA, callV, target, ptrV, lenS, binA, intOp, strOp, unA, num, lk, over, allocA, pickA, buildA, fillA, convertA, extractA, ofComp, nilCheckA, makeFuncA, ptrs, ofValue, cellB, Nat.reduceAdd, Nat.reduceSub, Nat.reduceMul, Nat.reduceLT, Nat.reduceLeDiff, Nat.reduceGT, ↓reduceIte, Nat.reduceEqDiff, Nat.reduceBEq, reduceCtorEq, Int.reduceBEq, Int.reduceBNe, Int.reduceLT, Int.reduceLE, Int.reduceGT, Int.reduceGE, aggT_24, sizeT_24, bytesT_24, fieldT_24_0, placesT_24, zeroT_24, aggT_33, sizeT_33, bytesT_33, fieldT_33_0, fieldT_33_1, fieldT_33_2, fieldT_33_3, fieldT_33_4, placesT_33, zeroT_33, aggT_31, sizeT_31, bytesT_31, und_31, elemT_31, isSliceT_31, zero1_31, zeroT_31, aggT_9, sizeT_9, bytesT_9, und_9, zero1_9, zeroT_9, aggT_3, sizeT_3, bytesT_3, und_3, zero1_3, zeroT_3, aggT_43, sizeT_43, bytesT_43, und_43, elemT_43, isSliceT_43, zero1_43, zeroT_43, aggT_52, sizeT_52, bytesT_52, und_52, elemT_52, isSliceT_52, zero1_52, zeroT_52, aggT_102, sizeT_102, bytesT_102, und_102, elemT_102, isSliceT_102, zero1_102, zeroT_102, Int.lt_irrefl]
  (refine (r_inLoop_some ?_).trans h; kernel_rfl)
theorem doneC26 (x : Tb) (f : Int) (W : List Bool) (T : List Int) (ps : List Tm) (k : Int) (ns : List ByteArray) (out : Option Out) (h : H26b ext 0 (E26b f ps (wr (k + 1))) (O26 x W T) = out) : H26c ext 0 (E26c f ps k ns ns.length) (O26 x W T) = out := by
  unfold H26b at h
  unfold H26c
  simp only [dV, iV, E26b, E26c, O26] at h ⊢
  (rw [show (It.code L26c) = It.code (sub B26 [1, 1, 1, 1, 1, 0, 0, 0, 1, 0, 1, 1, 1, 0, 0, 1, 0, 0, 1, 1, 0, 0]) from rfl]; simp only [B26, K26c, sub, Option.getD_some, Tryz.f26, ↓reduceIte, Nat.one_ne_zero])
  simp only [zS, nilEq, wantedA, opA, eff, boxA, cells, ev, gt, pt, putO, updO, setO, okC, loadA, cutC, fieldAddrA, fieldA, indexAddrA, indexA, builtinA, callOpA, callV, target, ptrV, lenS, binA, intOp, strOp, unA, num, lk, over, allocA, pickA, buildA, fillA, convertA, extractA, ofComp, nilCheckA, makeFuncA, ptrs, ofValue, cellB, Nat.reduceAdd, Nat.reduceSub, Nat.reduceMul, Nat.reduceLT, Nat.reduceLeDiff, Nat.reduceGT, ↓reduceIte, Nat.reduceEqDiff, Nat.reduceBEq, reduceCtorEq, Int.reduceBEq, Int.reduceBNe, Int.reduceLT, Int.reduceLE, Int.reduceGT, Int.reduceGE, aggT_24, sizeT_24, bytesT_24, fieldT_24_0, placesT_24, zeroT_24, aggT_33, sizeT_33, bytesT_33, fieldT_33_0, fieldT_33_1, fieldT_33_2, fieldT_33_3, fieldT_33_4, placesT_33, zeroT_33, aggT_31, sizeT_31, bytesT_31, und_31, elemT_31, isSliceT_31, zero1_31, zeroT_31, aggT_9, sizeT_9, bytesT_9, und_9, zero1_9, zeroT_9, aggT_3, sizeT_3, bytesT_3, und_3, zero1_3, zeroT_3, aggT_43, sizeT_43, bytesT_43, und_43, elemT_43, isSliceT_43, zero1_43, zeroT_43, aggT_52, sizeT_52, bytesT_52, und_52, elemT_52, isSliceT_52, zero1_52, zeroT_52, aggT_102, sizeT_102, bytesT_102, und_102, elemT_102, isSliceT_102, zero1_102, zeroT_102, Int.lt_irrefl]
  (refine (r_inLoop_some ?_).trans h; kernel_rfl)
theorem stepC26 (x : Tb) (f : Int) (W : List Bool) (T : List Int) (ps : List Tm) (k : Int) (ns : List ByteArray) (n : ByteArray) (hb : T.length < 2 ^ 29) (j : Nat) (hk : ns[j]? = some n) (hl : (j : Int) < ns.length) (i : Int) (hr : run Tryz.prog ext (.call 37 [tbV x, sV n] []) = some (.ret [iV i] [])) (c1 : 0 ≤ i) (hi : i < W.length) (b : Bool) (hW : W[i.toNat]? = some b) (out : Option Out)
    (h : H26c ext 0 (E26c f ps k ns (wr ((j : Int) + 1))) (match b with | false => O26 x (W.set i.toNat true) (T ++ [i]) | true => O26 x W T) = out) : H26c ext 0 (E26c f ps k ns j) (O26 x W T) = out := by
  have h0 : (0 : Int) ≤ j := by omega
  have hd : listD true 1 (ns.map stD) = .s 1 (ns.map stD) := listD_of_lt h0 (by simpa using hl)
  unfold H26c at h ⊢
  cases b with
  | false =>
    have hb' : T.length ≤ 1000000000 := by omega
    dsimp only at h
    simp only [tbV, tbC, sV, dV, iV, E26c, O26, hd, List.map_append, List.map_cons, List.map_nil, List.map_set, inD_eq i, boD_eq true] at h hr ⊢
    (rw [show (It.code L26c) = It.code (sub B26 [1, 1, 1, 1, 1, 0, 0, 0, 1, 0, 1, 1, 1, 0, 0, 1, 0, 0, 1, 1, 0, 0]) from rfl]; simp only [B26, K26c, sub, Option.getD_some, Tryz.f26, ↓reduceIte, Nat.one_ne_zero])
    simp only [zS, nilEq, wantedA, opA, eff, boxA, cells, ev, gt, pt, putO, updO, setO, okC, loadA, cutC, fieldAddrA, fieldA, indexAddrA, indexA, builtinA, callOpA, callV, target, ptrV, lenS, binA, intOp, strOp, unA, num, lk, over, allocA, pickA, buildA, fillA, convertA, extractA, ofComp, nilCheckA, makeFuncA, ptrs, ofValue, cellB, Nat.reduceAdd, Nat.reduceSub, Nat.reduceMul, Nat.reduceLT, Nat.reduceLeDiff, Nat.reduceGT, ↓reduceIte, Nat.reduceEqDiff, Nat.reduceBEq, reduceCtorEq, Int.reduceBEq, Int.reduceBNe, Int.reduceLT, Int.reduceLE, Int.reduceGT, Int.reduceGE, aggT_24, sizeT_24, bytesT_24, fieldT_24_0, placesT_24, zeroT_24, aggT_33, sizeT_33, bytesT_33, fieldT_33_0, fieldT_33_1, fieldT_33_2, fieldT_33_3, fieldT_33_4, placesT_33, zeroT_33, aggT_31, sizeT_31, bytesT_31, und_31, elemT_31, isSliceT_31, zero1_31, zeroT_31, aggT_9, sizeT_9, bytesT_9, und_9, zero1_9, zeroT_9, aggT_3, sizeT_3, bytesT_3, und_3, zero1_3, zeroT_3, aggT_4, sizeT_4, bytesT_4, und_4, zero1_4, zeroT_4, aggT_43, sizeT_43, bytesT_43, und_43, elemT_43, isSliceT_43, zero1_43, zeroT_43, aggT_52, sizeT_52, bytesT_52, und_52, elemT_52, isSliceT_52, zero1_52, zeroT_52, aggT_102, sizeT_102, bytesT_102, und_102, elemT_102, isSliceT_102, zero1_102, zeroT_102, drawA, holes_succ, holes_zero, Array.size, List.length, h0, hl, Int.toNat_natCast, hk, stD, hr]
    rw [afterDraw_some _ _ _ _ (by kernel_rfl)]
    simp only [zS, nilEq, wantedA, opA, eff, boxA, cells, ev, gt, pt, putO, updO, setO, okC, loadA, cutC, fieldAddrA, fieldA, indexAddrA, indexA, builtinA, callOpA, callV, target, ptrV, lenS, binA, intOp, strOp, unA, num, lk, over, allocA, pickA, buildA, fillA, convertA, extractA, ofComp, nilCheckA, makeFuncA, ptrs, ofValue, cellB, Nat.reduceAdd, Nat.reduceSub, Nat.reduceMul, Nat.reduceLT, Nat.reduceLeDiff, Nat.reduceGT, ↓reduceIte, Nat.reduceEqDiff, Nat.reduceBEq, reduceCtorEq, Int.reduceBEq, Int.reduceBNe, Int.reduceLT, Int.reduceLE, Int.reduceGT, Int.reduceGE, aggT_24, sizeT_24, bytesT_24, fieldT_24_0, placesT_24, zeroT_24, aggT_33, sizeT_33, bytesT_33, fieldT_33_0, fieldT_33_1, fieldT_33_2, fieldT_33_3, fieldT_33_4, placesT_33, zeroT_33, aggT_31, sizeT_31, bytesT_31, und_31, elemT_31, isSliceT_31, zero1_31, zeroT_31, aggT_9, sizeT_9, bytesT_9, und_9, zero1_9, zeroT_9, aggT_3, sizeT_3, bytesT_3, und_3, zero1_3, zeroT_3, aggT_4, sizeT_4, bytesT_4, und_4, zero1_4, zeroT_4, aggT_43, sizeT_43, bytesT_43, und_43, elemT_43, isSliceT_43, zero1_43, zeroT_43, aggT_52, sizeT_52, bytesT_52, und_52, elemT_52, isSliceT_52, zero1_52, zeroT_52, aggT_102, sizeT_102, bytesT_102, und_102, elemT_102, isSliceT_102, zero1_102, zeroT_102, ge_iff_le, c1, hi, hW, boD, stK, toDs, toD, kills, List.contains_nil, bsIn, oo43, apG_arr, hb']
    (refine (r_inLoop_some ?_).trans h; kernel_rfl)
  | true =>
    dsimp only at h
    simp only [tbV, tbC, sV, dV, iV, E26c, O26, hd] at h hr ⊢
    (rw [show (It.code L26c) = It.code (sub B26 [1, 1, 1, 1, 1, 0, 0, 0, 1, 0, 1, 1, 1, 0, 0, 1, 0, 0, 1, 1, 0, 0]) from rfl]; simp only [B26, K26c, sub, Option.getD_some, Tryz.f26, ↓reduceIte, Nat.one_ne_zero])
    simp only [zS, nilEq, wantedA, opA, eff, boxA, cells, ev, gt, pt, putO, updO, setO, okC, loadA, cutC, fieldAddrA, fieldA, indexAddrA, indexA, builtinA, callOpA, callV, target, ptrV, lenS, binA, intOp, strOp, unA, num, lk, over, allocA, pickA, buildA, fillA, convertA, extractA, ofComp, nilCheckA, makeFuncA, ptrs, ofValue, cellB, Nat.reduceAdd, Nat.reduceSub, Nat.reduceMul, Nat.reduceLT, Nat.reduceLeDiff, Nat.reduceGT, ↓reduceIte, Nat.reduceEqDiff, Nat.reduceBEq, reduceCtorEq, Int.reduceBEq, Int.reduceBNe, Int.reduceLT, Int.reduceLE, Int.reduceGT, Int.reduceGE, aggT_24, sizeT_24, bytesT_24, fieldT_24_0, placesT_24, zeroT_24, aggT_33, sizeT_33, bytesT_33, fieldT_33_0, fieldT_33_1, fieldT_33_2, fieldT_33_3, fieldT_33_4, placesT_33, zeroT_33, aggT_31, sizeT_31, bytesT_31, und_31, elemT_31, isSliceT_31, zero1_31, zeroT_31, aggT_9, sizeT_9, bytesT_9, und_9, zero1_9, zeroT_9, aggT_3, sizeT_3, bytesT_3, und_3, zero1_3, zeroT_3, aggT_4, sizeT_4, bytesT_4, und_4, zero1_4, zeroT_4, aggT_43, sizeT_43, bytesT_43, und_43, elemT_43, isSliceT_43, zero1_43, zeroT_43, aggT_52, sizeT_52, bytesT_52, und_52, elemT_52, isSliceT_52, zero1_52, zeroT_52, aggT_102, sizeT_102, bytesT_102, und_102, elemT_102, isSliceT_102, zero1_102, zeroT_102, drawA, holes_succ, holes_zero, Array.size, List.length, h0, hl, Int.toNat_natCast, hk, stD, hr]
    rw [afterDraw_some _ _ _ _ (by kernel_rfl)]
    simp only [zS, nilEq, wantedA, opA, eff, boxA, cells, ev, gt, pt, putO, updO, setO, okC, loadA, cutC, fieldAddrA, fieldA, indexAddrA, indexA, builtinA, callOpA, callV, target, ptrV, lenS, binA, intOp, strOp, unA, num, lk, over, allocA, pickA, buildA, fillA, convertA, extractA, ofComp, nilCheckA, makeFuncA, ptrs, ofValue, cellB, Nat.reduceAdd, Nat.reduceSub, Nat.reduceMul, Nat.reduceLT, Nat.reduceLeDiff, Nat.reduceGT, ↓reduceIte, Nat.reduceEqDiff, Nat.reduceBEq, reduceCtorEq, Int.reduceBEq, Int.reduceBNe, Int.reduceLT, Int.reduceLE, Int.reduceGT, Int.reduceGE, aggT_24, sizeT_24, bytesT_24, fieldT_24_0, placesT_24, zeroT_24, aggT_33, sizeT_33, bytesT_33, fieldT_33_0, fieldT_33_1, fieldT_33_2, fieldT_33_3, fieldT_33_4, placesT_33, zeroT_33, aggT_31, sizeT_31, bytesT_31, und_31, elemT_31, isSliceT_31, zero1_31, zeroT_31, aggT_9, sizeT_9, bytesT_9, und_9, zero1_9, zeroT_9, aggT_3, sizeT_3, bytesT_3, und_3, zero1_3, zeroT_3, aggT_4, sizeT_4, bytesT_4, und_4, zero1_4, zeroT_4, aggT_43, sizeT_43, bytesT_43, und_43, elemT_43, isSliceT_43, zero1_43, zeroT_43, aggT_52, sizeT_52, bytesT_52, und_52, elemT_52, isSliceT_52, zero1_52, zeroT_52, aggT_102, sizeT_102, bytesT_102, und_102, elemT_102, isSliceT_102, zero1_102, zeroT_102, ge_iff_le, c1, hi, hW, boD]
    (refine (r_inLoop_some ?_).trans h; kernel_rfl)
theorem skipC26 (x : Tb) (f : Int) (W : List Bool) (T : List Int) (ps : List Tm) (k : Int) (ns : List ByteArray) (n : ByteArray) (j : Nat) (hk : ns[j]? = some n) (hl : (j : Int) < ns.length) (i : Int) (hr : run Tryz.prog ext (.call 37 [tbV x, sV n] []) = some (.ret [iV i] [])) (c1 : ¬ 0 ≤ i) (out : Option Out)
    (h : H26c ext 0 (E26c f ps k ns (wr ((j : Int) + 1))) (O26 x W T) = out) : H26c ext 0 (E26c f ps k ns j) (O26 x W T) = out := by
  have h0 : (0 : Int) ≤ j := by omega
  have hd : listD true 1 (ns.map stD) = .s 1 (ns.map stD) := listD_of_lt h0 (by simpa using hl)
  unfold H26c at h ⊢
  simp only [tbV, tbC, sV, dV, iV, E26c, O26, hd] at h hr ⊢
  (rw [show (It.code L26c) = It.code (sub B26 [1, 1, 1, 1, 1, 0, 0, 0, 1, 0, 1, 1, 1, 0, 0, 1, 0, 0, 1, 1, 0, 0]) from rfl]; simp only [B26, K26c, sub, Option.getD_some, Tryz.f26, ↓reduceIte, Nat.one_ne_zero])
  simp only [zS, nilEq, wantedA, opA, eff, boxA, cells, ev, gt, pt, putO, updO, setO, okC, loadA, cutC, fieldAddrA, fieldA, indexAddrA, indexA, builtinA, callOpA, callV, target, ptrV, lenS, binA, intOp, strOp, unA, num, lk, over, allocA, pickA, buildA, fillA, convertA, extractA, ofComp, nilCheckA, makeFuncA, ptrs, ofValue, cellB, Nat.reduceAdd, Nat.reduceSub, Nat.reduceMul, Nat.reduceLT, Nat.reduceLeDiff, Nat.reduceGT, ↓reduceIte, Nat.reduceEqDiff, Nat.reduceBEq, reduceCtorEq, Int.reduceBEq, Int.reduceBNe, Int.reduceLT, Int.reduceLE, Int.reduceGT, Int.reduceGE, aggT_24, sizeT_24, bytesT_24, fieldT_24_0, placesT_24, zeroT_24, aggT_33, sizeT_33, bytesT_33, fieldT_33_0, fieldT_33_1, fieldT_33_2, fieldT_33_3, fieldT_33_4, placesT_33, zeroT_33, aggT_31, sizeT_31, bytesT_31, und_31, elemT_31, isSliceT_31, zero1_31, zeroT_31, aggT_9, sizeT_9, bytesT_9, und_9, zero1_9, zeroT_9, aggT_3, sizeT_3, bytesT_3, und_3, zero1_3, zeroT_3, aggT_4, sizeT_4, bytesT_4, und_4, zero1_4, zeroT_4, aggT_43, sizeT_43, bytesT_43, und_43, elemT_43, isSliceT_43, zero1_43, zeroT_43, aggT_52, sizeT_52, bytesT_52, und_52, elemT_52, isSliceT_52, zero1_52, zeroT_52, aggT_102, sizeT_102, bytesT_102, und_102, elemT_102, isSliceT_102, zero1_102, zeroT_102, drawA, holes_succ, holes_zero, Array.size, List.length, h0, hl, Int.toNat_natCast, hk, stD, hr]
  rw [afterDraw_some _ _ _ _ (by kernel_rfl)]
  simp only [zS, nilEq, wantedA, opA, eff, boxA, cells, ev, gt, pt, putO, updO, setO, okC, loadA, cutC, fieldAddrA, fieldA, indexAddrA, indexA, builtinA, callOpA, callV, target, ptrV, lenS, binA, intOp, strOp, unA, num, lk, over, allocA, pickA, buildA, fillA, convertA, extractA, ofComp, nilCheckA, makeFuncA, ptrs, ofValue, cellB, Nat.reduceAdd, Nat.reduceSub, Nat.reduceMul, Nat.reduceLT, Nat.reduceLeDiff, Nat.reduceGT, ↓reduceIte, Nat.reduceEqDiff, Nat.reduceBEq, reduceCtorEq, Int.reduceBEq, Int.reduceBNe, Int.reduceLT, Int.reduceLE, Int.reduceGT, Int.reduceGE, aggT_24, sizeT_24, bytesT_24, fieldT_24_0, placesT_24, zeroT_24, aggT_33, sizeT_33, bytesT_33, fieldT_33_0, fieldT_33_1, fieldT_33_2, fieldT_33_3, fieldT_33_4, placesT_33, zeroT_33, aggT_31, sizeT_31, bytesT_31, und_31, elemT_31, isSliceT_31, zero1_31, zeroT_31, aggT_9, sizeT_9, bytesT_9, und_9, zero1_9, zeroT_9, aggT_3, sizeT_3, bytesT_3, und_3, zero1_3, zeroT_3, aggT_4, sizeT_4, bytesT_4, und_4, zero1_4, zeroT_4, aggT_43, sizeT_43, bytesT_43, und_43, elemT_43, isSliceT_43, zero1_43, zeroT_43, aggT_52, sizeT_52, bytesT_52, und_52, elemT_52, isSliceT_52, zero1_52, zeroT_52, aggT_102, sizeT_102, bytesT_102, und_102, elemT_102, isSliceT_102, zero1_102, zeroT_102, ge_iff_le, c1]
  (refine (r_inLoop_some ?_).trans h; kernel_rfl)
theorem doneA26 (x : Tb) (f : Int) (W : List Bool) (out : Option Out) (h : H26d ext 0 (E26d f [] 0) (O26d x W []) = out) : H26a ext 0 (E26a f) (O26 x W []) = out := by
  have e0 : ((0 : Nat) : Int) = 0 := rfl
  unfold H26d at h
  unfold H26a
  simp only [dV, iV, E26a, E26d, O26, O26d, List.map_nil, mkV_nil, mkO_nil] at h ⊢
  (rw [show (It.code L26a) = It.code (sub B26 [1, 1, 1, 1, 1, 0, 0, 0]) from rfl]; simp only [B26, K26a, sub, Option.getD_some, Tryz.f26, ↓reduceIte, Nat.one_ne_zero])
  simp only [zS, nilEq, wantedA, opA, eff, boxA, cells, ev, gt, pt, putO, updO, setO, okC, loadA, cutC, fieldAddrA, fieldA, indexAddrA, indexA, builtinA, callOpA, callV, target, ptrV, lenS, binA, intOp, strOp, unA, num, lk, over, allocA, pickA, buildA, fillA, convertA, extractA, ofComp, nilCheckA, makeFuncA, ptrs, ofValue, cellB, Nat.reduceAdd, Nat.reduceSub, Nat.reduceMul, Nat.reduceLT, Nat.reduceLeDiff, Nat.reduceGT, ↓reduceIte, Nat.reduceEqDiff, Nat.reduceBEq, reduceCtorEq, Int.reduceBEq, Int.reduceBNe, Int.reduceLT, Int.reduceLE, Int.reduceGT, Int.reduceGE, aggT_24, sizeT_24, bytesT_24, fieldT_24_0, placesT_24, zeroT_24, aggT_22, sizeT_22, bytesT_22, und_22, elemT_22, isSliceT_22, zero1_22, zeroT_22, aggT_39, sizeT_39, bytesT_39, fieldT_39_0, fieldT_39_1, fieldT_39_2, fieldT_39_3, fieldT_39_4, fieldT_39_5, fieldT_39_6, fieldT_39_7, fieldT_39_8, placesT_39, zeroT_39, aggT_31, sizeT_31, bytesT_31, und_31, elemT_31, isSliceT_31, zero1_31, zeroT_31, aggT_9, sizeT_9, bytesT_9, und_9, zero1_9, zeroT_9, aggT_3, sizeT_3, bytesT_3, und_3, zero1_3, zeroT_3, aggT_43, sizeT_43, bytesT_43, und_43, elemT_43, isSliceT_43, zero1_43, zeroT_43, aggT_52, sizeT_52, bytesT_52, und_52, elemT_52, isSliceT_52, zero1_52, zeroT_52, aggT_102, sizeT_102, bytesT_102, und_102, elemT_102, isSliceT_102, zero1_102, zeroT_102, e0, Int.lt_irrefl, gt_iff_lt]
  (refine (r_inLoop_some ?_).trans h; kernel_rfl)
theorem stepD26 (x : Tb) (y : Dc) (f : Int) (W : List Bool) (ls : List ByteArray) (hb : ls.length < 2 ^ 29) (k : Nat) (hk : x.ds[k]? = some y) (hl : (k : Int) < x.ds.length) (b0 : Bool) (hW : W[k]? = some b0) (hlW : (k : Int) < W.length) (b : Bool) (hc : (b0 && ((k : Int) != f)) = b) (out : Option Out)
    (h : H26d ext 0 (E26d f (if b = true then ls ++ [y.name] else ls) (wr ((k : Int) + 1))) (O26d x W (if b = true then ls ++ [y.name] else ls)) = out) : H26d ext 0 (E26d f ls k) (O26d x W ls) = out := by
  have h0 : (0 : Int) ≤ k := by omega
  unfold H26d at h ⊢
  cases b0 with
  | false =>
    rw [Bool.false_and] at hc
    subst hc
    rw [if_neg (by simp)] at h
    cases ls
    all_goals
      simp only [dV, iV, E26d, O26d, dsD_lt h0 hl, List.map_cons, List.map_nil, mkV_nil, mkV_cons, mkO_nil, mkO_cons] at h ⊢
      (rw [show (It.code L26d) = It.code (sub B26 [1, 1, 1, 1, 1, 1, 1, 0, 1, 0, 0]) from rfl]; simp only [B26, K26d, sub, Option.getD_some, Tryz.f26, ↓reduceIte, Nat.one_ne_zero])
      simp only [zS, nilEq, wantedA, opA, eff, boxA, cells, ev, gt, pt, putO, updO, setO, okC, loadA, cutC, fieldAddrA, fieldA, indexAddrA, indexA, builtinA, callOpA, callV, target, ptrV, lenS, binA, intOp, strOp, unA, num, lk, over, allocA, pickA, buildA, fillA, convertA, extractA, ofComp, nilCheckA, makeFuncA, ptrs, ofValue, cellB, Nat.reduceAdd, Nat.reduceSub, Nat.reduceMul, Nat.reduceLT, Nat.reduceLeDiff, Nat.reduceGT, ↓reduceIte, Nat.reduceEqDiff, Nat.reduceBEq, reduceCtorEq, Int.reduceBEq, Int.reduceBNe, Int.reduceLT, Int.reduceLE, Int.reduceGT, Int.reduceGE, aggT_24, sizeT_24, bytesT_24, fieldT_24_0, placesT_24, zeroT_24, aggT_39, sizeT_39, bytesT_39, fieldT_39_0, fieldT_39_1, fieldT_39_2, fieldT_39_3, fieldT_39_4, fieldT_39_5, fieldT_39_6, fieldT_39_7, fieldT_39_8, placesT_39, zeroT_39, aggT_22, sizeT_22, bytesT_22, und_22, elemT_22, isSliceT_22, zero1_22, zeroT_22, aggT_43, sizeT_43, bytesT_43, und_43, elemT_43, isSliceT_43, zero1_43, zeroT_43, aggT_52, sizeT_52, bytesT_52, und_52, elemT_52, isSliceT_52, zero1_52, zeroT_52, aggT_9, sizeT_9, bytesT_9, und_9, zero1_9, zeroT_9, aggT_4, sizeT_4, bytesT_4, und_4, zero1_4, zeroT_4, aggT_3, sizeT_3, bytesT_3, und_3, zero1_3, zeroT_3, aggT_102, sizeT_102, bytesT_102, und_102, elemT_102, isSliceT_102, zero1_102, zeroT_102, h0, hl, hlW, Int.toNat_natCast, hk, dcD_eq y, hW, boD]
      (refine (r_inLoop_some ?_).trans h; kernel_rfl)
  | true =>
    rw [Bool.true_and] at hc
    cases b with
    | false =>
      rw [if_neg (by simp)] at h
      cases ls
      all_goals
        simp only [dV, iV, E26d, O26d, dsD_lt h0 hl, List.map_cons, List.map_nil, mkV_nil, mkV_cons, mkO_nil, mkO_cons] at h ⊢
        (rw [show (It.code L26d) = It.code (sub B26 [1, 1, 1, 1, 1, 1, 1, 0, 1, 0, 0]) from rfl]; simp only [B26, K26d, sub, Option.getD_some, Tryz.f26, ↓reduceIte, Nat.one_ne_zero])
        simp only [zS, nilEq, wantedA, opA, eff, boxA, cells, ev, gt, pt, putO, updO, setO, okC, loadA, cutC, fieldAddrA, fieldA, indexAddrA, indexA, builtinA, callOpA, callV, target, ptrV, lenS, binA, intOp, strOp, unA, num, lk, over, allocA, pickA, buildA, fillA, convertA, extractA, ofComp, nilCheckA, makeFuncA, ptrs, ofValue, cellB, Nat.reduceAdd, Nat.reduceSub, Nat.reduceMul, Nat.reduceLT, Nat.reduceLeDiff, Nat.reduceGT, ↓reduceIte, Nat.reduceEqDiff, Nat.reduceBEq, reduceCtorEq, Int.reduceBEq, Int.reduceBNe, Int.reduceLT, Int.reduceLE, Int.reduceGT, Int.reduceGE, aggT_24, sizeT_24, bytesT_24, fieldT_24_0, placesT_24, zeroT_24, aggT_39, sizeT_39, bytesT_39, fieldT_39_0, fieldT_39_1, fieldT_39_2, fieldT_39_3, fieldT_39_4, fieldT_39_5, fieldT_39_6, fieldT_39_7, fieldT_39_8, placesT_39, zeroT_39, aggT_22, sizeT_22, bytesT_22, und_22, elemT_22, isSliceT_22, zero1_22, zeroT_22, aggT_43, sizeT_43, bytesT_43, und_43, elemT_43, isSliceT_43, zero1_43, zeroT_43, aggT_52, sizeT_52, bytesT_52, und_52, elemT_52, isSliceT_52, zero1_52, zeroT_52, aggT_9, sizeT_9, bytesT_9, und_9, zero1_9, zeroT_9, aggT_4, sizeT_4, bytesT_4, und_4, zero1_4, zeroT_4, aggT_3, sizeT_3, bytesT_3, und_3, zero1_3, zeroT_3, aggT_102, sizeT_102, bytesT_102, und_102, elemT_102, isSliceT_102, zero1_102, zeroT_102, h0, hl, hlW, Int.toNat_natCast, hk, dcD_eq y, hW, boD, hc]
        (refine (r_inLoop_some ?_).trans h; kernel_rfl)
    | true =>
      rw [if_pos rfl] at h
      cases ls with
      | nil =>
        simp only [dV, iV, E26d, O26d, dsD_lt h0 hl, List.map_append, List.map_cons, List.map_nil, mkV_nil, mkO_nil, mkV_snoc, mkO_snoc, List.nil_append, stD_eq] at h ⊢
        (rw [show (It.code L26d) = It.code (sub B26 [1, 1, 1, 1, 1, 1, 1, 0, 1, 0, 0]) from rfl]; simp only [B26, K26d, sub, Option.getD_some, Tryz.f26, ↓reduceIte, Nat.one_ne_zero])
        simp only [zS, nilEq, wantedA, opA, eff, boxA, cells, ev, gt, pt, putO, updO, setO, okC, loadA, cutC, fieldAddrA, fieldA, indexAddrA, indexA, builtinA, callOpA, callV, target, ptrV, lenS, binA, intOp, strOp, unA, num, lk, over, allocA, pickA, buildA, fillA, convertA, extractA, ofComp, nilCheckA, makeFuncA, ptrs, ofValue, cellB, Nat.reduceAdd, Nat.reduceSub, Nat.reduceMul, Nat.reduceLT, Nat.reduceLeDiff, Nat.reduceGT, ↓reduceIte, Nat.reduceEqDiff, Nat.reduceBEq, reduceCtorEq, Int.reduceBEq, Int.reduceBNe, Int.reduceLT, Int.reduceLE, Int.reduceGT, Int.reduceGE, aggT_24, sizeT_24, bytesT_24, fieldT_24_0, placesT_24, zeroT_24, aggT_39, sizeT_39, bytesT_39, fieldT_39_0, fieldT_39_1, fieldT_39_2, fieldT_39_3, fieldT_39_4, fieldT_39_5, fieldT_39_6, fieldT_39_7, fieldT_39_8, placesT_39, zeroT_39, aggT_22, sizeT_22, bytesT_22, und_22, elemT_22, isSliceT_22, zero1_22, zeroT_22, aggT_43, sizeT_43, bytesT_43, und_43, elemT_43, isSliceT_43, zero1_43, zeroT_43, aggT_52, sizeT_52, bytesT_52, und_52, elemT_52, isSliceT_52, zero1_52, zeroT_52, aggT_9, sizeT_9, bytesT_9, und_9, zero1_9, zeroT_9, aggT_4, sizeT_4, bytesT_4, und_4, zero1_4, zeroT_4, aggT_3, sizeT_3, bytesT_3, und_3, zero1_3, zeroT_3, aggT_102, sizeT_102, bytesT_102, und_102, elemT_102, isSliceT_102, zero1_102, zeroT_102, h0, hl, hlW, Int.toNat_natCast, hk, dcD_eq y, hW, boD, hc, bsSt, no52, apH_arr, Nat.zero_le]
        (refine (r_inLoop_some ?_).trans h; kernel_rfl)
      | cons a r =>
        have hb' : r.length + 1 ≤ 1000000000 := by simp only [List.length_cons] at hb; omega
        simp only [dV, iV, E26d, O26d, dsD_lt h0 hl, List.map_append, List.map_cons, List.map_nil, mkV_cons, mkO_cons, mkV_snoc, mkO_snoc, List.cons_append, List.nil_append, stD_eq] at h ⊢
        (rw [show (It.code L26d) = It.code (sub B26 [1, 1, 1, 1, 1, 1, 1, 0, 1, 0, 0]) from rfl]; simp only [B26, K26d, sub, Option.getD_some, Tryz.f26, ↓reduceIte, Nat.one_ne_zero])
        simp only [zS, nilEq, wantedA, opA, eff, boxA, cells, ev, gt, pt, putO, updO, setO, okC, loadA, cutC, fieldAddrA, fieldA, indexAddrA, indexA, builtinA, callOpA, callV, target, ptrV, lenS, binA, intOp, strOp, unA, num, lk, over, allocA, pickA, buildA, fillA, convertA, extractA, ofComp, nilCheckA, makeFuncA, ptrs, ofValue, cellB, Nat.reduceAdd, Nat.reduceSub, Nat.reduceMul, Nat.reduceLT, Nat.reduceLeDiff, Nat.reduceGT, ↓reduceIte, Nat.reduceEqDiff, Nat.reduceBEq, reduceCtorEq, Int.reduceBEq, Int.reduceBNe, Int.reduceLT, Int.reduceLE, Int.reduceGT, Int.reduceGE, aggT_24, sizeT_24, bytesT_24, fieldT_24_0, placesT_24, zeroT_24, aggT_39, sizeT_39, bytesT_39, fieldT_39_0, fieldT_39_1, fieldT_39_2, fieldT_39_3, fieldT_39_4, fieldT_39_5, fieldT_39_6, fieldT_39_7, fieldT_39_8, placesT_39, zeroT_39, aggT_22, sizeT_22, bytesT_22, und_22, elemT_22, isSliceT_22, zero1_22, zeroT_22, aggT_43, sizeT_43, bytesT_43, und_43, elemT_43, isSliceT_43, zero1_43, zeroT_43, aggT_52, sizeT_52, bytesT_52, und_52, elemT_52, isSliceT_52, zero1_52, zeroT_52, aggT_9, sizeT_9, bytesT_9, und_9, zero1_9, zeroT_9, aggT_4, sizeT_4, bytesT_4, und_4, zero1_4, zeroT_4, aggT_3, sizeT_3, bytesT_3, und_3, zero1_3, zeroT_3, aggT_102, sizeT_102, bytesT_102, und_102, elemT_102, isSliceT_102, zero1_102, zeroT_102, h0, hl, hlW, Int.toNat_natCast, hk, dcD_eq y, hW, boD, hc, bsSt, oo52, apG_arr, hb']
        (refine (r_inLoop_some ?_).trans h; kernel_rfl)
theorem doneD26 (x : Tb) (f : Int) (W : List Bool) (ls : List ByteArray) : H26d ext 0 (E26d f ls W.length) (O26d x W ls) = some (.ret [dV (listD true 1 (ls.map stD)), iV 0] []) := by
  unfold H26d
  cases ls
  all_goals
    simp only [dV, iV, E26d, O26d, List.map_cons, List.map_nil, mkV_nil, mkV_cons, mkO_nil, mkO_cons]
    (rw [show (It.code L26d) = It.code (sub B26 [1, 1, 1, 1, 1, 1, 1, 0, 1, 0, 0]) from rfl]; simp only [B26, K26d, sub, Option.getD_some, Tryz.f26, ↓reduceIte, Nat.one_ne_zero])
    simp only [zS, nilEq, wantedA, opA, eff, boxA, cells, ev, gt, pt, putO, updO, setO, okC, loadA, cutC, fieldAddrA, fieldA, indexAddrA, indexA, builtinA, callOpA, callV, target, ptrV, lenS, binA, intOp, strOp, unA, num, lk, over, allocA, pickA, buildA, fillA, convertA, extractA, ofComp, nilCheckA, makeFuncA, ptrs, ofValue, cellB, Nat.reduceAdd, Nat.reduceSub, Nat.reduceMul, Nat.reduceLT, Nat.reduceLeDiff, Nat.reduceGT, ↓reduceIte, Nat.reduceEqDiff, Nat.reduceBEq, reduceCtorEq, Int.reduceBEq, Int.reduceBNe, Int.reduceLT, Int.reduceLE, Int.reduceGT, Int.reduceGE, aggT_24, sizeT_24, bytesT_24, fieldT_24_0, placesT_24, zeroT_24, aggT_22, sizeT_22, bytesT_22, und_22, elemT_22, isSliceT_22, zero1_22, zeroT_22, aggT_52, sizeT_52, bytesT_52, und_52, elemT_52, isSliceT_52, zero1_52, zeroT_52, aggT_3, sizeT_3, bytesT_3, und_3, zero1_3, zeroT_3, aggT_102, sizeT_102, bytesT_102, und_102, elemT_102, isSliceT_102, zero1_102, zeroT_102, Int.lt_irrefl]
    (refine Eq.trans ?_ rfl; kernel_rfl)
end Go.Proofs.YteenjodhmppgjaaGreatDoor.Am
end
section
/- Uses: both sides come to the same. -/
namespace Go.Proofs.YteenjodhmppgjaaGreatDoor.Am
open Go
/-! ### the search, plain -/
def nmD (d : Dc) : List ByteArray := (parts d).flatMap (nms [])
def useD (x : Tb) (st : List Int × List Int) (d : Dc) : List Int × List Int := (nmD d).foldl (pushN x) st
def bfs (x : Tb) : Nat → List Int × List Int → List Int
  | 0, st => st.1
  | _ + 1, (S, []) => S
  | M + 1, (S, t :: T) => match x.ds[t.toNat]? with | some d => bfs x M (useD x (S, T) d) | none => S
def useN (x : Tb) (S : List Int) (f : Int) : List ByteArray := pickE (fun k _ => S.contains (k : Int) && ((k : Int) != f)) (fun _ d => d.name) 0 x.ds
theorem find_lt (x : Tb) (s : ByteArray) : find x s < x.ds.length := by
  unfold find idxI
  split
  · rename_i k e
    have := (List.findIdx?_eq_some_iff_findIdx_eq.1 e).1
    omega
  · omega
def cnt (n : Nat) (S : List Int) : Nat := ((List.range n).filter fun i : Nat => !S.contains (i : Int)).length
theorem filter_lt {α : Type} (p q : α → Bool) : ∀ (l : List α) (a : α), a ∈ l → p a = false → q a = true → (∀ x, p x = true → q x = true) → (l.filter p).length + 1 ≤ (l.filter q).length
  | [], _, h, _, _, _ => by cases h
  | b :: l, a, h, hp, hq, hpq => by
    have hle : ∀ l : List α, (l.filter p).length ≤ (l.filter q).length := by
      intro l
      induction l with
      | nil => simp
      | cons c l ih =>
        simp only [List.filter_cons]
        cases e : p c with
        | true => rw [hpq c e]; simp only [if_true, List.length_cons]; omega
        | false => cases q c <;> simp <;> omega
    rcases List.mem_cons.1 h with rfl | h
    · have := hle l
      simp only [List.filter_cons, hp, hq, Bool.false_eq_true, if_false, if_true, List.length_cons]; omega
    · have ih := filter_lt p q l a h hp hq hpq
      simp only [List.filter_cons]
      cases e : p b with
      | true => rw [hpq b e]; simp only [if_true, List.length_cons]; omega
      | false => cases q b <;> simp <;> omega
theorem cnt_push (n : Nat) (S : List Int) (i : Int) (h0 : 0 ≤ i) (h1 : i < n) (h : S.contains i = false) : cnt n (S ++ [i]) + 1 ≤ cnt n S := by
  obtain ⟨k, rfl⟩ := Int.eq_ofNat_of_zero_le h0
  unfold cnt
  refine filter_lt _ _ (List.range n) k (by simp; omega) ?_ ?_ fun y hy => ?_
  · simp
  · have : S.contains (k : Int) = false := h
    simp only [this, Bool.not_false]
  · simp only [Bool.not_eq_true', List.contains_eq_mem, List.mem_append, decide_eq_false_iff_not, not_or] at hy ⊢
    exact hy.1
theorem cnt_le (n : Nat) (S : List Int) : cnt n S ≤ n := by
  have := List.length_filter_le (fun i : Nat => !S.contains (i : Int)) (List.range n)
  simpa [cnt] using this
structure Fine (x : Tb) (B M : Nat) (st : List Int × List Int) : Prop where
  ok : ∀ t ∈ st.2, ∃ k : Nat, t = (k : Int) ∧ k < x.ds.length
  room : st.2.length + cnt x.ds.length st.1 ≤ B
  fuel : 2 * cnt x.ds.length st.1 + st.2.length ≤ M
theorem push_fine {x : Tb} {B M : Nat} {st : List Int × List Int} (h : Fine x B M st) (n : ByteArray) : Fine x B M (pushN x st n) := by
  unfold pushN
  split
  · rename_i c
    have hlt := find_lt x n
    have hc := cnt_push x.ds.length st.1 (find x n) c.1 hlt c.2
    obtain ⟨h1, h2, h3⟩ := h
    refine ⟨fun t ht => ?_, ?_, ?_⟩
    · rcases List.mem_append.1 ht with ht | ht
      · exact h1 t ht
      · obtain ⟨k, hk⟩ := Int.eq_ofNat_of_zero_le c.1
        have : t = find x n := by simpa using ht
        exact ⟨k, by rw [this, hk], by omega⟩
    · simp only [List.length_append, List.length_cons, List.length_nil]; omega
    · simp only [List.length_append, List.length_cons, List.length_nil]; omega
  · exact h
theorem fold_fine {x : Tb} {B M : Nat} : ∀ (ns : List ByteArray) {st : List Int × List Int}, Fine x B M st → Fine x B M (ns.foldl (pushN x) st)
  | [], _, h => h
  | n :: ns, _, h => fold_fine ns (push_fine h n)
theorem fold_flat (f : List Int × List Int → ByteArray → List Int × List Int) (g : Tm → List ByteArray) : ∀ (ps : List Tm) (st : List Int × List Int), (ps.flatMap g).foldl f st = ps.foldl (fun st p => (g p).foldl f st) st
  | [], _ => rfl
  | p :: ps, st => by rw [List.flatMap_cons, List.foldl_append, fold_flat f g ps]; rfl
theorem fold_push (x : Tb) : ∀ (ns : List ByteArray) (S T : List Int), ∃ A, ns.foldl (pushN x) (S, T) = (S ++ A, T ++ A) ∧ (∀ a ∈ A, ∃ n ∈ ns, find x n = a ∧ 0 ≤ a) ∧ ∀ n ∈ ns, 0 ≤ find x n → find x n ∈ S ++ A
  | [], S, T => ⟨[], by simp, by simp, by simp⟩
  | n :: ns, S, T => by
    rw [List.foldl_cons]
    by_cases c : 0 ≤ find x n ∧ S.contains (find x n) = false
    · have e : pushN x (S, T) n = (S ++ [find x n], T ++ [find x n]) := by unfold pushN; rw [if_pos c]
      rw [e]
      obtain ⟨A, h1, h2, h3⟩ := fold_push x ns (S ++ [find x n]) (T ++ [find x n])
      refine ⟨find x n :: A, by rw [h1]; simp, fun a ha => ?_, fun m hm h0 => ?_⟩
      · rcases List.mem_cons.1 ha with rfl | ha
        · exact ⟨n, List.mem_cons_self, rfl, c.1⟩
        · obtain ⟨m, hm, e⟩ := h2 a ha; exact ⟨m, List.mem_cons_of_mem _ hm, e⟩
      · rcases List.mem_cons.1 hm with rfl | hm
        · simp
        · have := h3 m hm h0; simpa using this
    · have e : pushN x (S, T) n = (S, T) := by unfold pushN; rw [if_neg c]
      rw [e]
      obtain ⟨A, h1, h2, h3⟩ := fold_push x ns S T
      refine ⟨A, h1, fun a ha => ?_, fun m hm h0 => ?_⟩
      · obtain ⟨m, hm, e⟩ := h2 a ha; exact ⟨m, List.mem_cons_of_mem _ hm, e⟩
      · rcases List.mem_cons.1 hm with rfl | hm
        · have : S.contains (find x m) = true := by
            cases hc : S.contains (find x m) with
            | true => rfl
            | false => exact absurd ⟨h0, hc⟩ c
          simp only [List.contains_eq_mem, decide_eq_true_eq] at this
          exact List.mem_append_left _ this
        · exact h3 m hm h0
def leads (x : Tb) (i j : Int) : Prop := ∃ d, x.ds[i.toNat]? = some d ∧ ∃ n ∈ nmD d, find x n = j ∧ 0 ≤ j
inductive Far (x : Tb) : Int → Int → Prop
  | one {a b : Int} : leads x a b → Far x a b
  | more {a b c : Int} : leads x a b → Far x b c → Far x a c
theorem Far.trans {x : Tb} {a b c : Int} (h : Far x a b) (k : Far x b c) : Far x a c := by
  induction h with
  | one h => exact .more h k
  | more h _ ih => exact .more h (ih k)
theorem Far.into {x : Tb} {R : List Int} (hR : ∀ k ∈ R, ∀ j, leads x k j → j ∈ R) {a b : Int} (h : Far x a b) (ha : ∀ j, leads x a j → j ∈ R) : b ∈ R := by
  induction h with
  | one h => exact ha _ h
  | more h _ ih => exact ih (hR _ (ha _ h))
theorem bfs_law (x : Tb) (B : Nat) : ∀ (M : Nat) (S T : List Int), Fine x B M (S, T) → (∀ i ∈ S, i ∈ bfs x M (S, T)) ∧ (∀ t ∈ T, ∀ j, leads x t j → j ∈ bfs x M (S, T)) ∧ (∀ i ∈ bfs x M (S, T), i ∈ S ∨ ∃ t ∈ T, Far x t i) ∧ (∀ i ∈ bfs x M (S, T), i ∉ S → ∀ j, leads x i j → j ∈ bfs x M (S, T))
  | 0, S, T, h => by
    have : T = [] := List.eq_nil_of_length_eq_zero (by have := h.fuel; dsimp only at this; omega)
    subst this
    simp only [bfs]
    exact ⟨fun _ h => h, by simp, fun i h => .inl h, fun i h h' => absurd h h'⟩
  | M + 1, S, [], h => by
    simp only [bfs]
    exact ⟨fun _ h => h, by simp, fun i h => .inl h, fun i h h' => absurd h h'⟩
  | M + 1, S, t :: T, h => by
    obtain ⟨k, rfl, hk⟩ := h.ok t List.mem_cons_self
    have hd : x.ds[((k : Int)).toNat]? = some x.ds[k] := by simp [hk]
    have e : bfs x (M + 1) (S, (k : Int) :: T) = bfs x M (useD x (S, T) x.ds[k]) := by rw [bfs]; rw [hd]
    have hf : Fine x B M (useD x (S, T) x.ds[k]) := by
      refine fold_fine _ ⟨fun t ht => h.ok t (List.mem_cons_of_mem _ ht), ?_, ?_⟩
      · have := h.room; simp only [List.length_cons] at this ⊢; omega
      · have := h.fuel; simp only [List.length_cons] at this ⊢; omega
    obtain ⟨A, a1, a2, a3⟩ := fold_push x (nmD x.ds[k]) S T
    have a1' : useD x (S, T) x.ds[k] = (S ++ A, T ++ A) := a1
    rw [a1'] at hf e
    obtain ⟨b1, b2, b3, b4⟩ := bfs_law x B M (S ++ A) (T ++ A) hf
    rw [e]
    refine ⟨fun i hi => b1 i (List.mem_append_left _ hi), fun t ht j hj => ?_, fun i hi => ?_, fun i hi hn j hj => ?_⟩
    · rcases List.mem_cons.1 ht with rfl | ht
      · obtain ⟨d, q1, n, q2, q3, q4⟩ := hj
        rw [hd] at q1
        cases q1
        exact b1 j (by rw [← q3]; exact a3 n q2 (by rw [q3]; exact q4))
      · exact b2 t (List.mem_append_left _ ht) j hj
    · have key : ∀ a ∈ A, leads x (k : Int) a := fun a ha => by
        obtain ⟨n, q1, q2, q3⟩ := a2 a ha
        exact ⟨_, hd, n, q1, q2, q3⟩
      rcases b3 i hi with h | ⟨t, ht, hF⟩
      · rcases List.mem_append.1 h with h | h
        · exact .inl h
        · exact .inr ⟨_, List.mem_cons_self, .one (key i h)⟩
      · rcases List.mem_append.1 ht with h | h
        · exact .inr ⟨t, List.mem_cons_of_mem _ h, hF⟩
        · exact .inr ⟨_, List.mem_cons_self, .more (key t h) hF⟩
    · by_cases hA : i ∈ A
      · exact b2 i (List.mem_append_right _ hA) j hj
      · exact b4 i hi (fun h => (List.mem_append.1 h).elim hn hA) j hj
theorem bfs_same (x : Tb) (B M : Nat) (f : Int) (h1 : Fine x B M ([f], [f])) (h2 : Fine x B M ([], [f])) (i : Int) (hi : i ≠ f) : i ∈ bfs x M ([f], [f]) ↔ i ∈ bfs x M ([], [f]) := by
  obtain ⟨a1, a2, a3, a4⟩ := bfs_law x B M [f] [f] h1
  obtain ⟨b1, b2, b3, b4⟩ := bfs_law x B M [] [f] h2
  constructor
  · intro h
    rcases a3 i h with h | ⟨t, ht, hF⟩
    · exact absurd (by simpa using h) hi
    · have : t = f := by simpa using ht
      subst this
      exact hF.into (fun k hk j hj => b4 k hk (by simp) j hj) (fun j hj => b2 t ht j hj)
  · intro h
    rcases b3 i h with h | ⟨t, ht, hF⟩
    · cases h
    · have : t = f := by simpa using ht
      subst this
      refine hF.into (fun k hk j hj => ?_) (fun j hj => a2 t ht j hj)
      by_cases e : k = t
      · subst e; exact a2 k ht j hj
      · exact a4 k hk (by simpa using e) j hj
theorem pickE_congr {α β : Type} {p q : Nat → α → Bool} {g : Nat → α → β} : ∀ (l : List α) (k : Nat), (∀ k x, p k x = q k x) → pickE p g k l = pickE q g k l
  | [], _, _ => rfl
  | x :: l, k, h => by rw [pickE, pickE, h, pickE_congr l (k + 1) h]
theorem useN_same (x : Tb) (f : Int) (h0 : 0 ≤ f) (h1 : f < x.ds.length) : useN x (bfs x (2 * x.ds.length + 1) ([f], [f])) f = useN x (bfs x (2 * x.ds.length + 1) ([], [f])) f := by
  obtain ⟨k, rfl⟩ := Int.eq_ofNat_of_zero_le h0
  have c1 := cnt_le x.ds.length [(k : Int)]
  have c2 := cnt_le x.ds.length []
  have ok : ∀ t ∈ [(k : Int)], ∃ j : Nat, t = (j : Int) ∧ j < x.ds.length := fun t ht => ⟨k, by simpa using ht, by omega⟩
  have F1 : Fine x (x.ds.length + 1) (2 * x.ds.length + 1) ([(k : Int)], [(k : Int)]) := ⟨ok, by simp only [List.length_cons, List.length_nil]; omega, by simp only [List.length_cons, List.length_nil]; omega⟩
  have F2 : Fine x (x.ds.length + 1) (2 * x.ds.length + 1) ([], [(k : Int)]) := ⟨ok, by simp only [List.length_cons, List.length_nil]; omega, by simp only [List.length_cons, List.length_nil]; omega⟩
  unfold useN
  refine pickE_congr _ _ fun j d => ?_
  by_cases e : (j : Int) = (k : Int)
  · simp [e]
  · have := bfs_same x _ _ (k : Int) F1 F2 (j : Int) e
    rw [Bool.eq_iff_iff]
    simp only [Bool.and_eq_true, List.contains_eq_mem, decide_eq_true_eq, this]
end Go.Proofs.YteenjodhmppgjaaGreatDoor.Am
end
section
/- Uses, by the program and by the reference. -/
namespace Go.Proofs.YteenjodhmppgjaaGreatDoor.Am
open Go
variable (ext : Ext)
set_option maxHeartbeats 8000000
set_option maxRecDepth 4000
theorem take_push {f : List Int × List Int → ByteArray → List Int × List Int} {ns : List ByteArray} {k : Nat} {n : ByteArray} (st : List Int × List Int) (hk : ns[k]? = some n) : (ns.take (k + 1)).foldl f st = f ((ns.take k).foldl f st) n := by
  rw [List.take_add_one, hk]; simp
theorem take_part {f : List Int × List Int → Tm → List Int × List Int} {ns : List Tm} {k : Nat} {n : Tm} (st : List Int × List Int) (hk : ns[k]? = some n) : (ns.take (k + 1)).foldl f st = f ((ns.take k).foldl f st) n := by
  rw [List.take_add_one, hk]; simp
theorem parts_len (d : Dc) : (parts d).length = 3 + d.cons.length := by simp [parts]; omega
section
variable (x : Tb) (d : Dc) (h22 : ∀ n, run Tryz.prog ext (.call 22 [tbV x, sV n] []) = some (.ret [iV (find x n)] []))
  (h75 : ∀ p ∈ parts d, run Tryz.prog ext (.call 75 [tmV p] []) = some (.ret [dV (listD true 1 ((nms [] p).map stD))] [])) (hc : d.cons.length < 2 ^ 28) (hl : ∀ p ∈ parts d, (nms [] p).length < 2 ^ 28)
include h22 h75 hc hl
theorem iter25 (f : Int) (S : List Int) (t : Nat) (T : List Int) (hk : x.ds[t]? = some d) (ht : (t : Int) < x.ds.length) (B M : Nat) (hB : B < 2 ^ 29) (hf : Fine x B M (S, T)) : H25a ext 0 (E25a f) (O25 x (S, (t : Int) :: T)) = H25a ext 0 (E25a f) (O25 x (useD x (S, T) d)) := by
  refine stepA25 ext x d f S t T hk ht _ ?_
  have hb := loop_inv d.cons (fun k ps => H25b ext 0 (E25b f d k) (O25p x (S, T) (d.type :: ps))) (fun k ps => ps = [d.body, d.param] ++ (d.cons.take k).map Con.arg) (fun o => o = H25a ext 0 (E25a f) (O25 x (useD x (S, T) d))) (by omega)
    (fun k c ps hI hk hlt => ⟨ps ++ [c.arg], by rw [hI, List.take_add_one, hk]; simp, fun out ho => stepB25 ext x d c f (S, T) d.type ps (by rw [hI]; simp; omega) k hk hlt out ho⟩) (fun ps hI => by
      have e : d.type :: ps = parts d := by rw [hI, List.take_length]; rfl
      rw [e]
      refine doneB25 ext x d f (S, T) (parts d) _ ?_
      have hcc := loop_inv (parts d) (fun k st => H25c ext 0 (E25c f (parts d).length k) (O25p x st (parts d))) (fun k st => st = ((parts d).take k).foldl (fun st p => (nms [] p).foldl (pushN x) st) (S, T) ∧ Fine x B M st)
        (fun o => o = H25a ext 0 (E25a f) (O25 x (useD x (S, T) d))) (by rw [parts_len]; omega)
        (fun k p st hI hk hlt => by
          have hp := List.mem_of_getElem? hk
          refine ⟨(nms [] p).foldl (pushN x) st, ⟨by rw [take_part _ hk, ← hI.1], fold_fine _ hI.2⟩, fun out ho => ?_⟩
          refine stepC25 ext x f st (parts d) p (nms [] p) k hk hlt (h75 p hp) out ?_
          have hd := loop_inv (nms [] p) (fun j st' => H25d ext 0 (E25d f (parts d).length k (nms [] p) j) (O25p x st' (parts d))) (fun j st' => st' = ((nms [] p).take j).foldl (pushN x) st ∧ Fine x B M st')
            (fun o => o = out) (by have := hl p hp; omega)
            (fun j n st' hJ hj hjl => ⟨pushN x st' n, ⟨by rw [take_push _ hj, ← hJ.1], push_fine hJ.2 n⟩, fun out ho => stepD25 ext x f st' (parts d) k (nms [] p) n (by have := hJ.2.room; omega) j hj hjl (h22 n) out ho⟩) (fun st' hJ => by
              refine doneD25 ext x f st' (parts d) k (nms [] p) out ?_
              rw [hJ.1, List.take_length]; exact ho) st ⟨rfl, hI.2⟩
          exact hd) (fun st hI => by
          refine doneC25 ext x f st (parts d) _ ?_
          rw [hI.1, List.take_length]
          unfold useD nmD
          rw [fold_flat]) (S, T) ⟨rfl, hf⟩
      exact hcc) [d.body, d.param] (by simp)
  exact hb
end
theorem fin25 (x : Tb) (hs : x.ds.length < 2 ^ 29) (f : Int) (S : List Int) : H25e ext 0 (E25e x f [] 0) (O25e S []) = some (.ret [dV (listD true 1 ((useN x S f).map stD)), iV 0] []) := by
  unfold useN
  exact loop_pick (fun k _ => S.contains (k : Int) && ((k : Int) != f)) (fun _ (d : Dc) => d.name) x.ds (fun k ls => H25e ext 0 (E25e x f ls k) (O25e S ls)) (fun ls => some (.ret [dV (listD true 1 (ls.map stD)), iV 0] [])) (by omega)
    (fun k y ls hk hl he => by
      refine ⟨fun hp out h => ?_, fun hp out h => ?_⟩
      · refine stepE25 ext x y f S ls (by omega) k hk hl true hp out ?_
        rw [if_pos rfl]; exact h
      · refine stepE25 ext x y f S ls (by omega) k hk hl false hp out ?_
        rw [if_neg (by simp)]; exact h) (fun ls _ => doneE25 ext x f S ls)
/-- What the search asks of the table. -/
structure TbU (x : Tb) : Prop where
  ds : x.ds.length < 2 ^ 28
  cons : ∀ d ∈ x.ds, d.cons.length < 2 ^ 28
  small : ∀ d ∈ x.ds, ∀ p ∈ parts d, p.sz < 2 ^ 24
theorem run25 (x : Tb) (hu : TbU x) (h22 : ∀ n, run Tryz.prog ext (.call 22 [tbV x, sV n] []) = some (.ret [iV (find x n)] [])) (h75 : ∀ p : Tm, p.sz < 2 ^ 24 → run Tryz.prog ext (.call 75 [tmV p] []) = some (.ret [dV (listD true 1 ((nms [] p).map stD))] [])) (f : Int) (B : Nat) (hB : B < 2 ^ 29) :
    ∀ (M : Nat) (S T : List Int), Fine x B M (S, T) → H25a ext 0 (E25a f) (O25 x (S, T)) = some (.ret [dV (listD true 1 ((useN x (bfs x M (S, T)) f).map stD)), iV 0] [])
  | 0, S, T, h => by
    have : T = [] := List.eq_nil_of_length_eq_zero (by have := h.fuel; dsimp only at this; omega)
    subst this
    exact doneA25 ext x f S _ (fin25 ext x (by have := hu.ds; omega) f S)
  | M + 1, S, [], h => doneA25 ext x f S _ (fin25 ext x (by have := hu.ds; omega) f S)
  | M + 1, S, t :: T, h => by
    obtain ⟨k, rfl, hk⟩ := h.ok t List.mem_cons_self
    have hd : x.ds[k]? = some x.ds[k] := by simp [hk]
    have hm := List.mem_of_getElem? hd
    have hd' : x.ds[((k : Int)).toNat]? = some x.ds[k] := by simp [hk]
    have e : bfs x (M + 1) (S, (k : Int) :: T) = bfs x M (useD x (S, T) x.ds[k]) := by rw [bfs]; rw [hd']
    have hf : Fine x B M (S, T) := by
      refine ⟨fun t ht => h.ok t (List.mem_cons_of_mem _ ht), ?_, ?_⟩
      · have := h.room; simp only [List.length_cons] at this ⊢; omega
      · have := h.fuel; simp only [List.length_cons] at this ⊢; omega
    have hf' : Fine x B M (useD x (S, T) x.ds[k]) := fold_fine _ hf
    rw [e, iter25 ext x x.ds[k] h22 (fun p hp => h75 p (hu.small _ hm p hp)) (hu.cons _ hm) (fun p hp => by have := nms_len p.sz p (Nat.le_refl _) []; have := hu.small _ hm p hp; simp at *; omega) f S k T hd (by omega) B M hB hf]
    exact run25 x hu h22 h75 f B hB M _ _ hf'
def usesOf (x : Tb) (s : ByteArray) : List ByteArray × Int := if find x s < 0 then ([], 3) else (useN x (bfs x (2 * x.ds.length + 1) ([], [find x s])) (find x s), 0)
theorem fine_init (x : Tb) (f : Int) (h0 : 0 ≤ f) (h1 : f < x.ds.length) (S : List Int) : Fine x (x.ds.length + 1) (2 * x.ds.length + 1) (S, [f]) := by
  obtain ⟨k, rfl⟩ := Int.eq_ofNat_of_zero_le h0
  have c := cnt_le x.ds.length S
  exact ⟨fun t ht => ⟨k, by simpa using ht, by omega⟩, by simp only [List.length_cons, List.length_nil]; omega, by simp only [List.length_cons, List.length_nil]; omega⟩
theorem uses25 (hx : ext 25 = none) (x : Tb) (s : ByteArray) (hu : TbU x) (h22 : ∀ n, run Tryz.prog ext (.call 22 [tbV x, sV n] []) = some (.ret [iV (find x n)] [])) (h75 : ∀ p : Tm, p.sz < 2 ^ 24 → run Tryz.prog ext (.call 75 [tmV p] []) = some (.ret [dV (listD true 1 ((nms [] p).map stD))] [])) :
    run Tryz.prog ext (.call 25 [tbV x, sV s] []) = some (.ret [dV (listD true 1 ((usesOf x s).1.map stD)), iV (usesOf x s).2] []) := by
  unfold usesOf
  by_cases c : find x s < 0
  · rw [if_pos c]; exact bad25 ext hx x s _ c (h22 s)
  · rw [if_neg c]
    refine enter25 ext hx x s _ c (h22 s) _ ?_
    have hlt := find_lt x s
    rw [run25 ext x hu h22 h75 _ (x.ds.length + 1) (by have := hu.ds; omega) (2 * x.ds.length + 1) _ _ (fine_init x _ (by omega) hlt _), useN_same x _ (by omega) hlt]
/-! ### by the reference -/
def bits (n : Nat) (S : List Int) : List Bool := (List.range n).map fun i : Nat => S.contains (i : Int)
theorem bits_len (n : Nat) (S : List Int) : (bits n S).length = n := by simp [bits]
theorem bits_get (n : Nat) (S : List Int) (k : Nat) (h : k < n) : (bits n S)[k]? = some (S.contains (k : Int)) := by simp [bits, h]
theorem bits_nil (n : Nat) : bits n [] = List.replicate n false := by
  refine List.ext_getElem? fun i => ?_
  by_cases h : i < n
  · rw [bits_get n [] i h]; simp [h]
  · rw [List.getElem?_eq_none (by rw [bits_len]; omega), List.getElem?_eq_none (by simp; omega)]
theorem bits_set (n : Nat) (S : List Int) (k : Nat) (h : k < n) : (bits n S).set k true = bits n (S ++ [(k : Int)]) := by
  refine List.ext_getElem? fun i => ?_
  by_cases hi : i < n
  · rw [bits_get n _ i hi, List.getElem?_set, bits_len]
    by_cases e : k = i
    · subst e; simp [hi]
    · rw [if_neg e, bits_get n S i hi]
      have : ¬ ((i : Int) = (k : Int)) := by omega
      simp only [List.contains_eq_mem, List.mem_append, List.mem_singleton, this, or_false]
  · rw [List.getElem?_eq_none (by rw [List.length_set, bits_len]; omega), List.getElem?_eq_none (by rw [bits_len]; omega)]
def O26s (x : Tb) (st : List Int × List Int) : List O := O26 x (bits x.ds.length st.1) st.2
theorem push26 (x : Tb) (f : Int) (st : List Int × List Int) (ps : List Tm) (k : Int) (ns : List ByteArray) (n : ByteArray) (hb : st.2.length < 2 ^ 29) (j : Nat) (hk : ns[j]? = some n) (hl : (j : Int) < ns.length) (hr : run Tryz.prog ext (.call 37 [tbV x, sV n] []) = some (.ret [iV (find x n)] [])) (out : Option Out)
    (h : H26c ext 0 (E26c f ps k ns (wr ((j : Int) + 1))) (O26s x (pushN x st n)) = out) : H26c ext 0 (E26c f ps k ns j) (O26s x st) = out := by
  obtain ⟨S, T⟩ := st
  have hlt := find_lt x n
  by_cases c1 : 0 ≤ find x n
  · obtain ⟨i, hi⟩ := Int.eq_ofNat_of_zero_le c1
    have hi2 : i < x.ds.length := by omega
    have hW : (bits x.ds.length S)[(find x n).toNat]? = some (S.contains (find x n)) := by
      rw [hi]; exact bits_get _ S i hi2
    have hlW : find x n < (bits x.ds.length S).length := by rw [bits_len]; exact hlt
    unfold pushN at h
    cases c2 : S.contains (find x n) with
    | false =>
      rw [c2] at hW
      rw [if_pos ⟨c1, c2⟩] at h
      refine stepC26 ext x f (bits x.ds.length S) T ps k ns n hb j hk hl (find x n) hr c1 hlW false hW out ?_
      dsimp only
      have e : (bits x.ds.length S).set (find x n).toNat true = bits x.ds.length (S ++ [find x n]) := by
        rw [hi]; exact bits_set _ S i hi2
      rw [e]; exact h
    | true =>
      rw [c2] at hW
      rw [if_neg (by rw [c2]; simp)] at h
      exact stepC26 ext x f (bits x.ds.length S) T ps k ns n hb j hk hl (find x n) hr c1 hlW true hW out h
  · have hp : pushN x (S, T) n = (S, T) := by unfold pushN; rw [if_neg (fun h => c1 h.1)]
    rw [hp] at h
    exact skipC26 ext x f (bits x.ds.length S) T ps k ns n j hk hl (find x n) hr c1 out h
section
variable (x : Tb) (d : Dc) (h37 : ∀ n, run Tryz.prog ext (.call 37 [tbV x, sV n] []) = some (.ret [iV (find x n)] [])) (h76 : run Tryz.prog ext (.call 76 [dcV d] []) = some (.ret [dV (.s 5 ((parts d).map tmD))] []))
  (h77 : ∀ p ∈ parts d, run Tryz.prog ext (.call 77 [tmV p] []) = some (.ret [dV (listD true 1 ((nms [] p).map stD))] [])) (hc : d.cons.length < 2 ^ 28) (hl : ∀ p ∈ parts d, (nms [] p).length < 2 ^ 28)
include h37 h76 h77 hc hl
theorem iter26 (f : Int) (S : List Int) (t : Nat) (T : List Int) (hk : x.ds[t]? = some d) (ht : (t : Int) < x.ds.length) (B M : Nat) (hB : B < 2 ^ 29) (hf : Fine x B M (S, T)) : H26a ext 0 (E26a f) (O26s x (S, (t : Int) :: T)) = H26a ext 0 (E26a f) (O26s x (useD x (S, T) d)) := by
  refine stepA26 ext x d f (bits x.ds.length S) t T (parts d) h76 hk ht _ ?_
  have hcc := loop_inv (parts d) (fun k st => H26b ext 0 (E26b f (parts d) k) (O26s x st)) (fun k st => st = ((parts d).take k).foldl (fun st p => (nms [] p).foldl (pushN x) st) (S, T) ∧ Fine x B M st)
    (fun o => o = H26a ext 0 (E26a f) (O26s x (useD x (S, T) d))) (by rw [parts_len]; omega)
    (fun k p st hI hk hlt => by
      have hp := List.mem_of_getElem? hk
      refine ⟨(nms [] p).foldl (pushN x) st, ⟨by rw [take_part _ hk, ← hI.1], fold_fine _ hI.2⟩, fun out ho => ?_⟩
      refine stepB26 ext x f _ st.2 (parts d) p (nms [] p) k hk hlt (h77 p hp) out ?_
      have hd := loop_inv (nms [] p) (fun j st' => H26c ext 0 (E26c f (parts d) k (nms [] p) j) (O26s x st')) (fun j st' => st' = ((nms [] p).take j).foldl (pushN x) st ∧ Fine x B M st')
        (fun o => o = out) (by have := hl p hp; omega)
        (fun j n st' hJ hj hjl => ⟨pushN x st' n, ⟨by rw [take_push _ hj, ← hJ.1], push_fine hJ.2 n⟩, fun out ho => push26 ext x f st' (parts d) k (nms [] p) n (by have := hJ.2.room; omega) j hj hjl (h37 n) out ho⟩) (fun st' hJ => by
          refine doneC26 ext x f _ st'.2 (parts d) k (nms [] p) out ?_
          rw [hJ.1, List.take_length]; exact ho) st ⟨rfl, hI.2⟩
      exact hd) (fun st hI => by
      refine doneB26 ext x f _ st.2 (parts d) _ ?_
      rw [hI.1, List.take_length]
      unfold useD nmD
      rw [fold_flat]; rfl) (S, T) ⟨rfl, hf⟩
  exact hcc
end
theorem fin26 (x : Tb) (hs : x.ds.length < 2 ^ 29) (f : Int) (S : List Int) : H26d ext 0 (E26d f [] 0) (O26d x (bits x.ds.length S) []) = some (.ret [dV (listD true 1 ((useN x S f).map stD)), iV 0] []) := by
  unfold useN
  exact loop_pick (fun k _ => S.contains (k : Int) && ((k : Int) != f)) (fun _ (d : Dc) => d.name) x.ds (fun k ls => H26d ext 0 (E26d f ls k) (O26d x (bits x.ds.length S) ls)) (fun ls => some (.ret [dV (listD true 1 (ls.map stD)), iV 0] [])) (by omega)
    (fun k y ls hk hl he => by
      have hW := bits_get x.ds.length S k (by omega)
      have hlW : (k : Int) < (bits x.ds.length S).length := by rw [bits_len]; exact hl
      refine ⟨fun hp out h => ?_, fun hp out h => ?_⟩
      · refine stepD26 ext x y f _ ls (by omega) k hk hl _ hW hlW true hp out ?_
        rw [if_pos rfl]; exact h
      · refine stepD26 ext x y f _ ls (by omega) k hk hl _ hW hlW false hp out ?_
        rw [if_neg (by simp)]; exact h) (fun ls _ => by
      have := doneD26 ext x f (bits x.ds.length S) ls
      rw [bits_len] at this; exact this)
theorem run26 (x : Tb) (hu : TbU x) (h37 : ∀ n, run Tryz.prog ext (.call 37 [tbV x, sV n] []) = some (.ret [iV (find x n)] [])) (h76 : ∀ d : Dc, d.cons.length < 2 ^ 28 → run Tryz.prog ext (.call 76 [dcV d] []) = some (.ret [dV (.s 5 ((parts d).map tmD))] [])) (h77 : ∀ p : Tm, p.sz < 2 ^ 24 → run Tryz.prog ext (.call 77 [tmV p] []) = some (.ret [dV (listD true 1 ((nms [] p).map stD))] [])) (f : Int) (B : Nat) (hB : B < 2 ^ 29) :
    ∀ (M : Nat) (S T : List Int), Fine x B M (S, T) → H26a ext 0 (E26a f) (O26s x (S, T)) = some (.ret [dV (listD true 1 ((useN x (bfs x M (S, T)) f).map stD)), iV 0] [])
  | 0, S, T, h => by
    have : T = [] := List.eq_nil_of_length_eq_zero (by have := h.fuel; dsimp only at this; omega)
    subst this
    exact doneA26 ext x f _ _ (fin26 ext x (by have := hu.ds; omega) f S)
  | M + 1, S, [], h => doneA26 ext x f _ _ (fin26 ext x (by have := hu.ds; omega) f S)
  | M + 1, S, t :: T, h => by
    obtain ⟨k, rfl, hk⟩ := h.ok t List.mem_cons_self
    have hd : x.ds[k]? = some x.ds[k] := by simp [hk]
    have hm := List.mem_of_getElem? hd
    have hd' : x.ds[((k : Int)).toNat]? = some x.ds[k] := by simp [hk]
    have e : bfs x (M + 1) (S, (k : Int) :: T) = bfs x M (useD x (S, T) x.ds[k]) := by rw [bfs]; rw [hd']
    have hf : Fine x B M (S, T) := by
      refine ⟨fun t ht => h.ok t (List.mem_cons_of_mem _ ht), ?_, ?_⟩
      · have := h.room; simp only [List.length_cons] at this ⊢; omega
      · have := h.fuel; simp only [List.length_cons] at this ⊢; omega
    have hf' : Fine x B M (useD x (S, T) x.ds[k]) := fold_fine _ hf
    rw [e, iter26 ext x x.ds[k] h37 (h76 _ (hu.cons _ hm)) (fun p hp => h77 p (hu.small _ hm p hp)) (hu.cons _ hm) (fun p hp => by have := nms_len p.sz p (Nat.le_refl _) []; have := hu.small _ hm p hp; simp at *; omega) f S k T hd (by omega) B M hB hf]
    exact run26 x hu h37 h76 h77 f B hB M _ _ hf'
theorem uses26 (hx : ext 26 = none) (x : Tb) (s : ByteArray) (hu : TbU x) (h37 : ∀ n, run Tryz.prog ext (.call 37 [tbV x, sV n] []) = some (.ret [iV (find x n)] [])) (h76 : ∀ d : Dc, d.cons.length < 2 ^ 28 → run Tryz.prog ext (.call 76 [dcV d] []) = some (.ret [dV (.s 5 ((parts d).map tmD))] [])) (h77 : ∀ p : Tm, p.sz < 2 ^ 24 → run Tryz.prog ext (.call 77 [tmV p] []) = some (.ret [dV (listD true 1 ((nms [] p).map stD))] [])) :
    run Tryz.prog ext (.call 26 [tbV x, sV s] []) = some (.ret [dV (listD true 1 ((usesOf x s).1.map stD)), iV (usesOf x s).2] []) := by
  unfold usesOf
  by_cases c : find x s < 0
  · rw [if_pos c]; exact bad26 ext hx x s _ c (h37 s)
  · rw [if_neg c]
    refine enter26 ext hx x s _ c (by have := hu.ds; omega) (h37 s) _ ?_
    have hlt := find_lt x s
    rw [← bits_nil]
    exact run26 ext x hu h37 h76 h77 _ (x.ds.length + 1) (by have := hu.ds; omega) (2 * x.ds.length + 1) _ _ (fine_init x _ (by omega) hlt _)
end Go.Proofs.YteenjodhmppgjaaGreatDoor.Am
end
section
/- TableRecursive: the walk. -/
namespace Go.Proofs.YteenjodhmppgjaaGreatDoor.Am
open Go
variable (ext : Ext)
set_option maxHeartbeats 8000000
set_option maxRecDepth 4000
theorem callOut_di (slot : Nat) (D : D) (n : Int) : callOut [] [] slot (some (.ret [.c (.d D), .c (.d (.v (.int .i64 n)))] [])) = some ⟨.val (.tup [(false, [.d D]), (false, [.d (.v (.int .i64 n))])]), [], []⟩ := by
  simp only [callOut, answer, mapO, renV, renC, results1, comp, List.length_nil, Nat.lt_irrefl, if_false]
  split <;> rfl
theorem heavy7 (hx : ext 7 = none) (x : Tb) (s : ByteArray) (b1 : Bool) (r13 : run Tryz.prog ext (.call 13 [tbV x] []) = some (.ret [bV b1] [])) (r14 : run Tryz.prog ext (.call 14 [] []) = some (.ret [bV true] [])) (h : b1 = true ∨ (s.size : Int) > 200) :
    run Tryz.prog ext (.call 7 [tbV x, sV s] []) = some (.ret [bV true] []) := by
  cases b1 with
  | true =>
    (rw [run_eq]; simp only [stepA, hx, Tryz.func7, Tryz.f7, show retF 7 = false from rfl]; simp only [List.length_cons, List.length_nil, Nat.reduceAdd, Nat.reduceLeDiff, Nat.zero_le, ↓reduceIte, List.zipIdx_cons, List.zipIdx_nil, List.map_cons, List.map_nil])
    simp only [tbV, tbC, sV, bV] at r13 r14 ⊢
    simp only [zS, nilEq, wantedA, opA, eff, boxA, cells, ev, gt, pt, putO, updO, setO, okC, loadA, cutC, fieldAddrA, fieldA, indexAddrA, indexA, builtinA, callOpA, callV, target, ptrV, lenS, binA, intOp, strOp, unA, num, lk, over, allocA, pickA, buildA, fillA, convertA, extractA, ofComp, nilCheckA, makeFuncA, ptrs, ofValue, cellB, Nat.reduceAdd, Nat.reduceSub, Nat.reduceMul, Nat.reduceLT, Nat.reduceLeDiff, Nat.reduceGT, ↓reduceIte, Nat.reduceEqDiff, Nat.reduceBEq, reduceCtorEq, Int.reduceBEq, Int.reduceBNe, Int.reduceLT, Int.reduceLE, Int.reduceGT, Int.reduceGE, aggT_24, sizeT_24, bytesT_24, fieldT_24_0, placesT_24, zeroT_24, aggT_9, sizeT_9, bytesT_9, und_9, zero1_9, zeroT_9, aggT_3, sizeT_3, bytesT_3, und_3, zero1_3, zeroT_3, r13, r14]
    (refine Eq.trans ?_ rfl; kernel_rfl)
  | false =>
    have c : (s.size : Int) > 200 := by rcases h with h | h; (· cases h); (· exact h)
    (rw [run_eq]; simp only [stepA, hx, Tryz.func7, Tryz.f7, show retF 7 = false from rfl]; simp only [List.length_cons, List.length_nil, Nat.reduceAdd, Nat.reduceLeDiff, Nat.zero_le, ↓reduceIte, List.zipIdx_cons, List.zipIdx_nil, List.map_cons, List.map_nil])
    simp only [tbV, tbC, sV, bV] at r13 r14 ⊢
    simp only [zS, nilEq, wantedA, opA, eff, boxA, cells, ev, gt, pt, putO, updO, setO, okC, loadA, cutC, fieldAddrA, fieldA, indexAddrA, indexA, builtinA, callOpA, callV, target, ptrV, lenS, binA, intOp, strOp, unA, num, lk, over, allocA, pickA, buildA, fillA, convertA, extractA, ofComp, nilCheckA, makeFuncA, ptrs, ofValue, cellB, Nat.reduceAdd, Nat.reduceSub, Nat.reduceMul, Nat.reduceLT, Nat.reduceLeDiff, Nat.reduceGT, ↓reduceIte, Nat.reduceEqDiff, Nat.reduceBEq, reduceCtorEq, Int.reduceBEq, Int.reduceBNe, Int.reduceLT, Int.reduceLE, Int.reduceGT, Int.reduceGE, aggT_24, sizeT_24, bytesT_24, fieldT_24_0, placesT_24, zeroT_24, aggT_9, sizeT_9, bytesT_9, und_9, zero1_9, zeroT_9, aggT_3, sizeT_3, bytesT_3, und_3, zero1_3, zeroT_3, r13, r14, c]
    (refine Eq.trans ?_ rfl; kernel_rfl)
theorem light7 (hx : ext 7 = none) (x : Tb) (s : ByteArray) (a b c d g h : D) (e1 e2 : Int) (r13 : run Tryz.prog ext (.call 13 [tbV x] []) = some (.ret [bV false] [])) (r14 : run Tryz.prog ext (.call 14 [] []) = some (.ret [bV true] [])) (hs : ¬ (s.size : Int) > 200)
    (r23 : run Tryz.prog ext (.call 23 [tbV x, sV s] []) = some (.ret [dV a, iV e1] [])) (r24 : run Tryz.prog ext (.call 24 [tbV x, sV s] []) = some (.ret [dV b, iV e1] []))
    (r25 : run Tryz.prog ext (.call 25 [tbV x, sV s] []) = some (.ret [dV c, iV e2] [])) (r26 : run Tryz.prog ext (.call 26 [tbV x, sV s] []) = some (.ret [dV d, iV e2] []))
    (r27 : run Tryz.prog ext (.call 27 [dV a, dV b] []) = some (.ret [bV true] [])) (r28 : run Tryz.prog ext (.call 28 [dV c, dV d] []) = some (.ret [bV true] []))
    (r29 : run Tryz.prog ext (.call 29 [tbV x] []) = some (.ret [dV g] [])) (r30 : run Tryz.prog ext (.call 30 [tbV x] []) = some (.ret [dV h] [])) (r28' : run Tryz.prog ext (.call 28 [dV g, dV h] []) = some (.ret [bV true] [])) :
    run Tryz.prog ext (.call 7 [tbV x, sV s] []) = some (.ret [bV true] []) := by
  (rw [run_eq]; simp only [stepA, hx, Tryz.func7, Tryz.f7, show retF 7 = false from rfl]; simp only [List.length_cons, List.length_nil, Nat.reduceAdd, Nat.reduceLeDiff, Nat.zero_le, ↓reduceIte, List.zipIdx_cons, List.zipIdx_nil, List.map_cons, List.map_nil])
  simp only [tbV, tbC, sV, iV, bV, dV] at r13 r14 r23 r24 r25 r26 r27 r28 r29 r30 r28' ⊢
  simp only [zS, nilEq, wantedA, opA, eff, boxA, cells, ev, gt, pt, putO, updO, setO, okC, loadA, cutC, fieldAddrA, fieldA, indexAddrA, indexA, builtinA, callOpA, callV, target, ptrV, lenS, binA, intOp, strOp, unA, num, lk, over, allocA, pickA, buildA, fillA, convertA, extractA, ofComp, nilCheckA, makeFuncA, ptrs, ofValue, cellB, Nat.reduceAdd, Nat.reduceSub, Nat.reduceMul, Nat.reduceLT, Nat.reduceLeDiff, Nat.reduceGT, ↓reduceIte, Nat.reduceEqDiff, Nat.reduceBEq, reduceCtorEq, Int.reduceBEq, Int.reduceBNe, Int.reduceLT, Int.reduceLE, Int.reduceGT, Int.reduceGE, aggT_24, sizeT_24, bytesT_24, fieldT_24_0, placesT_24, zeroT_24, aggT_9, sizeT_9, bytesT_9, und_9, zero1_9, zeroT_9, aggT_27, sizeT_27, bytesT_27, und_27, zero1_27, zeroT_27, aggT_4, sizeT_4, bytesT_4, und_4, zero1_4, zeroT_4, aggT_3, sizeT_3, bytesT_3, und_3, zero1_3, zeroT_3, aggT_43, sizeT_43, bytesT_43, und_43, elemT_43, isSliceT_43, zero1_43, zeroT_43, aggT_52, sizeT_52, bytesT_52, und_52, elemT_52, isSliceT_52, zero1_52, zeroT_52, r13, hs]
  simp only [zS, nilEq, wantedA, opA, eff, boxA, cells, ev, gt, pt, putO, updO, setO, okC, loadA, cutC, fieldAddrA, fieldA, indexAddrA, indexA, builtinA, callOpA, callV, target, ptrV, lenS, binA, intOp, strOp, unA, num, lk, over, allocA, pickA, buildA, fillA, convertA, extractA, ofComp, nilCheckA, makeFuncA, ptrs, ofValue, cellB, Nat.reduceAdd, Nat.reduceSub, Nat.reduceMul, Nat.reduceLT, Nat.reduceLeDiff, Nat.reduceGT, ↓reduceIte, Nat.reduceEqDiff, Nat.reduceBEq, reduceCtorEq, Int.reduceBEq, Int.reduceBNe, Int.reduceLT, Int.reduceLE, Int.reduceGT, Int.reduceGE, aggT_24, sizeT_24, bytesT_24, fieldT_24_0, placesT_24, zeroT_24, aggT_9, sizeT_9, bytesT_9, und_9, zero1_9, zeroT_9, aggT_27, sizeT_27, bytesT_27, und_27, zero1_27, zeroT_27, aggT_4, sizeT_4, bytesT_4, und_4, zero1_4, zeroT_4, aggT_3, sizeT_3, bytesT_3, und_3, zero1_3, zeroT_3, aggT_43, sizeT_43, bytesT_43, und_43, elemT_43, isSliceT_43, zero1_43, zeroT_43, aggT_52, sizeT_52, bytesT_52, und_52, elemT_52, isSliceT_52, zero1_52, zeroT_52, r23, callOut_di]
  simp only [zS, nilEq, wantedA, opA, eff, boxA, cells, ev, gt, pt, putO, updO, setO, okC, loadA, cutC, fieldAddrA, fieldA, indexAddrA, indexA, builtinA, callOpA, callV, target, ptrV, lenS, binA, intOp, strOp, unA, num, lk, over, allocA, pickA, buildA, fillA, convertA, extractA, ofComp, nilCheckA, makeFuncA, ptrs, ofValue, cellB, Nat.reduceAdd, Nat.reduceSub, Nat.reduceMul, Nat.reduceLT, Nat.reduceLeDiff, Nat.reduceGT, ↓reduceIte, Nat.reduceEqDiff, Nat.reduceBEq, reduceCtorEq, Int.reduceBEq, Int.reduceBNe, Int.reduceLT, Int.reduceLE, Int.reduceGT, Int.reduceGE, aggT_24, sizeT_24, bytesT_24, fieldT_24_0, placesT_24, zeroT_24, aggT_9, sizeT_9, bytesT_9, und_9, zero1_9, zeroT_9, aggT_27, sizeT_27, bytesT_27, und_27, zero1_27, zeroT_27, aggT_4, sizeT_4, bytesT_4, und_4, zero1_4, zeroT_4, aggT_3, sizeT_3, bytesT_3, und_3, zero1_3, zeroT_3, aggT_43, sizeT_43, bytesT_43, und_43, elemT_43, isSliceT_43, zero1_43, zeroT_43, aggT_52, sizeT_52, bytesT_52, und_52, elemT_52, isSliceT_52, zero1_52, zeroT_52, r24, callOut_di]
  simp only [zS, nilEq, wantedA, opA, eff, boxA, cells, ev, gt, pt, putO, updO, setO, okC, loadA, cutC, fieldAddrA, fieldA, indexAddrA, indexA, builtinA, callOpA, callV, target, ptrV, lenS, binA, intOp, strOp, unA, num, lk, over, allocA, pickA, buildA, fillA, convertA, extractA, ofComp, nilCheckA, makeFuncA, ptrs, ofValue, cellB, Nat.reduceAdd, Nat.reduceSub, Nat.reduceMul, Nat.reduceLT, Nat.reduceLeDiff, Nat.reduceGT, ↓reduceIte, Nat.reduceEqDiff, Nat.reduceBEq, reduceCtorEq, Int.reduceBEq, Int.reduceBNe, Int.reduceLT, Int.reduceLE, Int.reduceGT, Int.reduceGE, aggT_24, sizeT_24, bytesT_24, fieldT_24_0, placesT_24, zeroT_24, aggT_9, sizeT_9, bytesT_9, und_9, zero1_9, zeroT_9, aggT_27, sizeT_27, bytesT_27, und_27, zero1_27, zeroT_27, aggT_4, sizeT_4, bytesT_4, und_4, zero1_4, zeroT_4, aggT_3, sizeT_3, bytesT_3, und_3, zero1_3, zeroT_3, aggT_43, sizeT_43, bytesT_43, und_43, elemT_43, isSliceT_43, zero1_43, zeroT_43, aggT_52, sizeT_52, bytesT_52, und_52, elemT_52, isSliceT_52, zero1_52, zeroT_52, r25, callOut_di]
  simp only [zS, nilEq, wantedA, opA, eff, boxA, cells, ev, gt, pt, putO, updO, setO, okC, loadA, cutC, fieldAddrA, fieldA, indexAddrA, indexA, builtinA, callOpA, callV, target, ptrV, lenS, binA, intOp, strOp, unA, num, lk, over, allocA, pickA, buildA, fillA, convertA, extractA, ofComp, nilCheckA, makeFuncA, ptrs, ofValue, cellB, Nat.reduceAdd, Nat.reduceSub, Nat.reduceMul, Nat.reduceLT, Nat.reduceLeDiff, Nat.reduceGT, ↓reduceIte, Nat.reduceEqDiff, Nat.reduceBEq, reduceCtorEq, Int.reduceBEq, Int.reduceBNe, Int.reduceLT, Int.reduceLE, Int.reduceGT, Int.reduceGE, aggT_24, sizeT_24, bytesT_24, fieldT_24_0, placesT_24, zeroT_24, aggT_9, sizeT_9, bytesT_9, und_9, zero1_9, zeroT_9, aggT_27, sizeT_27, bytesT_27, und_27, zero1_27, zeroT_27, aggT_4, sizeT_4, bytesT_4, und_4, zero1_4, zeroT_4, aggT_3, sizeT_3, bytesT_3, und_3, zero1_3, zeroT_3, aggT_43, sizeT_43, bytesT_43, und_43, elemT_43, isSliceT_43, zero1_43, zeroT_43, aggT_52, sizeT_52, bytesT_52, und_52, elemT_52, isSliceT_52, zero1_52, zeroT_52, r26, callOut_di]
  refine draw_of ?_
  simp only [zS, nilEq, wantedA, opA, eff, boxA, cells, ev, gt, pt, putO, updO, setO, okC, loadA, cutC, fieldAddrA, fieldA, indexAddrA, indexA, builtinA, callOpA, callV, target, ptrV, lenS, binA, intOp, strOp, unA, num, lk, over, allocA, pickA, buildA, fillA, convertA, extractA, ofComp, nilCheckA, makeFuncA, ptrs, ofValue, cellB, Nat.reduceAdd, Nat.reduceSub, Nat.reduceMul, Nat.reduceLT, Nat.reduceLeDiff, Nat.reduceGT, ↓reduceIte, Nat.reduceEqDiff, Nat.reduceBEq, reduceCtorEq, Int.reduceBEq, Int.reduceBNe, Int.reduceLT, Int.reduceLE, Int.reduceGT, Int.reduceGE, aggT_24, sizeT_24, bytesT_24, fieldT_24_0, placesT_24, zeroT_24, aggT_9, sizeT_9, bytesT_9, und_9, zero1_9, zeroT_9, aggT_27, sizeT_27, bytesT_27, und_27, zero1_27, zeroT_27, aggT_4, sizeT_4, bytesT_4, und_4, zero1_4, zeroT_4, aggT_3, sizeT_3, bytesT_3, und_3, zero1_3, zeroT_3, aggT_43, sizeT_43, bytesT_43, und_43, elemT_43, isSliceT_43, zero1_43, zeroT_43, aggT_52, sizeT_52, bytesT_52, und_52, elemT_52, isSliceT_52, zero1_52, zeroT_52, dC_nil, dC_cons, dcW_true, dcW_false, dcV1_val, holes_succ, holes_zero, Array.size, List.length, r27]
  simp only [zS, nilEq, wantedA, opA, eff, boxA, cells, ev, gt, pt, putO, updO, setO, okC, loadA, cutC, fieldAddrA, fieldA, indexAddrA, indexA, builtinA, callOpA, callV, target, ptrV, lenS, binA, intOp, strOp, unA, num, lk, over, allocA, pickA, buildA, fillA, convertA, extractA, ofComp, nilCheckA, makeFuncA, ptrs, ofValue, cellB, Nat.reduceAdd, Nat.reduceSub, Nat.reduceMul, Nat.reduceLT, Nat.reduceLeDiff, Nat.reduceGT, ↓reduceIte, Nat.reduceEqDiff, Nat.reduceBEq, reduceCtorEq, Int.reduceBEq, Int.reduceBNe, Int.reduceLT, Int.reduceLE, Int.reduceGT, Int.reduceGE, aggT_24, sizeT_24, bytesT_24, fieldT_24_0, placesT_24, zeroT_24, aggT_9, sizeT_9, bytesT_9, und_9, zero1_9, zeroT_9, aggT_27, sizeT_27, bytesT_27, und_27, zero1_27, zeroT_27, aggT_4, sizeT_4, bytesT_4, und_4, zero1_4, zeroT_4, aggT_3, sizeT_3, bytesT_3, und_3, zero1_3, zeroT_3, aggT_43, sizeT_43, bytesT_43, und_43, elemT_43, isSliceT_43, zero1_43, zeroT_43, aggT_52, sizeT_52, bytesT_52, und_52, elemT_52, isSliceT_52, zero1_52, zeroT_52, dC_nil, dC_cons, dcW_true, dcW_false, dcV1_val, holes_succ, holes_zero, Array.size, List.length, r28]
  simp only [zS, nilEq, wantedA, opA, eff, boxA, cells, ev, gt, pt, putO, updO, setO, okC, loadA, cutC, fieldAddrA, fieldA, indexAddrA, indexA, builtinA, callOpA, callV, target, ptrV, lenS, binA, intOp, strOp, unA, num, lk, over, allocA, pickA, buildA, fillA, convertA, extractA, ofComp, nilCheckA, makeFuncA, ptrs, ofValue, cellB, Nat.reduceAdd, Nat.reduceSub, Nat.reduceMul, Nat.reduceLT, Nat.reduceLeDiff, Nat.reduceGT, ↓reduceIte, Nat.reduceEqDiff, Nat.reduceBEq, reduceCtorEq, Int.reduceBEq, Int.reduceBNe, Int.reduceLT, Int.reduceLE, Int.reduceGT, Int.reduceGE, aggT_24, sizeT_24, bytesT_24, fieldT_24_0, placesT_24, zeroT_24, aggT_9, sizeT_9, bytesT_9, und_9, zero1_9, zeroT_9, aggT_27, sizeT_27, bytesT_27, und_27, zero1_27, zeroT_27, aggT_4, sizeT_4, bytesT_4, und_4, zero1_4, zeroT_4, aggT_3, sizeT_3, bytesT_3, und_3, zero1_3, zeroT_3, aggT_43, sizeT_43, bytesT_43, und_43, elemT_43, isSliceT_43, zero1_43, zeroT_43, aggT_52, sizeT_52, bytesT_52, und_52, elemT_52, isSliceT_52, zero1_52, zeroT_52, dC_nil, dC_cons, dcW_true, dcW_false, dcV1_val, holes_succ, holes_zero, Array.size, List.length, r29]
  simp only [zS, nilEq, wantedA, opA, eff, boxA, cells, ev, gt, pt, putO, updO, setO, okC, loadA, cutC, fieldAddrA, fieldA, indexAddrA, indexA, builtinA, callOpA, callV, target, ptrV, lenS, binA, intOp, strOp, unA, num, lk, over, allocA, pickA, buildA, fillA, convertA, extractA, ofComp, nilCheckA, makeFuncA, ptrs, ofValue, cellB, Nat.reduceAdd, Nat.reduceSub, Nat.reduceMul, Nat.reduceLT, Nat.reduceLeDiff, Nat.reduceGT, ↓reduceIte, Nat.reduceEqDiff, Nat.reduceBEq, reduceCtorEq, Int.reduceBEq, Int.reduceBNe, Int.reduceLT, Int.reduceLE, Int.reduceGT, Int.reduceGE, aggT_24, sizeT_24, bytesT_24, fieldT_24_0, placesT_24, zeroT_24, aggT_9, sizeT_9, bytesT_9, und_9, zero1_9, zeroT_9, aggT_27, sizeT_27, bytesT_27, und_27, zero1_27, zeroT_27, aggT_4, sizeT_4, bytesT_4, und_4, zero1_4, zeroT_4, aggT_3, sizeT_3, bytesT_3, und_3, zero1_3, zeroT_3, aggT_43, sizeT_43, bytesT_43, und_43, elemT_43, isSliceT_43, zero1_43, zeroT_43, aggT_52, sizeT_52, bytesT_52, und_52, elemT_52, isSliceT_52, zero1_52, zeroT_52, dC_nil, dC_cons, dcW_true, dcW_false, dcV1_val, holes_succ, holes_zero, Array.size, List.length, r30]
  simp only [zS, nilEq, wantedA, opA, eff, boxA, cells, ev, gt, pt, putO, updO, setO, okC, loadA, cutC, fieldAddrA, fieldA, indexAddrA, indexA, builtinA, callOpA, callV, target, ptrV, lenS, binA, intOp, strOp, unA, num, lk, over, allocA, pickA, buildA, fillA, convertA, extractA, ofComp, nilCheckA, makeFuncA, ptrs, ofValue, cellB, Nat.reduceAdd, Nat.reduceSub, Nat.reduceMul, Nat.reduceLT, Nat.reduceLeDiff, Nat.reduceGT, ↓reduceIte, Nat.reduceEqDiff, Nat.reduceBEq, reduceCtorEq, Int.reduceBEq, Int.reduceBNe, Int.reduceLT, Int.reduceLE, Int.reduceGT, Int.reduceGE, aggT_24, sizeT_24, bytesT_24, fieldT_24_0, placesT_24, zeroT_24, aggT_9, sizeT_9, bytesT_9, und_9, zero1_9, zeroT_9, aggT_27, sizeT_27, bytesT_27, und_27, zero1_27, zeroT_27, aggT_4, sizeT_4, bytesT_4, und_4, zero1_4, zeroT_4, aggT_3, sizeT_3, bytesT_3, und_3, zero1_3, zeroT_3, aggT_43, sizeT_43, bytesT_43, und_43, elemT_43, isSliceT_43, zero1_43, zeroT_43, aggT_52, sizeT_52, bytesT_52, und_52, elemT_52, isSliceT_52, zero1_52, zeroT_52, dC_nil, dC_cons, dcW_true, dcW_false, dcV1_val, holes_succ, holes_zero, Array.size, List.length, r28']
  simp only [zS, nilEq, wantedA, opA, eff, boxA, cells, ev, gt, pt, putO, updO, setO, okC, loadA, cutC, fieldAddrA, fieldA, indexAddrA, indexA, builtinA, callOpA, callV, target, ptrV, lenS, binA, intOp, strOp, unA, num, lk, over, allocA, pickA, buildA, fillA, convertA, extractA, ofComp, nilCheckA, makeFuncA, ptrs, ofValue, cellB, Nat.reduceAdd, Nat.reduceSub, Nat.reduceMul, Nat.reduceLT, Nat.reduceLeDiff, Nat.reduceGT, ↓reduceIte, Nat.reduceEqDiff, Nat.reduceBEq, reduceCtorEq, Int.reduceBEq, Int.reduceBNe, Int.reduceLT, Int.reduceLE, Int.reduceGT, Int.reduceGE, aggT_24, sizeT_24, bytesT_24, fieldT_24_0, placesT_24, zeroT_24, aggT_9, sizeT_9, bytesT_9, und_9, zero1_9, zeroT_9, aggT_27, sizeT_27, bytesT_27, und_27, zero1_27, zeroT_27, aggT_4, sizeT_4, bytesT_4, und_4, zero1_4, zeroT_4, aggT_3, sizeT_3, bytesT_3, und_3, zero1_3, zeroT_3, aggT_43, sizeT_43, bytesT_43, und_43, elemT_43, isSliceT_43, zero1_43, zeroT_43, aggT_52, sizeT_52, bytesT_52, und_52, elemT_52, isSliceT_52, zero1_52, zeroT_52, dC_nil, dC_cons, dcW_true, dcW_false, dcV1_val, holes_succ, holes_zero, Array.size, List.length, r14]
  rw [afterDraw_some _ _ _ _ (by kernel_rfl)]
  simp only [zS, nilEq, wantedA, opA, eff, boxA, cells, ev, gt, pt, putO, updO, setO, okC, loadA, cutC, fieldAddrA, fieldA, indexAddrA, indexA, builtinA, callOpA, callV, target, ptrV, lenS, binA, intOp, strOp, unA, num, lk, over, allocA, pickA, buildA, fillA, convertA, extractA, ofComp, nilCheckA, makeFuncA, ptrs, ofValue, cellB, Nat.reduceAdd, Nat.reduceSub, Nat.reduceMul, Nat.reduceLT, Nat.reduceLeDiff, Nat.reduceGT, ↓reduceIte, Nat.reduceEqDiff, Nat.reduceBEq, reduceCtorEq, Int.reduceBEq, Int.reduceBNe, Int.reduceLT, Int.reduceLE, Int.reduceGT, Int.reduceGE]
  (refine Eq.trans ?_ rfl; kernel_rfl)
end Go.Proofs.YteenjodhmppgjaaGreatDoor.Am
end
section
/- TableRecursive: the law. -/
namespace Go.Proofs.YteenjodhmppgjaaGreatDoor.Am
open Go
variable (ext : Ext)
theorem allR_same {α : Type} (R : α → α → Bool) (h : ∀ a, R a a = true) : ∀ l : List α, allR R l l = true
  | [] => rfl
  | a :: l => by rw [allR, h, allR_same R h l]; rfl
theorem recOf_len (x : Tb) (s : ByteArray) (h : (family x s).1.cons.length < 2 ^ 29) : (recOf x s).1.length < 2 ^ 50 := by
  unfold recOf
  split
  · have := pickE_len (fun _ c => occ s c.arg) (fun k _ => (k : Int)) (family x s).1.cons 0
    show (pickE _ _ _ _).length < _
    omega
  · show (0 : Nat) < _; omega
theorem family_cons (x : Tb) (s : ByteArray) (m k : Nat) (h : ∀ d ∈ x.ds, d.cons.length < m ∧ ∀ c ∈ d.cons, c.arg.sz < k) (hm : 0 < m) : (family x s).1.cons.length < m ∧ ∀ c ∈ (family x s).1.cons, c.arg.sz < k := by
  have hz : zDc.cons.length < m ∧ ∀ c ∈ zDc.cons, c.arg.sz < k := ⟨hm, fun c hc => by cases hc⟩
  unfold family
  split
  · exact hz
  · rename_i d e
    split
    · exact h d (List.mem_of_find?_eq_some e)
    · exact hz
theorem law7 (hx : ∀ n, n ≠ 14 → ext n = none) (r14 : run Tryz.prog ext (.call 14 [] []) = some (.ret [bV true] []))
    (x : Tb) (s : ByteArray) (hok : x.ok) (hu : TbU x) : run Tryz.prog ext (.call 7 [tbV x, sV s] []) = some (.ret [bV true] []) := by
  have H : ∀ n, n ≠ 14 → ext n = none := hx
  obtain ⟨b1, r13⟩ := heavy13 ext (H _ (by decide)) (H _ (by decide)) (H _ (by decide)) (H _ (by decide)) (H _ (by decide)) (H _ (by decide)) x hok
  by_cases c1 : b1 = true ∨ (s.size : Int) > 200
  · exact heavy7 ext (H _ (by decide)) x s b1 r13 r14 c1
  · have hb1 : b1 = false := by cases b1; rfl; exact absurd (.inl rfl) c1
    subst hb1
    have hfc := family_cons x s (2 ^ 28) (2 ^ 24) (fun d hd => ⟨hu.cons d hd, fun c hc => hu.small d hd c.arg (by
      unfold parts
      exact List.mem_append_right _ (List.mem_map.2 ⟨c, hc, rfl⟩))⟩) (by omega)
    have h22 := fun n => find22 ext (H _ (by decide)) (H _ (by decide)) (H _ (by decide)) x n hok.1
    have h37 := fun n => find37 ext (H _ (by decide)) x n hok.1
    have h75 := fun (p : Tm) (hp : p.sz < 2 ^ 24) => names75 ext (H _ (by decide)) (H _ (by decide)) (H _ (by decide)) (H _ (by decide)) (H _ (by decide)) p (by omega)
    have h77 := fun (p : Tm) (hp : p.sz < 2 ^ 24) => names77 ext (H _ (by decide)) (H _ (by decide)) (H _ (by decide)) (H _ (by decide)) (H _ (by decide)) (H _ (by decide)) (H _ (by decide)) p hp
    have h76 := fun (d : Dc) (hd : d.cons.length < 2 ^ 28) => parts76 ext (H _ (by decide)) d hd
    have r71 := fam71 ext (H _ (by decide)) (H _ (by decide)) (H _ (by decide)) (H _ (by decide)) x s hok.1
    have r73 := fam73 ext (H _ (by decide)) (H _ (by decide)) x s hok.1
    have r23 := rec23 ext (H _ (by decide)) x s (by have := hfc.1; omega) r71 (fun c hc => occurs72 ext (H _ (by decide)) (H _ (by decide)) (H _ (by decide)) (H _ (by decide)) (H _ (by decide)) (H _ (by decide)) s c.arg (by have := hfc.2 c hc; omega))
    have r24 := rec24 ext (H _ (by decide)) x s (by have := hfc.1; omega) r73 (fun c hc => occurs74 ext (H _ (by decide)) s c.arg.sz c.arg (Nat.le_refl _) (by have := hfc.2 c hc; omega))
    have r25 := uses25 ext (H _ (by decide)) x s hu h22 h75
    have r26 := uses26 ext (H _ (by decide)) x s hu h37 h76 h77
    have r29 := ass29 ext (H _ (by decide)) x (by have := hu.ds; omega)
    have r30 := ass30 ext (H _ (by decide)) x (by have := hu.ds; omega)
    have r27 := eq27 ext (H _ (by decide)) true true (recOf x s).1 (recOf x s).1 (recOf_len x s (by have := hfc.1; omega))
    rw [allR_same eqIn (fun a => by simp [eqIn])] at r27
    have hul : (usesOf x s).1.length < 2 ^ 50 := by
      unfold usesOf
      split
      · show (0 : Nat) < _; omega
      · have := pickE_len (fun k (_ : Dc) => (bfs x (2 * x.ds.length + 1) ([], [find x s])).contains (k : Int) && ((k : Int) != find x s)) (fun _ d => d.name) x.ds 0
        have h2 := hu.ds
        show (pickE _ _ _ _).length < _
        omega
    have r28 := eq28 ext (H _ (by decide)) true true (usesOf x s).1 (usesOf x s).1 hul
    rw [allR_same eqSt (fun a => by simp [eqSt])] at r28
    have hal : (assN x).length < 2 ^ 50 := by
      have := pickE_len (fun _ (d : Dc) => d.kind == 3) (fun _ d => d.name) x.ds 0
      have h2 := hu.ds
      show (pickE _ _ _ _).length < _
      omega
    have r28' := eq28 ext (H _ (by decide)) true true (assN x) (assN x) hal
    rw [allR_same eqSt (fun a => by simp [eqSt])] at r28'
    exact light7 ext (H _ (by decide)) x s _ _ _ _ _ _ _ _ r13 r14 (fun h => c1 (.inr h)) r23 r24 r25 r26 r27 r28 r29 r30 r28'
end Go.Proofs.YteenjodhmppgjaaGreatDoor.Am
end
section
/- What stands in for awake. -/
namespace Go.Proofs.YteenjodhmppgjaaGreatDoor.Am
open Go
def E0 : Ext := fun _ => none
theorem awake0 : run Tryz.prog E0 (.call 14 [] []) = some (.ret [bV true] []) := (run_iff _ _ _ _).2 ⟨20000, by kernel_rfl⟩
theorem bodied14 : Bodied Tryz.prog 14 := ⟨Tryz.f14, Tryz.func14, by kernel_rfl⟩
theorem sound0 {f : FuncId} {args : List V} {objs : List O} {out : Out} (h : run Tryz.prog E0 (.call f args objs) = some out) (hB : Bodied Tryz.prog f) : CallOK Tryz.prog f args objs out :=
  run_sound named (fun f g args objs out h1 _ => by cases h1) mixes h hB
def g14 (args : List V) (objs : List O) : Option Out := match args, objs with
  | [], [] => some (.ret [bV true] [])
  | _, _ => none
noncomputable def E7 : Ext := fun f => if f = 14 then some g14 else none
theorem rec7 : RecOK Tryz.prog (run Tryz.prog E7) := by
  refine recOK_run named (fun f g args objs out h1 h2 => ?_) mixes
  unfold E7 at h1
  by_cases h' : f = 14
  · subst h'; rw [if_pos rfl] at h1; cases h1
    unfold g14 at h2
    split at h2
    · cases h2; exact .inl ⟨bodied14, sound0 awake0 bodied14⟩
    · cases h2
  · rw [if_neg h'] at h1; cases h1
theorem ex7 (n : FuncId) (h1 : n ≠ 14) : E7 n = none := by unfold E7; rw [if_neg h1]
theorem awake7 : run Tryz.prog E7 (.call 14 [] []) = some (.ret [bV true] []) := by
  rw [run_eq]
  simp [stepA, E7, g14]
theorem law7' (x : Tb) (s : ByteArray) (hok : x.ok) (hu : TbU x) : CallOK Tryz.prog 7 [tbV x, sV s] [] (.ret [bV true] []) := by
  have hrun := law7 E7 ex7 awake7 x s hok hu
  rcases rec7 7 _ _ _ hrun with ⟨_, h⟩ | ⟨xs, y, h, _⟩
  · exact h
  · cases xs with
    | nil => cases h
    | cons a l => simp only [List.map_cons, List.cons.injEq] at h; cases h.1
end Go.Proofs.YteenjodhmppgjaaGreatDoor.Am
end
