/- Part 5 of the proof of the card of TableTypes, second form: no statement of its own; no conditions. -/
import Derived.Test.YteenjodhmppgjaaGreatDoorPa4
set_option linter.unusedSimpArgs false
set_option linter.unusedVariables false
set_option linter.defProp false
set_option linter.unusedSectionVars false
section
/- Whether a table, a list of levels is heavy: the answer exists; Find. -/
namespace Go.Proofs.YteenjodhmppgjaaGreatDoor.Am
open Go
variable (ext : Ext)
set_option maxHeartbeats 8000000
noncomputable def B37 : Code := (Go.Proofs.Tryz.f37.body.getD .skip)
noncomputable def L37a : Code := sub B37 [1, 0, 1, 0, 0]
noncomputable def K37a : List It := [.inBlock 0, .code (sub B37 [1, 1])]
noncomputable def H37a (ext : Ext) (m : Nat) (env : Env) (loc : List O) : Option Out := run Go.Proofs.Tryz.prog ext (.k ⟨22, m, [.tmp 4], false⟩ (.code L37a :: .inLoop L37a :: K37a) env loc)
noncomputable def B69 : Code := (Go.Proofs.Tryz.f69.body.getD .skip)
noncomputable def L69a : Code := sub B69 [1, 0, 1, 0, 0]
noncomputable def K69a : List It := [.inBlock 0, .code (sub B69 [1, 1])]
noncomputable def H69a (ext : Ext) (m : Nat) (env : Env) (loc : List O) : Option Out := run Go.Proofs.Tryz.prog ext (.k ⟨19, m, [.tmp 4], false⟩ (.code L69a :: .inLoop L69a :: K69a) env loc)
def Lev.ok (x : Lev) : Prop := x.vs.length < 2 ^ 50
def Dc.ok (x : Dc) : Prop := x.type.sz < 2 ^ 50 ∧ x.body.sz < 2 ^ 50 ∧ x.param.sz < 2 ^ 50 ∧ x.cons.length < 2 ^ 50 ∧ ∀ c ∈ x.cons, c.arg.sz < 2 ^ 50
def Tb.ok (x : Tb) : Prop := x.ds.length < 2 ^ 50 ∧ ∀ d ∈ x.ds, d.ok
theorem conD_eq (x : Con) : conD x = [.v (.string x.name), .v (.int .i64 x.arg.op), .v (.int .i64 x.arg.n), .v (.string x.arg.s), x.arg.uD, x.arg.lD] := by simp [conD, tmD_eq]
theorem consD_lt {x : Dc} {k : Nat} (h : (k : Int) < x.cons.length) : x.d = .s 6 (x.cons.map conD) := by unfold Dc.d; exact listD_of_lt (b := k) (by omega) (by simpa using h)
theorem dsD_lt {x : Tb} {k : Int} (h0 : 0 ≤ k) (h : k < x.ds.length) : x.d = .s 23 (x.ds.map dcD) := by unfold Tb.d; exact listD_of_lt (b := k) h0 (by simpa using h)
def E99 (m k : Int) : Env := [(1, iV m), (2, .c (.ptr 0 0)), (5, iV k)]
def O99 (x : Dc) : List O := [.box (dcC x)]
theorem decl99 (hx : ext 99 = none) (h17 : ext 17 = none) (h62 : ext 62 = none) (h63 : ext 63 = none) (x : Dc) (m : Int) (hs : x.ok) : ∃ b, run Go.Proofs.Tryz.prog ext (.call 99 [dcV x, iV m] []) = some (.ret [bV b] []) := by
  obtain ⟨s1, s2, s3, s4, s5⟩ := hs
  obtain ⟨b1, r1⟩ := heavy17 ext h17 h62 h63 x.type m s1
  obtain ⟨b2, r2⟩ := heavy17 ext h17 h62 h63 x.body m s2
  obtain ⟨b3, r3⟩ := heavy17 ext h17 h62 h63 x.param m s3
  by_cases a1 : (x.name.size : Int) > 200
  · refine ⟨true, ?_⟩
    (rw [run_eq]; simp only [stepA, hx, Go.Proofs.Tryz.func99, Go.Proofs.Tryz.f99, show retF 99 = false from rfl]; simp only [List.length_cons, List.length_nil, Nat.reduceAdd, Nat.reduceLeDiff, Nat.zero_le, ↓reduceIte, List.zipIdx_cons, List.zipIdx_nil, List.map_cons, List.map_nil])
    simp only [dcV, dcC, bV, iV]
    simp only [zS, nilEq, wantedA, opA, eff, boxA, cells, ev, gt, pt, putO, updO, setO, okC, loadA, cutC, fieldAddrA, fieldA, indexAddrA, indexA, builtinA, callOpA, callV, target, ptrV, lenS, binA, intOp, strOp, unA, num, lk, over, allocA, pickA, buildA, fillA, convertA, extractA, ofComp, nilCheckA, makeFuncA, ptrs, ofValue, cellB, Nat.reduceAdd, Nat.reduceSub, Nat.reduceMul, Nat.reduceLT, Nat.reduceLeDiff, Nat.reduceGT, ↓reduceIte, Nat.reduceEqDiff, Nat.reduceBEq, reduceCtorEq, Int.reduceBEq, Int.reduceBNe, Int.reduceLT, Int.reduceLE, Int.reduceGT, Int.reduceGE, aggT_39, sizeT_39, bytesT_39, fieldT_39_0, fieldT_39_1, fieldT_39_2, fieldT_39_3, fieldT_39_4, fieldT_39_5, fieldT_39_6, fieldT_39_7, fieldT_39_8, placesT_39, zeroT_39, aggT_9, sizeT_9, bytesT_9, und_9, zero1_9, zeroT_9, aggT_36, sizeT_36, bytesT_36, fieldT_36_0, fieldT_36_1, placesT_36, zeroT_36, aggT_37, sizeT_37, bytesT_37, und_37, elemT_37, isSliceT_37, zero1_37, zeroT_37, aggT_34, sizeT_34, bytesT_34, und_34, elemT_34, isSliceT_34, zero1_34, zeroT_34, aggT_3, sizeT_3, bytesT_3, und_3, zero1_3, zeroT_3, lenA_vd, lenA_cd, a1]
    (refine Eq.trans ?_ rfl; kernel_rfl)
  by_cases a2 : (x.cons.length : Int) > 20
  · refine ⟨true, ?_⟩
    (rw [run_eq]; simp only [stepA, hx, Go.Proofs.Tryz.func99, Go.Proofs.Tryz.f99, show retF 99 = false from rfl]; simp only [List.length_cons, List.length_nil, Nat.reduceAdd, Nat.reduceLeDiff, Nat.zero_le, ↓reduceIte, List.zipIdx_cons, List.zipIdx_nil, List.map_cons, List.map_nil])
    simp only [dcV, dcC, bV, iV]
    simp only [zS, nilEq, wantedA, opA, eff, boxA, cells, ev, gt, pt, putO, updO, setO, okC, loadA, cutC, fieldAddrA, fieldA, indexAddrA, indexA, builtinA, callOpA, callV, target, ptrV, lenS, binA, intOp, strOp, unA, num, lk, over, allocA, pickA, buildA, fillA, convertA, extractA, ofComp, nilCheckA, makeFuncA, ptrs, ofValue, cellB, Nat.reduceAdd, Nat.reduceSub, Nat.reduceMul, Nat.reduceLT, Nat.reduceLeDiff, Nat.reduceGT, ↓reduceIte, Nat.reduceEqDiff, Nat.reduceBEq, reduceCtorEq, Int.reduceBEq, Int.reduceBNe, Int.reduceLT, Int.reduceLE, Int.reduceGT, Int.reduceGE, aggT_39, sizeT_39, bytesT_39, fieldT_39_0, fieldT_39_1, fieldT_39_2, fieldT_39_3, fieldT_39_4, fieldT_39_5, fieldT_39_6, fieldT_39_7, fieldT_39_8, placesT_39, zeroT_39, aggT_9, sizeT_9, bytesT_9, und_9, zero1_9, zeroT_9, aggT_36, sizeT_36, bytesT_36, fieldT_36_0, fieldT_36_1, placesT_36, zeroT_36, aggT_37, sizeT_37, bytesT_37, und_37, elemT_37, isSliceT_37, zero1_37, zeroT_37, aggT_34, sizeT_34, bytesT_34, und_34, elemT_34, isSliceT_34, zero1_34, zeroT_34, aggT_3, sizeT_3, bytesT_3, und_3, zero1_3, zeroT_3, lenA_vd, lenA_cd, a1, a2]
    (refine Eq.trans ?_ rfl; kernel_rfl)
  by_cases a3 : (x.over.vs.length : Int) > 20
  · refine ⟨true, ?_⟩
    (rw [run_eq]; simp only [stepA, hx, Go.Proofs.Tryz.func99, Go.Proofs.Tryz.f99, show retF 99 = false from rfl]; simp only [List.length_cons, List.length_nil, Nat.reduceAdd, Nat.reduceLeDiff, Nat.zero_le, ↓reduceIte, List.zipIdx_cons, List.zipIdx_nil, List.map_cons, List.map_nil])
    simp only [dcV, dcC, bV, iV]
    simp only [zS, nilEq, wantedA, opA, eff, boxA, cells, ev, gt, pt, putO, updO, setO, okC, loadA, cutC, fieldAddrA, fieldA, indexAddrA, indexA, builtinA, callOpA, callV, target, ptrV, lenS, binA, intOp, strOp, unA, num, lk, over, allocA, pickA, buildA, fillA, convertA, extractA, ofComp, nilCheckA, makeFuncA, ptrs, ofValue, cellB, Nat.reduceAdd, Nat.reduceSub, Nat.reduceMul, Nat.reduceLT, Nat.reduceLeDiff, Nat.reduceGT, ↓reduceIte, Nat.reduceEqDiff, Nat.reduceBEq, reduceCtorEq, Int.reduceBEq, Int.reduceBNe, Int.reduceLT, Int.reduceLE, Int.reduceGT, Int.reduceGE, aggT_39, sizeT_39, bytesT_39, fieldT_39_0, fieldT_39_1, fieldT_39_2, fieldT_39_3, fieldT_39_4, fieldT_39_5, fieldT_39_6, fieldT_39_7, fieldT_39_8, placesT_39, zeroT_39, aggT_9, sizeT_9, bytesT_9, und_9, zero1_9, zeroT_9, aggT_36, sizeT_36, bytesT_36, fieldT_36_0, fieldT_36_1, placesT_36, zeroT_36, aggT_37, sizeT_37, bytesT_37, und_37, elemT_37, isSliceT_37, zero1_37, zeroT_37, aggT_34, sizeT_34, bytesT_34, und_34, elemT_34, isSliceT_34, zero1_34, zeroT_34, aggT_3, sizeT_3, bytesT_3, und_3, zero1_3, zeroT_3, lenA_vd, lenA_cd, a1, a2, a3]
    (refine Eq.trans ?_ rfl; kernel_rfl)
  by_cases a4 : (x.sort.vs.length : Int) > 20
  · refine ⟨true, ?_⟩
    (rw [run_eq]; simp only [stepA, hx, Go.Proofs.Tryz.func99, Go.Proofs.Tryz.f99, show retF 99 = false from rfl]; simp only [List.length_cons, List.length_nil, Nat.reduceAdd, Nat.reduceLeDiff, Nat.zero_le, ↓reduceIte, List.zipIdx_cons, List.zipIdx_nil, List.map_cons, List.map_nil])
    simp only [dcV, dcC, bV, iV]
    simp only [zS, nilEq, wantedA, opA, eff, boxA, cells, ev, gt, pt, putO, updO, setO, okC, loadA, cutC, fieldAddrA, fieldA, indexAddrA, indexA, builtinA, callOpA, callV, target, ptrV, lenS, binA, intOp, strOp, unA, num, lk, over, allocA, pickA, buildA, fillA, convertA, extractA, ofComp, nilCheckA, makeFuncA, ptrs, ofValue, cellB, Nat.reduceAdd, Nat.reduceSub, Nat.reduceMul, Nat.reduceLT, Nat.reduceLeDiff, Nat.reduceGT, ↓reduceIte, Nat.reduceEqDiff, Nat.reduceBEq, reduceCtorEq, Int.reduceBEq, Int.reduceBNe, Int.reduceLT, Int.reduceLE, Int.reduceGT, Int.reduceGE, aggT_39, sizeT_39, bytesT_39, fieldT_39_0, fieldT_39_1, fieldT_39_2, fieldT_39_3, fieldT_39_4, fieldT_39_5, fieldT_39_6, fieldT_39_7, fieldT_39_8, placesT_39, zeroT_39, aggT_9, sizeT_9, bytesT_9, und_9, zero1_9, zeroT_9, aggT_36, sizeT_36, bytesT_36, fieldT_36_0, fieldT_36_1, placesT_36, zeroT_36, aggT_37, sizeT_37, bytesT_37, und_37, elemT_37, isSliceT_37, zero1_37, zeroT_37, aggT_34, sizeT_34, bytesT_34, und_34, elemT_34, isSliceT_34, zero1_34, zeroT_34, aggT_3, sizeT_3, bytesT_3, und_3, zero1_3, zeroT_3, lenA_vd, lenA_cd, a1, a2, a3, a4]
    (refine Eq.trans ?_ rfl; kernel_rfl)
  cases b1 with
  | true =>
    refine ⟨true, ?_⟩
    (rw [run_eq]; simp only [stepA, hx, Go.Proofs.Tryz.func99, Go.Proofs.Tryz.f99, show retF 99 = false from rfl]; simp only [List.length_cons, List.length_nil, Nat.reduceAdd, Nat.reduceLeDiff, Nat.zero_le, ↓reduceIte, List.zipIdx_cons, List.zipIdx_nil, List.map_cons, List.map_nil])
    simp only [dcV, dcC, bV, iV, tmV, tmC] at r1 ⊢
    simp only [zS, nilEq, wantedA, opA, eff, boxA, cells, ev, gt, pt, putO, updO, setO, okC, loadA, cutC, fieldAddrA, fieldA, indexAddrA, indexA, builtinA, callOpA, callV, target, ptrV, lenS, binA, intOp, strOp, unA, num, lk, over, allocA, pickA, buildA, fillA, convertA, extractA, ofComp, nilCheckA, makeFuncA, ptrs, ofValue, cellB, Nat.reduceAdd, Nat.reduceSub, Nat.reduceMul, Nat.reduceLT, Nat.reduceLeDiff, Nat.reduceGT, ↓reduceIte, Nat.reduceEqDiff, Nat.reduceBEq, reduceCtorEq, Int.reduceBEq, Int.reduceBNe, Int.reduceLT, Int.reduceLE, Int.reduceGT, Int.reduceGE, aggT_39, sizeT_39, bytesT_39, fieldT_39_0, fieldT_39_1, fieldT_39_2, fieldT_39_3, fieldT_39_4, fieldT_39_5, fieldT_39_6, fieldT_39_7, fieldT_39_8, placesT_39, zeroT_39, aggT_9, sizeT_9, bytesT_9, und_9, zero1_9, zeroT_9, aggT_33, sizeT_33, bytesT_33, fieldT_33_0, fieldT_33_1, fieldT_33_2, fieldT_33_3, fieldT_33_4, placesT_33, zeroT_33, aggT_36, sizeT_36, bytesT_36, fieldT_36_0, fieldT_36_1, placesT_36, zeroT_36, aggT_37, sizeT_37, bytesT_37, und_37, elemT_37, isSliceT_37, zero1_37, zeroT_37, aggT_34, sizeT_34, bytesT_34, und_34, elemT_34, isSliceT_34, zero1_34, zeroT_34, aggT_3, sizeT_3, bytesT_3, und_3, zero1_3, zeroT_3, lenA_vd, lenA_cd, a1, a2, a3, a4, r1]
    (refine Eq.trans ?_ rfl; kernel_rfl)
  | false =>
  cases b2 with
  | true =>
    refine ⟨true, ?_⟩
    (rw [run_eq]; simp only [stepA, hx, Go.Proofs.Tryz.func99, Go.Proofs.Tryz.f99, show retF 99 = false from rfl]; simp only [List.length_cons, List.length_nil, Nat.reduceAdd, Nat.reduceLeDiff, Nat.zero_le, ↓reduceIte, List.zipIdx_cons, List.zipIdx_nil, List.map_cons, List.map_nil])
    simp only [dcV, dcC, bV, iV, tmV, tmC] at r1 r2 ⊢
    simp only [zS, nilEq, wantedA, opA, eff, boxA, cells, ev, gt, pt, putO, updO, setO, okC, loadA, cutC, fieldAddrA, fieldA, indexAddrA, indexA, builtinA, callOpA, callV, target, ptrV, lenS, binA, intOp, strOp, unA, num, lk, over, allocA, pickA, buildA, fillA, convertA, extractA, ofComp, nilCheckA, makeFuncA, ptrs, ofValue, cellB, Nat.reduceAdd, Nat.reduceSub, Nat.reduceMul, Nat.reduceLT, Nat.reduceLeDiff, Nat.reduceGT, ↓reduceIte, Nat.reduceEqDiff, Nat.reduceBEq, reduceCtorEq, Int.reduceBEq, Int.reduceBNe, Int.reduceLT, Int.reduceLE, Int.reduceGT, Int.reduceGE, aggT_39, sizeT_39, bytesT_39, fieldT_39_0, fieldT_39_1, fieldT_39_2, fieldT_39_3, fieldT_39_4, fieldT_39_5, fieldT_39_6, fieldT_39_7, fieldT_39_8, placesT_39, zeroT_39, aggT_9, sizeT_9, bytesT_9, und_9, zero1_9, zeroT_9, aggT_33, sizeT_33, bytesT_33, fieldT_33_0, fieldT_33_1, fieldT_33_2, fieldT_33_3, fieldT_33_4, placesT_33, zeroT_33, aggT_36, sizeT_36, bytesT_36, fieldT_36_0, fieldT_36_1, placesT_36, zeroT_36, aggT_37, sizeT_37, bytesT_37, und_37, elemT_37, isSliceT_37, zero1_37, zeroT_37, aggT_34, sizeT_34, bytesT_34, und_34, elemT_34, isSliceT_34, zero1_34, zeroT_34, aggT_3, sizeT_3, bytesT_3, und_3, zero1_3, zeroT_3, lenA_vd, lenA_cd, a1, a2, a3, a4, r1, r2]
    (refine Eq.trans ?_ rfl; kernel_rfl)
  | false =>
  cases b3 with
  | true =>
    refine ⟨true, ?_⟩
    (rw [run_eq]; simp only [stepA, hx, Go.Proofs.Tryz.func99, Go.Proofs.Tryz.f99, show retF 99 = false from rfl]; simp only [List.length_cons, List.length_nil, Nat.reduceAdd, Nat.reduceLeDiff, Nat.zero_le, ↓reduceIte, List.zipIdx_cons, List.zipIdx_nil, List.map_cons, List.map_nil])
    simp only [dcV, dcC, bV, iV, tmV, tmC] at r1 r2 r3 ⊢
    simp only [zS, nilEq, wantedA, opA, eff, boxA, cells, ev, gt, pt, putO, updO, setO, okC, loadA, cutC, fieldAddrA, fieldA, indexAddrA, indexA, builtinA, callOpA, callV, target, ptrV, lenS, binA, intOp, strOp, unA, num, lk, over, allocA, pickA, buildA, fillA, convertA, extractA, ofComp, nilCheckA, makeFuncA, ptrs, ofValue, cellB, Nat.reduceAdd, Nat.reduceSub, Nat.reduceMul, Nat.reduceLT, Nat.reduceLeDiff, Nat.reduceGT, ↓reduceIte, Nat.reduceEqDiff, Nat.reduceBEq, reduceCtorEq, Int.reduceBEq, Int.reduceBNe, Int.reduceLT, Int.reduceLE, Int.reduceGT, Int.reduceGE, aggT_39, sizeT_39, bytesT_39, fieldT_39_0, fieldT_39_1, fieldT_39_2, fieldT_39_3, fieldT_39_4, fieldT_39_5, fieldT_39_6, fieldT_39_7, fieldT_39_8, placesT_39, zeroT_39, aggT_9, sizeT_9, bytesT_9, und_9, zero1_9, zeroT_9, aggT_33, sizeT_33, bytesT_33, fieldT_33_0, fieldT_33_1, fieldT_33_2, fieldT_33_3, fieldT_33_4, placesT_33, zeroT_33, aggT_36, sizeT_36, bytesT_36, fieldT_36_0, fieldT_36_1, placesT_36, zeroT_36, aggT_37, sizeT_37, bytesT_37, und_37, elemT_37, isSliceT_37, zero1_37, zeroT_37, aggT_34, sizeT_34, bytesT_34, und_34, elemT_34, isSliceT_34, zero1_34, zeroT_34, aggT_3, sizeT_3, bytesT_3, und_3, zero1_3, zeroT_3, lenA_vd, lenA_cd, a1, a2, a3, a4, r1, r2, r3]
    (refine Eq.trans ?_ rfl; kernel_rfl)
  | false =>
    have he : ∀ out, H99a ext 0 (E99 m 0) (O99 x) = out → run Go.Proofs.Tryz.prog ext (.call 99 [dcV x, iV m] []) = out := by
      intro out h
      unfold H99a at h
      (rw [run_eq]; simp only [stepA, hx, Go.Proofs.Tryz.func99, Go.Proofs.Tryz.f99, show retF 99 = false from rfl]; simp only [List.length_cons, List.length_nil, Nat.reduceAdd, Nat.reduceLeDiff, Nat.zero_le, ↓reduceIte, List.zipIdx_cons, List.zipIdx_nil, List.map_cons, List.map_nil])
      simp only [dcV, dcC, bV, iV, tmV, tmC, E99, O99] at h r1 r2 r3 ⊢
      simp only [zS, nilEq, wantedA, opA, eff, boxA, cells, ev, gt, pt, putO, updO, setO, okC, loadA, cutC, fieldAddrA, fieldA, indexAddrA, indexA, builtinA, callOpA, callV, target, ptrV, lenS, binA, intOp, strOp, unA, num, lk, over, allocA, pickA, buildA, fillA, convertA, extractA, ofComp, nilCheckA, makeFuncA, ptrs, ofValue, cellB, Nat.reduceAdd, Nat.reduceSub, Nat.reduceMul, Nat.reduceLT, Nat.reduceLeDiff, Nat.reduceGT, ↓reduceIte, Nat.reduceEqDiff, Nat.reduceBEq, reduceCtorEq, Int.reduceBEq, Int.reduceBNe, Int.reduceLT, Int.reduceLE, Int.reduceGT, Int.reduceGE, aggT_39, sizeT_39, bytesT_39, fieldT_39_0, fieldT_39_1, fieldT_39_2, fieldT_39_3, fieldT_39_4, fieldT_39_5, fieldT_39_6, fieldT_39_7, fieldT_39_8, placesT_39, zeroT_39, aggT_9, sizeT_9, bytesT_9, und_9, zero1_9, zeroT_9, aggT_33, sizeT_33, bytesT_33, fieldT_33_0, fieldT_33_1, fieldT_33_2, fieldT_33_3, fieldT_33_4, placesT_33, zeroT_33, aggT_36, sizeT_36, bytesT_36, fieldT_36_0, fieldT_36_1, placesT_36, zeroT_36, aggT_37, sizeT_37, bytesT_37, und_37, elemT_37, isSliceT_37, zero1_37, zeroT_37, aggT_34, sizeT_34, bytesT_34, und_34, elemT_34, isSliceT_34, zero1_34, zeroT_34, aggT_3, sizeT_3, bytesT_3, und_3, zero1_3, zeroT_3, lenA_vd, lenA_cd, a1, a2, a3, a4, r1, r2, r3]
      (refine (r_inLoop_some ?_).trans h; kernel_rfl)
    have ha := loop_ex (σ := Unit) x.cons (fun k _ => H99a ext 0 (E99 m k) (O99 x)) isB (by omega) (fun k y _ hk hl => by
        have h0 : (0 : Int) ≤ k := by omega
        obtain ⟨b, hr⟩ := heavy17 ext h17 h62 h63 y.arg m (s5 y (List.mem_of_getElem? hk))
        by_cases c1 : (y.name.size : Int) > 200
        · refine .inr ⟨.ret [bV true] [], ?_, _, rfl⟩
          unfold H99a
          simp only [dcV, dcC, dV, iV, bV, tmV, tmC, E99, O99, consD_lt hl] at hr ⊢
          (rw [show (It.code L99a) = It.code (sub B99 [1, 1, 1, 0, 1, 0, 0]) from rfl]; simp only [B99, K99a, sub, Option.getD_some, Go.Proofs.Tryz.f99, ↓reduceIte, Nat.one_ne_zero])
          simp only [zS, nilEq, wantedA, opA, eff, boxA, cells, ev, gt, pt, putO, updO, setO, okC, loadA, cutC, fieldAddrA, fieldA, indexAddrA, indexA, builtinA, callOpA, callV, target, ptrV, lenS, binA, intOp, strOp, unA, num, lk, over, allocA, pickA, buildA, fillA, convertA, extractA, ofComp, nilCheckA, makeFuncA, ptrs, ofValue, cellB, Nat.reduceAdd, Nat.reduceSub, Nat.reduceMul, Nat.reduceLT, Nat.reduceLeDiff, Nat.reduceGT, ↓reduceIte, Nat.reduceEqDiff, Nat.reduceBEq, reduceCtorEq, Int.reduceBEq, Int.reduceBNe, Int.reduceLT, Int.reduceLE, Int.reduceGT, Int.reduceGE, aggT_39, sizeT_39, bytesT_39, fieldT_39_0, fieldT_39_1, fieldT_39_2, fieldT_39_3, fieldT_39_4, fieldT_39_5, fieldT_39_6, fieldT_39_7, fieldT_39_8, placesT_39, zeroT_39, aggT_98, sizeT_98, bytesT_98, fieldT_98_0, fieldT_98_1, placesT_98, zeroT_98, aggT_9, sizeT_9, bytesT_9, und_9, zero1_9, zeroT_9, aggT_33, sizeT_33, bytesT_33, fieldT_33_0, fieldT_33_1, fieldT_33_2, fieldT_33_3, fieldT_33_4, placesT_33, zeroT_33, aggT_37, sizeT_37, bytesT_37, und_37, elemT_37, isSliceT_37, zero1_37, zeroT_37, aggT_3, sizeT_3, bytesT_3, und_3, zero1_3, zeroT_3, h0, hl, Int.toNat_natCast, hk, conD_eq y, c1]
          (refine Eq.trans ?_ rfl; kernel_rfl)
        cases b with
        | true =>
          refine .inr ⟨.ret [bV true] [], ?_, _, rfl⟩
          unfold H99a
          simp only [dcV, dcC, dV, iV, bV, tmV, tmC, E99, O99, consD_lt hl] at hr ⊢
          (rw [show (It.code L99a) = It.code (sub B99 [1, 1, 1, 0, 1, 0, 0]) from rfl]; simp only [B99, K99a, sub, Option.getD_some, Go.Proofs.Tryz.f99, ↓reduceIte, Nat.one_ne_zero])
          simp only [zS, nilEq, wantedA, opA, eff, boxA, cells, ev, gt, pt, putO, updO, setO, okC, loadA, cutC, fieldAddrA, fieldA, indexAddrA, indexA, builtinA, callOpA, callV, target, ptrV, lenS, binA, intOp, strOp, unA, num, lk, over, allocA, pickA, buildA, fillA, convertA, extractA, ofComp, nilCheckA, makeFuncA, ptrs, ofValue, cellB, Nat.reduceAdd, Nat.reduceSub, Nat.reduceMul, Nat.reduceLT, Nat.reduceLeDiff, Nat.reduceGT, ↓reduceIte, Nat.reduceEqDiff, Nat.reduceBEq, reduceCtorEq, Int.reduceBEq, Int.reduceBNe, Int.reduceLT, Int.reduceLE, Int.reduceGT, Int.reduceGE, aggT_39, sizeT_39, bytesT_39, fieldT_39_0, fieldT_39_1, fieldT_39_2, fieldT_39_3, fieldT_39_4, fieldT_39_5, fieldT_39_6, fieldT_39_7, fieldT_39_8, placesT_39, zeroT_39, aggT_98, sizeT_98, bytesT_98, fieldT_98_0, fieldT_98_1, placesT_98, zeroT_98, aggT_9, sizeT_9, bytesT_9, und_9, zero1_9, zeroT_9, aggT_33, sizeT_33, bytesT_33, fieldT_33_0, fieldT_33_1, fieldT_33_2, fieldT_33_3, fieldT_33_4, placesT_33, zeroT_33, aggT_37, sizeT_37, bytesT_37, und_37, elemT_37, isSliceT_37, zero1_37, zeroT_37, aggT_3, sizeT_3, bytesT_3, und_3, zero1_3, zeroT_3, h0, hl, Int.toNat_natCast, hk, conD_eq y, c1, hr]
          (refine Eq.trans ?_ rfl; kernel_rfl)
        | false =>
          refine .inl ⟨(), fun out h => ?_⟩
          unfold H99a at h ⊢
          simp only [dcV, dcC, dV, iV, bV, tmV, tmC, E99, O99, consD_lt hl] at hr h ⊢
          (rw [show (It.code L99a) = It.code (sub B99 [1, 1, 1, 0, 1, 0, 0]) from rfl]; simp only [B99, K99a, sub, Option.getD_some, Go.Proofs.Tryz.f99, ↓reduceIte, Nat.one_ne_zero])
          simp only [zS, nilEq, wantedA, opA, eff, boxA, cells, ev, gt, pt, putO, updO, setO, okC, loadA, cutC, fieldAddrA, fieldA, indexAddrA, indexA, builtinA, callOpA, callV, target, ptrV, lenS, binA, intOp, strOp, unA, num, lk, over, allocA, pickA, buildA, fillA, convertA, extractA, ofComp, nilCheckA, makeFuncA, ptrs, ofValue, cellB, Nat.reduceAdd, Nat.reduceSub, Nat.reduceMul, Nat.reduceLT, Nat.reduceLeDiff, Nat.reduceGT, ↓reduceIte, Nat.reduceEqDiff, Nat.reduceBEq, reduceCtorEq, Int.reduceBEq, Int.reduceBNe, Int.reduceLT, Int.reduceLE, Int.reduceGT, Int.reduceGE, aggT_39, sizeT_39, bytesT_39, fieldT_39_0, fieldT_39_1, fieldT_39_2, fieldT_39_3, fieldT_39_4, fieldT_39_5, fieldT_39_6, fieldT_39_7, fieldT_39_8, placesT_39, zeroT_39, aggT_98, sizeT_98, bytesT_98, fieldT_98_0, fieldT_98_1, placesT_98, zeroT_98, aggT_9, sizeT_9, bytesT_9, und_9, zero1_9, zeroT_9, aggT_33, sizeT_33, bytesT_33, fieldT_33_0, fieldT_33_1, fieldT_33_2, fieldT_33_3, fieldT_33_4, placesT_33, zeroT_33, aggT_37, sizeT_37, bytesT_37, und_37, elemT_37, isSliceT_37, zero1_37, zeroT_37, aggT_3, sizeT_3, bytesT_3, und_3, zero1_3, zeroT_3, h0, hl, Int.toNat_natCast, hk, conD_eq y, c1, hr]
          (refine (r_inLoop_some ?_).trans h; kernel_rfl)) (fun _ => by
        refine ⟨.ret [bV false] [], ?_, _, rfl⟩
        unfold H99a
        simp only [dcV, dcC, dV, iV, bV, E99, O99]
        (rw [show (It.code L99a) = It.code (sub B99 [1, 1, 1, 0, 1, 0, 0]) from rfl]; simp only [B99, K99a, sub, Option.getD_some, Go.Proofs.Tryz.f99, ↓reduceIte, Nat.one_ne_zero])
        simp only [zS, nilEq, wantedA, opA, eff, boxA, cells, ev, gt, pt, putO, updO, setO, okC, loadA, cutC, fieldAddrA, fieldA, indexAddrA, indexA, builtinA, callOpA, callV, target, ptrV, lenS, binA, intOp, strOp, unA, num, lk, over, allocA, pickA, buildA, fillA, convertA, extractA, ofComp, nilCheckA, makeFuncA, ptrs, ofValue, cellB, Nat.reduceAdd, Nat.reduceSub, Nat.reduceMul, Nat.reduceLT, Nat.reduceLeDiff, Nat.reduceGT, ↓reduceIte, Nat.reduceEqDiff, Nat.reduceBEq, reduceCtorEq, Int.reduceBEq, Int.reduceBNe, Int.reduceLT, Int.reduceLE, Int.reduceGT, Int.reduceGE, aggT_39, sizeT_39, bytesT_39, fieldT_39_0, fieldT_39_1, fieldT_39_2, fieldT_39_3, fieldT_39_4, fieldT_39_5, fieldT_39_6, fieldT_39_7, fieldT_39_8, placesT_39, zeroT_39, aggT_37, sizeT_37, bytesT_37, und_37, elemT_37, isSliceT_37, zero1_37, zeroT_37, aggT_3, sizeT_3, bytesT_3, und_3, zero1_3, zeroT_3, lenA_cd, Int.lt_irrefl]
        (refine Eq.trans ?_ rfl; kernel_rfl)) ()
    obtain ⟨o, h1, b, rfl⟩ := ha
    exact ⟨b, he _ h1⟩
def E57 (m k : Int) : Env := [(2, iV m), (3, .c (.ptr 0 0)), (7, iV k)]
def O57 (x : Tb) : List O := [.box (tbC x)]
theorem table57 (hx : ext 57 = none) (h99 : ext 99 = none) (h17 : ext 17 = none) (h62 : ext 62 = none) (h63 : ext 63 = none) (x : Tb) (n m : Int) (hs : x.ok) : ∃ b, run Go.Proofs.Tryz.prog ext (.call 57 [tbV x, iV n, iV m] []) = some (.ret [bV b] []) := by
  obtain ⟨s1, s2⟩ := hs
  by_cases a1 : (x.ds.length : Int) > n
  · refine ⟨true, ?_⟩
    (rw [run_eq]; simp only [stepA, hx, Go.Proofs.Tryz.func57, Go.Proofs.Tryz.f57, show retF 57 = false from rfl]; simp only [List.length_cons, List.length_nil, Nat.reduceAdd, Nat.reduceLeDiff, Nat.zero_le, ↓reduceIte, List.zipIdx_cons, List.zipIdx_nil, List.map_cons, List.map_nil])
    simp only [tbV, tbC, bV, iV]
    simp only [zS, nilEq, wantedA, opA, eff, boxA, cells, ev, gt, pt, putO, updO, setO, okC, loadA, cutC, fieldAddrA, fieldA, indexAddrA, indexA, builtinA, callOpA, callV, target, ptrV, lenS, binA, intOp, strOp, unA, num, lk, over, allocA, pickA, buildA, fillA, convertA, extractA, ofComp, nilCheckA, makeFuncA, ptrs, ofValue, cellB, Nat.reduceAdd, Nat.reduceSub, Nat.reduceMul, Nat.reduceLT, Nat.reduceLeDiff, Nat.reduceGT, ↓reduceIte, Nat.reduceEqDiff, Nat.reduceBEq, reduceCtorEq, Int.reduceBEq, Int.reduceBNe, Int.reduceLT, Int.reduceLE, Int.reduceGT, Int.reduceGE, aggT_24, sizeT_24, bytesT_24, fieldT_24_0, placesT_24, zeroT_24, aggT_22, sizeT_22, bytesT_22, und_22, elemT_22, isSliceT_22, zero1_22, zeroT_22, aggT_3, sizeT_3, bytesT_3, und_3, zero1_3, zeroT_3, lenA_td, a1]
    (refine Eq.trans ?_ rfl; kernel_rfl)
  have he : ∀ out, H57a ext 0 (E57 m 0) (O57 x) = out → run Go.Proofs.Tryz.prog ext (.call 57 [tbV x, iV n, iV m] []) = out := by
    intro out h
    unfold H57a at h
    (rw [run_eq]; simp only [stepA, hx, Go.Proofs.Tryz.func57, Go.Proofs.Tryz.f57, show retF 57 = false from rfl]; simp only [List.length_cons, List.length_nil, Nat.reduceAdd, Nat.reduceLeDiff, Nat.zero_le, ↓reduceIte, List.zipIdx_cons, List.zipIdx_nil, List.map_cons, List.map_nil])
    simp only [tbV, tbC, bV, iV, E57, O57] at h ⊢
    simp only [zS, nilEq, wantedA, opA, eff, boxA, cells, ev, gt, pt, putO, updO, setO, okC, loadA, cutC, fieldAddrA, fieldA, indexAddrA, indexA, builtinA, callOpA, callV, target, ptrV, lenS, binA, intOp, strOp, unA, num, lk, over, allocA, pickA, buildA, fillA, convertA, extractA, ofComp, nilCheckA, makeFuncA, ptrs, ofValue, cellB, Nat.reduceAdd, Nat.reduceSub, Nat.reduceMul, Nat.reduceLT, Nat.reduceLeDiff, Nat.reduceGT, ↓reduceIte, Nat.reduceEqDiff, Nat.reduceBEq, reduceCtorEq, Int.reduceBEq, Int.reduceBNe, Int.reduceLT, Int.reduceLE, Int.reduceGT, Int.reduceGE, aggT_24, sizeT_24, bytesT_24, fieldT_24_0, placesT_24, zeroT_24, aggT_22, sizeT_22, bytesT_22, und_22, elemT_22, isSliceT_22, zero1_22, zeroT_22, aggT_3, sizeT_3, bytesT_3, und_3, zero1_3, zeroT_3, lenA_td, a1]
    (refine (r_inLoop_some ?_).trans h; kernel_rfl)
  have ha := loop_ex (σ := Unit) x.ds (fun k _ => H57a ext 0 (E57 m k) (O57 x)) isB (by omega) (fun k y _ hk hl => by
      have h0 : (0 : Int) ≤ k := by omega
      obtain ⟨b, hr⟩ := decl99 ext h99 h17 h62 h63 y m (s2 y (List.mem_of_getElem? hk))
      cases b with
      | true =>
        refine .inr ⟨.ret [bV true] [], ?_, _, rfl⟩
        unfold H57a
        simp only [dcV, dcC, tbC, dV, iV, bV, E57, O57, dsD_lt h0 hl] at hr ⊢
        (rw [show (It.code L57a) = It.code (sub B57 [1, 1, 0, 1, 0, 0]) from rfl]; simp only [B57, K57a, sub, Option.getD_some, Go.Proofs.Tryz.f57, ↓reduceIte, Nat.one_ne_zero])
        simp only [zS, nilEq, wantedA, opA, eff, boxA, cells, ev, gt, pt, putO, updO, setO, okC, loadA, cutC, fieldAddrA, fieldA, indexAddrA, indexA, builtinA, callOpA, callV, target, ptrV, lenS, binA, intOp, strOp, unA, num, lk, over, allocA, pickA, buildA, fillA, convertA, extractA, ofComp, nilCheckA, makeFuncA, ptrs, ofValue, cellB, Nat.reduceAdd, Nat.reduceSub, Nat.reduceMul, Nat.reduceLT, Nat.reduceLeDiff, Nat.reduceGT, ↓reduceIte, Nat.reduceEqDiff, Nat.reduceBEq, reduceCtorEq, Int.reduceBEq, Int.reduceBNe, Int.reduceLT, Int.reduceLE, Int.reduceGT, Int.reduceGE, aggT_39, sizeT_39, bytesT_39, fieldT_39_0, fieldT_39_1, fieldT_39_2, fieldT_39_3, fieldT_39_4, fieldT_39_5, fieldT_39_6, fieldT_39_7, fieldT_39_8, placesT_39, zeroT_39, aggT_24, sizeT_24, bytesT_24, fieldT_24_0, placesT_24, zeroT_24, aggT_22, sizeT_22, bytesT_22, und_22, elemT_22, isSliceT_22, zero1_22, zeroT_22, aggT_3, sizeT_3, bytesT_3, und_3, zero1_3, zeroT_3, h0, hl, Int.toNat_natCast, hk, dcD_eq y, hr]
        (refine Eq.trans ?_ rfl; kernel_rfl)
      | false =>
        refine .inl ⟨(), fun out h => ?_⟩
        unfold H57a at h ⊢
        simp only [dcV, dcC, tbC, dV, iV, bV, E57, O57, dsD_lt h0 hl] at hr h ⊢
        (rw [show (It.code L57a) = It.code (sub B57 [1, 1, 0, 1, 0, 0]) from rfl]; simp only [B57, K57a, sub, Option.getD_some, Go.Proofs.Tryz.f57, ↓reduceIte, Nat.one_ne_zero])
        simp only [zS, nilEq, wantedA, opA, eff, boxA, cells, ev, gt, pt, putO, updO, setO, okC, loadA, cutC, fieldAddrA, fieldA, indexAddrA, indexA, builtinA, callOpA, callV, target, ptrV, lenS, binA, intOp, strOp, unA, num, lk, over, allocA, pickA, buildA, fillA, convertA, extractA, ofComp, nilCheckA, makeFuncA, ptrs, ofValue, cellB, Nat.reduceAdd, Nat.reduceSub, Nat.reduceMul, Nat.reduceLT, Nat.reduceLeDiff, Nat.reduceGT, ↓reduceIte, Nat.reduceEqDiff, Nat.reduceBEq, reduceCtorEq, Int.reduceBEq, Int.reduceBNe, Int.reduceLT, Int.reduceLE, Int.reduceGT, Int.reduceGE, aggT_39, sizeT_39, bytesT_39, fieldT_39_0, fieldT_39_1, fieldT_39_2, fieldT_39_3, fieldT_39_4, fieldT_39_5, fieldT_39_6, fieldT_39_7, fieldT_39_8, placesT_39, zeroT_39, aggT_24, sizeT_24, bytesT_24, fieldT_24_0, placesT_24, zeroT_24, aggT_22, sizeT_22, bytesT_22, und_22, elemT_22, isSliceT_22, zero1_22, zeroT_22, aggT_3, sizeT_3, bytesT_3, und_3, zero1_3, zeroT_3, h0, hl, Int.toNat_natCast, hk, dcD_eq y, hr]
        (refine (r_inLoop_some ?_).trans h; kernel_rfl)) (fun _ => by
      refine ⟨.ret [bV false] [], ?_, _, rfl⟩
      unfold H57a
      simp only [tbC, dV, iV, bV, E57, O57]
      (rw [show (It.code L57a) = It.code (sub B57 [1, 1, 0, 1, 0, 0]) from rfl]; simp only [B57, K57a, sub, Option.getD_some, Go.Proofs.Tryz.f57, ↓reduceIte, Nat.one_ne_zero])
      simp only [zS, nilEq, wantedA, opA, eff, boxA, cells, ev, gt, pt, putO, updO, setO, okC, loadA, cutC, fieldAddrA, fieldA, indexAddrA, indexA, builtinA, callOpA, callV, target, ptrV, lenS, binA, intOp, strOp, unA, num, lk, over, allocA, pickA, buildA, fillA, convertA, extractA, ofComp, nilCheckA, makeFuncA, ptrs, ofValue, cellB, Nat.reduceAdd, Nat.reduceSub, Nat.reduceMul, Nat.reduceLT, Nat.reduceLeDiff, Nat.reduceGT, ↓reduceIte, Nat.reduceEqDiff, Nat.reduceBEq, reduceCtorEq, Int.reduceBEq, Int.reduceBNe, Int.reduceLT, Int.reduceLE, Int.reduceGT, Int.reduceGE, aggT_24, sizeT_24, bytesT_24, fieldT_24_0, placesT_24, zeroT_24, aggT_22, sizeT_22, bytesT_22, und_22, elemT_22, isSliceT_22, zero1_22, zeroT_22, aggT_3, sizeT_3, bytesT_3, und_3, zero1_3, zeroT_3, lenA_td, Int.lt_irrefl]
      (refine Eq.trans ?_ rfl; kernel_rfl)) ()
  obtain ⟨o, h1, b, rfl⟩ := ha
  exact ⟨b, he _ h1⟩
theorem heavy13 (hx : ext 13 = none) (h57 : ext 57 = none) (h99 : ext 99 = none) (h17 : ext 17 = none) (h62 : ext 62 = none) (h63 : ext 63 = none) (x : Tb) (hs : x.ok) : ∃ b, run Go.Proofs.Tryz.prog ext (.call 13 [tbV x] []) = some (.ret [bV b] []) := by
  obtain ⟨b, hr⟩ := table57 ext h57 h99 h17 h62 h63 x 40 400 hs
  refine ⟨b, ?_⟩
  (rw [run_eq]; simp only [stepA, hx, Go.Proofs.Tryz.func13, Go.Proofs.Tryz.f13, show retF 13 = false from rfl]; simp only [List.length_cons, List.length_nil, Nat.reduceAdd, Nat.reduceLeDiff, Nat.zero_le, ↓reduceIte, List.zipIdx_cons, List.zipIdx_nil, List.map_cons, List.map_nil])
  simp only [tbV, tbC, bV, iV] at hr ⊢
  simp only [zS, nilEq, wantedA, opA, eff, boxA, cells, ev, gt, pt, putO, updO, setO, okC, loadA, cutC, fieldAddrA, fieldA, indexAddrA, indexA, builtinA, callOpA, callV, target, ptrV, lenS, binA, intOp, strOp, unA, num, lk, over, allocA, pickA, buildA, fillA, convertA, extractA, ofComp, nilCheckA, makeFuncA, ptrs, ofValue, cellB, Nat.reduceAdd, Nat.reduceSub, Nat.reduceMul, Nat.reduceLT, Nat.reduceLeDiff, Nat.reduceGT, ↓reduceIte, Nat.reduceEqDiff, Nat.reduceBEq, reduceCtorEq, Int.reduceBEq, Int.reduceBNe, Int.reduceLT, Int.reduceLE, Int.reduceGT, Int.reduceGE, aggT_24, sizeT_24, bytesT_24, fieldT_24_0, placesT_24, zeroT_24, hr]
  (refine Eq.trans ?_ rfl; kernel_rfl)
def E31 (D : D) (k : Int) : Env := [(0, dV D), (3, iV k)]
theorem levels31 (hx : ext 31 = none) (z : Bool) (l : List Lev) (hs : l.length < 2 ^ 50) : ∃ b, run Go.Proofs.Tryz.prog ext (.call 31 [dV (listD z 2 (l.map levD))] []) = some (.ret [bV b] []) := by
  by_cases a1 : (l.length : Int) > 20
  · refine ⟨true, ?_⟩
    (rw [run_eq]; simp only [stepA, hx, Go.Proofs.Tryz.func31, Go.Proofs.Tryz.f31, show retF 31 = false from rfl]; simp only [List.length_cons, List.length_nil, Nat.reduceAdd, Nat.reduceLeDiff, Nat.zero_le, ↓reduceIte, List.zipIdx_cons, List.zipIdx_nil, List.map_cons, List.map_nil])
    simp only [dV, bV]
    simp only [zS, nilEq, wantedA, opA, eff, boxA, cells, ev, gt, pt, putO, updO, setO, okC, loadA, cutC, fieldAddrA, fieldA, indexAddrA, indexA, builtinA, callOpA, callV, target, ptrV, lenS, binA, intOp, strOp, unA, num, lk, over, allocA, pickA, buildA, fillA, convertA, extractA, ofComp, nilCheckA, makeFuncA, ptrs, ofValue, cellB, Nat.reduceAdd, Nat.reduceSub, Nat.reduceMul, Nat.reduceLT, Nat.reduceLeDiff, Nat.reduceGT, ↓reduceIte, Nat.reduceEqDiff, Nat.reduceBEq, reduceCtorEq, Int.reduceBEq, Int.reduceBNe, Int.reduceLT, Int.reduceLE, Int.reduceGT, Int.reduceGE, aggT_30, sizeT_30, bytesT_30, und_30, elemT_30, isSliceT_30, zero1_30, zeroT_30, aggT_3, sizeT_3, bytesT_3, und_3, zero1_3, zeroT_3, a1]
    (refine Eq.trans ?_ rfl; kernel_rfl)
  have he : ∀ out, H31a ext 0 (E31 (listD z 2 (l.map levD)) 0) [] = out → run Go.Proofs.Tryz.prog ext (.call 31 [dV (listD z 2 (l.map levD))] []) = out := by
    intro out h
    unfold H31a at h
    (rw [run_eq]; simp only [stepA, hx, Go.Proofs.Tryz.func31, Go.Proofs.Tryz.f31, show retF 31 = false from rfl]; simp only [List.length_cons, List.length_nil, Nat.reduceAdd, Nat.reduceLeDiff, Nat.zero_le, ↓reduceIte, List.zipIdx_cons, List.zipIdx_nil, List.map_cons, List.map_nil])
    simp only [dV, iV, E31] at h ⊢
    simp only [zS, nilEq, wantedA, opA, eff, boxA, cells, ev, gt, pt, putO, updO, setO, okC, loadA, cutC, fieldAddrA, fieldA, indexAddrA, indexA, builtinA, callOpA, callV, target, ptrV, lenS, binA, intOp, strOp, unA, num, lk, over, allocA, pickA, buildA, fillA, convertA, extractA, ofComp, nilCheckA, makeFuncA, ptrs, ofValue, cellB, Nat.reduceAdd, Nat.reduceSub, Nat.reduceMul, Nat.reduceLT, Nat.reduceLeDiff, Nat.reduceGT, ↓reduceIte, Nat.reduceEqDiff, Nat.reduceBEq, reduceCtorEq, Int.reduceBEq, Int.reduceBNe, Int.reduceLT, Int.reduceLE, Int.reduceGT, Int.reduceGE, aggT_30, sizeT_30, bytesT_30, und_30, elemT_30, isSliceT_30, zero1_30, zeroT_30, aggT_3, sizeT_3, bytesT_3, und_3, zero1_3, zeroT_3, a1]
    (refine (r_inLoop_some ?_).trans h; kernel_rfl)
  have ha := loop_ex (σ := Unit) l (fun k _ => H31a ext 0 (E31 (listD z 2 (l.map levD)) k) []) isB (by omega) (fun k y _ hk hl => by
      have h0 : (0 : Int) ≤ k := by omega
      have hd : listD z 2 (l.map levD) = .s 2 (l.map levD) := listD_of_lt h0 (by simpa using hl)
      by_cases c1 : (y.vs.length : Int) > 20
      · refine .inr ⟨.ret [bV true] [], ?_, _, rfl⟩
        unfold H31a
        simp only [dV, iV, bV, E31, hd]
        (rw [show (It.code L31a) = It.code (sub B31 [1, 1, 0, 1, 0, 0]) from rfl]; simp only [B31, K31a, sub, Option.getD_some, Go.Proofs.Tryz.f31, ↓reduceIte, Nat.one_ne_zero])
        simp only [zS, nilEq, wantedA, opA, eff, boxA, cells, ev, gt, pt, putO, updO, setO, okC, loadA, cutC, fieldAddrA, fieldA, indexAddrA, indexA, builtinA, callOpA, callV, target, ptrV, lenS, binA, intOp, strOp, unA, num, lk, over, allocA, pickA, buildA, fillA, convertA, extractA, ofComp, nilCheckA, makeFuncA, ptrs, ofValue, cellB, Nat.reduceAdd, Nat.reduceSub, Nat.reduceMul, Nat.reduceLT, Nat.reduceLeDiff, Nat.reduceGT, ↓reduceIte, Nat.reduceEqDiff, Nat.reduceBEq, reduceCtorEq, Int.reduceBEq, Int.reduceBNe, Int.reduceLT, Int.reduceLE, Int.reduceGT, Int.reduceGE, aggT_36, sizeT_36, bytesT_36, fieldT_36_0, fieldT_36_1, placesT_36, zeroT_36, aggT_30, sizeT_30, bytesT_30, und_30, elemT_30, isSliceT_30, zero1_30, zeroT_30, aggT_34, sizeT_34, bytesT_34, und_34, elemT_34, isSliceT_34, zero1_34, zeroT_34, aggT_3, sizeT_3, bytesT_3, und_3, zero1_3, zeroT_3, h0, hl, Int.toNat_natCast, hk, levD, lenA_vd, c1]
        (refine Eq.trans ?_ rfl; kernel_rfl)
      · refine .inl ⟨(), fun out h => ?_⟩
        unfold H31a at h ⊢
        simp only [dV, iV, bV, E31, hd] at h ⊢
        (rw [show (It.code L31a) = It.code (sub B31 [1, 1, 0, 1, 0, 0]) from rfl]; simp only [B31, K31a, sub, Option.getD_some, Go.Proofs.Tryz.f31, ↓reduceIte, Nat.one_ne_zero])
        simp only [zS, nilEq, wantedA, opA, eff, boxA, cells, ev, gt, pt, putO, updO, setO, okC, loadA, cutC, fieldAddrA, fieldA, indexAddrA, indexA, builtinA, callOpA, callV, target, ptrV, lenS, binA, intOp, strOp, unA, num, lk, over, allocA, pickA, buildA, fillA, convertA, extractA, ofComp, nilCheckA, makeFuncA, ptrs, ofValue, cellB, Nat.reduceAdd, Nat.reduceSub, Nat.reduceMul, Nat.reduceLT, Nat.reduceLeDiff, Nat.reduceGT, ↓reduceIte, Nat.reduceEqDiff, Nat.reduceBEq, reduceCtorEq, Int.reduceBEq, Int.reduceBNe, Int.reduceLT, Int.reduceLE, Int.reduceGT, Int.reduceGE, aggT_36, sizeT_36, bytesT_36, fieldT_36_0, fieldT_36_1, placesT_36, zeroT_36, aggT_30, sizeT_30, bytesT_30, und_30, elemT_30, isSliceT_30, zero1_30, zeroT_30, aggT_34, sizeT_34, bytesT_34, und_34, elemT_34, isSliceT_34, zero1_34, zeroT_34, aggT_3, sizeT_3, bytesT_3, und_3, zero1_3, zeroT_3, h0, hl, Int.toNat_natCast, hk, levD, lenA_vd, c1]
        (refine (r_inLoop_some ?_).trans h; kernel_rfl)) (fun _ => by
      refine ⟨.ret [bV false] [], ?_, _, rfl⟩
      unfold H31a
      simp only [dV, iV, bV, E31]
      (rw [show (It.code L31a) = It.code (sub B31 [1, 1, 0, 1, 0, 0]) from rfl]; simp only [B31, K31a, sub, Option.getD_some, Go.Proofs.Tryz.f31, ↓reduceIte, Nat.one_ne_zero])
      simp only [zS, nilEq, wantedA, opA, eff, boxA, cells, ev, gt, pt, putO, updO, setO, okC, loadA, cutC, fieldAddrA, fieldA, indexAddrA, indexA, builtinA, callOpA, callV, target, ptrV, lenS, binA, intOp, strOp, unA, num, lk, over, allocA, pickA, buildA, fillA, convertA, extractA, ofComp, nilCheckA, makeFuncA, ptrs, ofValue, cellB, Nat.reduceAdd, Nat.reduceSub, Nat.reduceMul, Nat.reduceLT, Nat.reduceLeDiff, Nat.reduceGT, ↓reduceIte, Nat.reduceEqDiff, Nat.reduceBEq, reduceCtorEq, Int.reduceBEq, Int.reduceBNe, Int.reduceLT, Int.reduceLE, Int.reduceGT, Int.reduceGE, aggT_30, sizeT_30, bytesT_30, und_30, elemT_30, isSliceT_30, zero1_30, zeroT_30, aggT_3, sizeT_3, bytesT_3, und_3, zero1_3, zeroT_3, Int.lt_irrefl]
      (refine Eq.trans ?_ rfl; kernel_rfl)) ()
  obtain ⟨o, h1, b, rfl⟩ := ha
  exact ⟨b, he _ h1⟩
/-! ### Find -/
def isNm (s : ByteArray) (d : Dc) : Bool := d.name.toList == s.toList
def find (t : Tb) (s : ByteArray) : Int := idxI (isNm s) t.ds
def E37 (s : ByteArray) (k : Int) : Env := [(1, sV s), (2, .c (.ptr 0 0)), (5, iV k)]
theorem find37 (hx : ext 37 = none) (x : Tb) (s : ByteArray) (hs : x.ds.length < 2 ^ 50) : run Go.Proofs.Tryz.prog ext (.call 37 [tbV x, sV s] []) = some (.ret [iV (find x s)] []) := by
  have he : ∀ out, H37a ext 0 (E37 s 0) (O57 x) = out → run Go.Proofs.Tryz.prog ext (.call 37 [tbV x, sV s] []) = out := by
    intro out h
    unfold H37a at h
    (rw [run_eq]; simp only [stepA, hx, Go.Proofs.Tryz.func37, Go.Proofs.Tryz.f37, show retF 37 = false from rfl]; simp only [List.length_cons, List.length_nil, Nat.reduceAdd, Nat.reduceLeDiff, Nat.zero_le, ↓reduceIte, List.zipIdx_cons, List.zipIdx_nil, List.map_cons, List.map_nil])
    simp only [tbV, tbC, sV, iV, E37, O57] at h ⊢
    simp only [zS, nilEq, wantedA, opA, eff, boxA, cells, ev, gt, pt, putO, updO, setO, okC, loadA, cutC, fieldAddrA, fieldA, indexAddrA, indexA, builtinA, callOpA, callV, target, ptrV, lenS, binA, intOp, strOp, unA, num, lk, over, allocA, pickA, buildA, fillA, convertA, extractA, ofComp, nilCheckA, makeFuncA, ptrs, ofValue, cellB, Nat.reduceAdd, Nat.reduceSub, Nat.reduceMul, Nat.reduceLT, Nat.reduceLeDiff, Nat.reduceGT, ↓reduceIte, Nat.reduceEqDiff, Nat.reduceBEq, reduceCtorEq, Int.reduceBEq, Int.reduceBNe, Int.reduceLT, Int.reduceLE, Int.reduceGT, Int.reduceGE, aggT_24, sizeT_24, bytesT_24, fieldT_24_0, placesT_24, zeroT_24, aggT_22, sizeT_22, bytesT_22, und_22, elemT_22, isSliceT_22, zero1_22, zeroT_22, aggT_3, sizeT_3, bytesT_3, und_3, zero1_3, zeroT_3]
    (refine (r_inLoop_some ?_).trans h; kernel_rfl)
  refine he _ ?_
  have := loop_find x.ds (fun k => H37a ext 0 (E37 s k) (O57 x)) (isNm s) (fun k => some (.ret [iV k] [])) (some (.ret [iV (-1)] [])) (by omega) (fun k y hk hl => by
      have h0 : (0 : Int) ≤ k := by omega
      unfold H37a isNm
      refine ⟨fun hp => ?_, fun hp out h => ?_⟩
      · simp only [tbC, dV, iV, sV, E37, O57, dsD_lt h0 hl]
        (rw [show (It.code L37a) = It.code (sub B37 [1, 0, 1, 0, 0]) from rfl]; simp only [B37, K37a, sub, Option.getD_some, Go.Proofs.Tryz.f37, ↓reduceIte, Nat.one_ne_zero])
        simp only [zS, nilEq, wantedA, opA, eff, boxA, cells, ev, gt, pt, putO, updO, setO, okC, loadA, cutC, fieldAddrA, fieldA, indexAddrA, indexA, builtinA, callOpA, callV, target, ptrV, lenS, binA, intOp, strOp, unA, num, lk, over, allocA, pickA, buildA, fillA, convertA, extractA, ofComp, nilCheckA, makeFuncA, ptrs, ofValue, cellB, Nat.reduceAdd, Nat.reduceSub, Nat.reduceMul, Nat.reduceLT, Nat.reduceLeDiff, Nat.reduceGT, ↓reduceIte, Nat.reduceEqDiff, Nat.reduceBEq, reduceCtorEq, Int.reduceBEq, Int.reduceBNe, Int.reduceLT, Int.reduceLE, Int.reduceGT, Int.reduceGE, aggT_39, sizeT_39, bytesT_39, fieldT_39_0, fieldT_39_1, fieldT_39_2, fieldT_39_3, fieldT_39_4, fieldT_39_5, fieldT_39_6, fieldT_39_7, fieldT_39_8, placesT_39, zeroT_39, aggT_24, sizeT_24, bytesT_24, fieldT_24_0, placesT_24, zeroT_24, aggT_22, sizeT_22, bytesT_22, und_22, elemT_22, isSliceT_22, zero1_22, zeroT_22, aggT_9, sizeT_9, bytesT_9, und_9, zero1_9, zeroT_9, aggT_3, sizeT_3, bytesT_3, und_3, zero1_3, zeroT_3, h0, hl, Int.toNat_natCast, hk, dcD_eq y, hp]
        (refine Eq.trans ?_ rfl; kernel_rfl)
      · simp only [tbC, dV, iV, sV, E37, O57, dsD_lt h0 hl] at h ⊢
        (rw [show (It.code L37a) = It.code (sub B37 [1, 0, 1, 0, 0]) from rfl]; simp only [B37, K37a, sub, Option.getD_some, Go.Proofs.Tryz.f37, ↓reduceIte, Nat.one_ne_zero])
        simp only [zS, nilEq, wantedA, opA, eff, boxA, cells, ev, gt, pt, putO, updO, setO, okC, loadA, cutC, fieldAddrA, fieldA, indexAddrA, indexA, builtinA, callOpA, callV, target, ptrV, lenS, binA, intOp, strOp, unA, num, lk, over, allocA, pickA, buildA, fillA, convertA, extractA, ofComp, nilCheckA, makeFuncA, ptrs, ofValue, cellB, Nat.reduceAdd, Nat.reduceSub, Nat.reduceMul, Nat.reduceLT, Nat.reduceLeDiff, Nat.reduceGT, ↓reduceIte, Nat.reduceEqDiff, Nat.reduceBEq, reduceCtorEq, Int.reduceBEq, Int.reduceBNe, Int.reduceLT, Int.reduceLE, Int.reduceGT, Int.reduceGE, aggT_39, sizeT_39, bytesT_39, fieldT_39_0, fieldT_39_1, fieldT_39_2, fieldT_39_3, fieldT_39_4, fieldT_39_5, fieldT_39_6, fieldT_39_7, fieldT_39_8, placesT_39, zeroT_39, aggT_24, sizeT_24, bytesT_24, fieldT_24_0, placesT_24, zeroT_24, aggT_22, sizeT_22, bytesT_22, und_22, elemT_22, isSliceT_22, zero1_22, zeroT_22, aggT_9, sizeT_9, bytesT_9, und_9, zero1_9, zeroT_9, aggT_3, sizeT_3, bytesT_3, und_3, zero1_3, zeroT_3, h0, hl, Int.toNat_natCast, hk, dcD_eq y, hp]
        (refine (r_inLoop_some ?_).trans h; kernel_rfl)) (by
      unfold H37a
      simp only [tbC, dV, iV, sV, E37, O57]
      (rw [show (It.code L37a) = It.code (sub B37 [1, 0, 1, 0, 0]) from rfl]; simp only [B37, K37a, sub, Option.getD_some, Go.Proofs.Tryz.f37, ↓reduceIte, Nat.one_ne_zero])
      simp only [zS, nilEq, wantedA, opA, eff, boxA, cells, ev, gt, pt, putO, updO, setO, okC, loadA, cutC, fieldAddrA, fieldA, indexAddrA, indexA, builtinA, callOpA, callV, target, ptrV, lenS, binA, intOp, strOp, unA, num, lk, over, allocA, pickA, buildA, fillA, convertA, extractA, ofComp, nilCheckA, makeFuncA, ptrs, ofValue, cellB, Nat.reduceAdd, Nat.reduceSub, Nat.reduceMul, Nat.reduceLT, Nat.reduceLeDiff, Nat.reduceGT, ↓reduceIte, Nat.reduceEqDiff, Nat.reduceBEq, reduceCtorEq, Int.reduceBEq, Int.reduceBNe, Int.reduceLT, Int.reduceLE, Int.reduceGT, Int.reduceGE, aggT_24, sizeT_24, bytesT_24, fieldT_24_0, placesT_24, zeroT_24, aggT_22, sizeT_22, bytesT_22, und_22, elemT_22, isSliceT_22, zero1_22, zeroT_22, aggT_3, sizeT_3, bytesT_3, und_3, zero1_3, zeroT_3, lenA_td, Int.lt_irrefl]
      (refine Eq.trans ?_ rfl; kernel_rfl))
  rw [this]
  unfold find idxI
  cases x.ds.findIdx? (isNm s) <;> rfl
def E69 (x : Tb) (k : Int) : Env := [(0, dV x.d), (1, .c (.fn 70 [] [0])), (7, iV x.ds.length), (8, iV k)]
def O69 (s : ByteArray) : List O := [.box [.d (.v (.string s))]]
theorem clo70 (hx : ext 70 = none) (y : Dc) (s : ByteArray) : run Go.Proofs.Tryz.prog ext (.call 70 [dcV y, .c (.ptr 0 0)] (O69 s)) = some (.ret [bV (isNm s y)] (O69 s)) := by
  (rw [run_eq]; simp only [stepA, hx, Go.Proofs.Tryz.func70, Go.Proofs.Tryz.f70, show retF 70 = false from rfl]; simp only [List.length_cons, List.length_nil, Nat.reduceAdd, Nat.reduceLeDiff, Nat.zero_le, ↓reduceIte, List.zipIdx_cons, List.zipIdx_nil, List.map_cons, List.map_nil])
  simp only [dcV, dcC, bV, O69, isNm]
  simp only [zS, nilEq, wantedA, opA, eff, boxA, cells, ev, gt, pt, putO, updO, setO, okC, loadA, cutC, fieldAddrA, fieldA, indexAddrA, indexA, builtinA, callOpA, callV, target, ptrV, lenS, binA, intOp, strOp, unA, num, lk, over, allocA, pickA, buildA, fillA, convertA, extractA, ofComp, nilCheckA, makeFuncA, ptrs, ofValue, cellB, Nat.reduceAdd, Nat.reduceSub, Nat.reduceMul, Nat.reduceLT, Nat.reduceLeDiff, Nat.reduceGT, ↓reduceIte, Nat.reduceEqDiff, Nat.reduceBEq, reduceCtorEq, Int.reduceBEq, Int.reduceBNe, Int.reduceLT, Int.reduceLE, Int.reduceGT, Int.reduceGE, aggT_39, sizeT_39, bytesT_39, fieldT_39_0, fieldT_39_1, fieldT_39_2, fieldT_39_3, fieldT_39_4, fieldT_39_5, fieldT_39_6, fieldT_39_7, fieldT_39_8, placesT_39, zeroT_39, aggT_9, sizeT_9, bytesT_9, und_9, zero1_9, zeroT_9]
  (refine Eq.trans ?_ rfl; kernel_rfl)
theorem idx69 (hx : ext 69 = none) (h70 : ext 70 = none) (x : Tb) (s : ByteArray) (hs : x.ds.length < 2 ^ 50) : run Go.Proofs.Tryz.prog ext (.call 69 [dV x.d, .c (.fn 70 [] [0])] (O69 s)) = some (.ret [iV (find x s)] (O69 s)) := by
  have he : ∀ out, H69a ext 1 (E69 x 0) (O69 s) = out → run Go.Proofs.Tryz.prog ext (.call 69 [dV x.d, .c (.fn 70 [] [0])] (O69 s)) = out := by
    intro out h
    unfold H69a at h
    (rw [run_eq]; simp only [stepA, hx, Go.Proofs.Tryz.func69, Go.Proofs.Tryz.f69, show retF 69 = false from rfl]; simp only [List.length_cons, List.length_nil, Nat.reduceAdd, Nat.reduceLeDiff, Nat.zero_le, ↓reduceIte, List.zipIdx_cons, List.zipIdx_nil, List.map_cons, List.map_nil])
    simp only [dV, iV, E69, O69] at h ⊢
    simp only [zS, nilEq, wantedA, opA, eff, boxA, cells, ev, gt, pt, putO, updO, setO, okC, loadA, cutC, fieldAddrA, fieldA, indexAddrA, indexA, builtinA, callOpA, callV, target, ptrV, lenS, binA, intOp, strOp, unA, num, lk, over, allocA, pickA, buildA, fillA, convertA, extractA, ofComp, nilCheckA, makeFuncA, ptrs, ofValue, cellB, Nat.reduceAdd, Nat.reduceSub, Nat.reduceMul, Nat.reduceLT, Nat.reduceLeDiff, Nat.reduceGT, ↓reduceIte, Nat.reduceEqDiff, Nat.reduceBEq, reduceCtorEq, Int.reduceBEq, Int.reduceBNe, Int.reduceLT, Int.reduceLE, Int.reduceGT, Int.reduceGE, aggT_22, sizeT_22, bytesT_22, und_22, elemT_22, isSliceT_22, zero1_22, zeroT_22, aggT_3, sizeT_3, bytesT_3, und_3, zero1_3, zeroT_3, lenA_td]
    (refine (r_inLoop_some ?_).trans h; kernel_rfl)
  refine he _ ?_
  have := loop_find x.ds (fun k => H69a ext 1 (E69 x k) (O69 s)) (isNm s) (fun k => some (.ret [iV k] (O69 s))) (some (.ret [iV (-1)] (O69 s))) (by omega) (fun k y hk hl => by
      have h0 : (0 : Int) ≤ k := by omega
      have hr := clo70 ext h70 y s
      have e := callA_of (rec := run Go.Proofs.Tryz.prog ext) (look := lk (O69 s)) (slot := 1) (f := 70) (args := [dcV y, .c (.ptr 0 0)]) (ids := [0]) (bor := []) (e := ⟨.val (bV (isNm s y)), [(0, .box [.d (.v (.string s))])], [0]⟩) (by kernel_rfl) hr (by kernel_rfl)
      unfold H69a
      refine ⟨fun hp => ?_, fun hp out h => ?_⟩
      · rw [hp] at e
        simp only [dV, iV, bV, dcV, dcC, E69, O69, dsD_lt h0 hl] at e ⊢
        (rw [show (It.code L69a) = It.code (sub B69 [1, 0, 1, 0, 0]) from rfl]; simp only [B69, K69a, sub, Option.getD_some, Go.Proofs.Tryz.f69, ↓reduceIte, Nat.one_ne_zero])
        simp only [zS, nilEq, wantedA, opA, eff, boxA, cells, ev, gt, pt, putO, updO, setO, okC, loadA, cutC, fieldAddrA, fieldA, indexAddrA, indexA, builtinA, callOpA, callV, target, ptrV, lenS, binA, intOp, strOp, unA, num, lk, over, allocA, pickA, buildA, fillA, convertA, extractA, ofComp, nilCheckA, makeFuncA, ptrs, ofValue, cellB, Nat.reduceAdd, Nat.reduceSub, Nat.reduceMul, Nat.reduceLT, Nat.reduceLeDiff, Nat.reduceGT, ↓reduceIte, Nat.reduceEqDiff, Nat.reduceBEq, reduceCtorEq, Int.reduceBEq, Int.reduceBNe, Int.reduceLT, Int.reduceLE, Int.reduceGT, Int.reduceGE, aggT_39, sizeT_39, bytesT_39, fieldT_39_0, fieldT_39_1, fieldT_39_2, fieldT_39_3, fieldT_39_4, fieldT_39_5, fieldT_39_6, fieldT_39_7, fieldT_39_8, placesT_39, zeroT_39, aggT_22, sizeT_22, bytesT_22, und_22, elemT_22, isSliceT_22, zero1_22, zeroT_22, aggT_3, sizeT_3, bytesT_3, und_3, zero1_3, zeroT_3, h0, hl, Int.toNat_natCast, hk, dcD_eq y, e]
        (refine Eq.trans ?_ rfl; kernel_rfl)
      · rw [hp] at e
        simp only [dV, iV, bV, dcV, dcC, E69, O69, dsD_lt h0 hl] at e h ⊢
        (rw [show (It.code L69a) = It.code (sub B69 [1, 0, 1, 0, 0]) from rfl]; simp only [B69, K69a, sub, Option.getD_some, Go.Proofs.Tryz.f69, ↓reduceIte, Nat.one_ne_zero])
        simp only [zS, nilEq, wantedA, opA, eff, boxA, cells, ev, gt, pt, putO, updO, setO, okC, loadA, cutC, fieldAddrA, fieldA, indexAddrA, indexA, builtinA, callOpA, callV, target, ptrV, lenS, binA, intOp, strOp, unA, num, lk, over, allocA, pickA, buildA, fillA, convertA, extractA, ofComp, nilCheckA, makeFuncA, ptrs, ofValue, cellB, Nat.reduceAdd, Nat.reduceSub, Nat.reduceMul, Nat.reduceLT, Nat.reduceLeDiff, Nat.reduceGT, ↓reduceIte, Nat.reduceEqDiff, Nat.reduceBEq, reduceCtorEq, Int.reduceBEq, Int.reduceBNe, Int.reduceLT, Int.reduceLE, Int.reduceGT, Int.reduceGE, aggT_39, sizeT_39, bytesT_39, fieldT_39_0, fieldT_39_1, fieldT_39_2, fieldT_39_3, fieldT_39_4, fieldT_39_5, fieldT_39_6, fieldT_39_7, fieldT_39_8, placesT_39, zeroT_39, aggT_22, sizeT_22, bytesT_22, und_22, elemT_22, isSliceT_22, zero1_22, zeroT_22, aggT_3, sizeT_3, bytesT_3, und_3, zero1_3, zeroT_3, h0, hl, Int.toNat_natCast, hk, dcD_eq y, e]
        (refine (r_inLoop_some ?_).trans h; kernel_rfl)) (by
      unfold H69a
      simp only [dV, iV, E69, O69]
      (rw [show (It.code L69a) = It.code (sub B69 [1, 0, 1, 0, 0]) from rfl]; simp only [B69, K69a, sub, Option.getD_some, Go.Proofs.Tryz.f69, ↓reduceIte, Nat.one_ne_zero])
      simp only [zS, nilEq, wantedA, opA, eff, boxA, cells, ev, gt, pt, putO, updO, setO, okC, loadA, cutC, fieldAddrA, fieldA, indexAddrA, indexA, builtinA, callOpA, callV, target, ptrV, lenS, binA, intOp, strOp, unA, num, lk, over, allocA, pickA, buildA, fillA, convertA, extractA, ofComp, nilCheckA, makeFuncA, ptrs, ofValue, cellB, Nat.reduceAdd, Nat.reduceSub, Nat.reduceMul, Nat.reduceLT, Nat.reduceLeDiff, Nat.reduceGT, ↓reduceIte, Nat.reduceEqDiff, Nat.reduceBEq, reduceCtorEq, Int.reduceBEq, Int.reduceBNe, Int.reduceLT, Int.reduceLE, Int.reduceGT, Int.reduceGE, aggT_22, sizeT_22, bytesT_22, und_22, elemT_22, isSliceT_22, zero1_22, zeroT_22, aggT_3, sizeT_3, bytesT_3, und_3, zero1_3, zeroT_3, Int.lt_irrefl]
      (refine Eq.trans ?_ rfl; kernel_rfl))
  rw [this]
  unfold find idxI
  cases x.ds.findIdx? (isNm s) <;> rfl
theorem find22 (hx : ext 22 = none) (h69 : ext 69 = none) (h70 : ext 70 = none) (x : Tb) (s : ByteArray) (hs : x.ds.length < 2 ^ 50) : run Go.Proofs.Tryz.prog ext (.call 22 [tbV x, sV s] []) = some (.ret [iV (find x s)] []) := by
  have hr := idx69 ext h69 h70 x s hs
  have e := callA_of (rec := run Go.Proofs.Tryz.prog ext) (look := lk [.box (tbC x), .box [.d (.v (.string s))]]) (slot := 2) (f := 69) (args := [dV x.d, .c (.fn 70 [] [1])]) (ids := [1]) (bor := []) (e := ⟨.val (iV (find x s)), [(1, .box [.d (.v (.string s))])], [1]⟩) (by kernel_rfl) hr (by kernel_rfl)
  (rw [run_eq]; simp only [stepA, hx, Go.Proofs.Tryz.func22, Go.Proofs.Tryz.f22, show retF 22 = false from rfl]; simp only [List.length_cons, List.length_nil, Nat.reduceAdd, Nat.reduceLeDiff, Nat.zero_le, ↓reduceIte, List.zipIdx_cons, List.zipIdx_nil, List.map_cons, List.map_nil])
  simp only [tbV, tbC, dV, iV, sV] at e ⊢
  simp only [zS, nilEq, wantedA, opA, eff, boxA, cells, ev, gt, pt, putO, updO, setO, okC, loadA, cutC, fieldAddrA, fieldA, indexAddrA, indexA, builtinA, callOpA, callV, target, ptrV, lenS, binA, intOp, strOp, unA, num, lk, over, allocA, pickA, buildA, fillA, convertA, extractA, ofComp, nilCheckA, makeFuncA, ptrs, ofValue, cellB, Nat.reduceAdd, Nat.reduceSub, Nat.reduceMul, Nat.reduceLT, Nat.reduceLeDiff, Nat.reduceGT, ↓reduceIte, Nat.reduceEqDiff, Nat.reduceBEq, reduceCtorEq, Int.reduceBEq, Int.reduceBNe, Int.reduceLT, Int.reduceLE, Int.reduceGT, Int.reduceGE, aggT_24, sizeT_24, bytesT_24, fieldT_24_0, placesT_24, zeroT_24, aggT_22, sizeT_22, bytesT_22, und_22, elemT_22, isSliceT_22, zero1_22, zeroT_22, aggT_9, sizeT_9, bytesT_9, und_9, zero1_9, zeroT_9, aggT_3, sizeT_3, bytesT_3, und_3, zero1_3, zeroT_3, e]
  (refine Eq.trans ?_ rfl; kernel_rfl)
end Go.Proofs.YteenjodhmppgjaaGreatDoor.Am
end
section
/- Equality of levels and terms, field by field. -/
namespace Go.Proofs.YteenjodhmppgjaaGreatDoor.Am
open Go
variable (ext : Ext)
set_option maxHeartbeats 8000000
noncomputable def B43 : Code := (Go.Proofs.Tryz.f43.body.getD .skip)
noncomputable def L43a : Code := sub B43 [1, 1, 0, 1, 0, 0]
noncomputable def K43a : List It := [.inBlock 0, .code (sub B43 [1, 1, 1])]
noncomputable def H43a (ext : Ext) (m : Nat) (env : Env) (loc : List O) : Option Out := run Go.Proofs.Tryz.prog ext (.k ⟨38, m, [.tmp 4], false⟩ (.code L43a :: .inLoop L43a :: K43a) env loc)
noncomputable def B82 : Code := (Go.Proofs.Tryz.f82.body.getD .skip)
noncomputable def L82a : Code := sub B82 [1, 1, 0, 1, 0, 0]
noncomputable def K82a : List It := [.inBlock 0, .code (sub B82 [1, 1, 1])]
noncomputable def H82a (ext : Ext) (m : Nat) (env : Env) (loc : List O) : Option Out := run Go.Proofs.Tryz.prog ext (.k ⟨27, m, [.tmp 4], false⟩ (.code L82a :: .inLoop L82a :: K82a) env loc)
noncomputable def B52 : Code := (Go.Proofs.Tryz.f52.body.getD .skip)
noncomputable def L52a : Code := sub B52 [1, 1, 0, 1, 0, 0]
noncomputable def K52a : List It := [.inBlock 0, .code (sub B52 [1, 1, 1])]
noncomputable def H52a (ext : Ext) (m : Nat) (env : Env) (loc : List O) : Option Out := run Go.Proofs.Tryz.prog ext (.k ⟨27, m, [.tmp 4], false⟩ (.code L52a :: .inLoop L52a :: K52a) env loc)
def allR {α β : Type} (R : α → β → Bool) : List α → List β → Bool
  | [], [] => true
  | x :: l, y :: m => R x y && allR R l m
  | _, _ => false
def pairP {α β : Type} (R : α → β → Bool) (m : List β) (k : Nat) (x : α) : Bool := match m[k]? with | some y => !R x y | none => true
theorem pairs_eq {α β : Type} (R : α → β → Bool) : ∀ (l : List α) (pre m : List β), l.length = m.length → (idxFrom (pairP R (pre ++ m)) pre.length l).isNone = allR R l m
  | [], pre, m, h => by
    have : m = [] := List.eq_nil_of_length_eq_zero (by simpa using h.symm)
    subst this; rfl
  | x :: l, pre, [], h => by simp at h
  | x :: l, pre, y :: m, h => by
    have e : pairP R (pre ++ y :: m) pre.length x = !R x y := by
      unfold pairP
      rw [List.getElem?_append_right (by omega), Nat.sub_self]; rfl
    rw [idxFrom, e]
    have ih := pairs_eq R l (pre ++ [y]) m (by simpa using h)
    rw [List.append_assoc, List.singleton_append, List.length_append] at ih
    cases hR : R x y with
    | true => simp only [Bool.not_true, Bool.false_eq_true, if_false, allR, hR, Bool.true_and]; exact ih
    | false => simp [allR, hR]
theorem allR_len {α β : Type} {R : α → β → Bool} : ∀ {l : List α} {m : List β}, allR R l m = true → l.length = m.length
  | [], [], _ => rfl
  | _ :: l, _ :: m, h => by simp only [allR, Bool.and_eq_true] at h; simp [allR_len h.2]
  | [], _ :: _, h => by cases h
  | _ :: _, [], h => by cases h
theorem pairs_res {α β : Type} (R : α → β → Bool) (l : List α) (m : List β) (h : l.length = m.length) : (match idxFrom (pairP R m) 0 l with | some _ => some (Out.ret [bV false] []) | none => some (.ret [bV true] [])) = some (.ret [bV (allR R l m)] []) := by
  have := pairs_eq R l [] m h
  simp only [List.nil_append, List.length_nil] at this
  rw [← this]
  cases idxFrom (pairP R m) 0 l <;> rfl
def eqLV (x y : LV) : Bool := (x.v == y.v) && (x.p == y.p)
def eqLev (x y : Lev) : Bool := (x.c == y.c) && allR eqLV x.vs y.vs
theorem plain110 : plainEq Go.Proofs.Tryz.prog 110 = true := by kernel_rfl
theorem struct110 (op : BinOp) (a b c d : Int) : structA Go.Proofs.Tryz.prog op 110 [.d (.v (.int .i64 a)), .d (.v (.int .i64 b))] [.d (.v (.int .i64 c)), .d (.v (.int .i64 d))] = nilEq op ((a == c) && (b == d)) := by
  unfold structA
  rw [if_pos plain110, Go.Proofs.Tryz.underlying110]
  simp [eqFs, und_3]
/-! ### levels -/
def E43 (k : Int) : Env := [(2, .c (.ptr 0 0)), (3, .c (.ptr 1 0)), (5, iV k)]
def O43 (x y : Lev) : List O := [.box (levC x), .box (levC y)]
theorem eq43 (hx : ext 43 = none) (x y : Lev) (hs : x.vs.length < 2 ^ 50) : run Go.Proofs.Tryz.prog ext (.call 43 [levV x, levV y] []) = some (.ret [bV (eqLev x y)] []) := by
  unfold eqLev
  by_cases h1 : x.c = y.c
  case neg =>
    have e : (x.c == y.c) = false := by simpa using h1
    rw [e, Bool.false_and]
    (rw [run_eq]; simp only [stepA, hx, Go.Proofs.Tryz.func43, Go.Proofs.Tryz.f43, show retF 43 = false from rfl]; simp only [List.length_cons, List.length_nil, Nat.reduceAdd, Nat.reduceLeDiff, Nat.zero_le, ↓reduceIte, List.zipIdx_cons, List.zipIdx_nil, List.map_cons, List.map_nil])
    simp only [levV, levC, bV]
    simp only [zS, nilEq, wantedA, opA, eff, boxA, cells, ev, gt, pt, putO, updO, setO, okC, loadA, cutC, fieldAddrA, fieldA, indexAddrA, indexA, builtinA, callOpA, callV, target, ptrV, lenS, binA, intOp, strOp, unA, num, lk, over, allocA, pickA, buildA, fillA, convertA, extractA, ofComp, nilCheckA, makeFuncA, ptrs, ofValue, cellB, Nat.reduceAdd, Nat.reduceSub, Nat.reduceMul, Nat.reduceLT, Nat.reduceLeDiff, Nat.reduceGT, ↓reduceIte, Nat.reduceEqDiff, Nat.reduceBEq, reduceCtorEq, Int.reduceBEq, Int.reduceBNe, Int.reduceLT, Int.reduceLE, Int.reduceGT, Int.reduceGE, aggT_36, sizeT_36, bytesT_36, fieldT_36_0, fieldT_36_1, placesT_36, zeroT_36, aggT_34, sizeT_34, bytesT_34, und_34, elemT_34, isSliceT_34, zero1_34, zeroT_34, aggT_3, sizeT_3, bytesT_3, und_3, zero1_3, zeroT_3, lenA_vd, h1]
    (refine Eq.trans ?_ rfl; kernel_rfl)
  by_cases h2 : (x.vs.length : Int) = y.vs.length
  case neg =>
    have e : allR eqLV x.vs y.vs = false := by
      cases hh : allR eqLV x.vs y.vs with
      | false => rfl
      | true => have := allR_len hh; omega
    rw [e, Bool.and_false]
    (rw [run_eq]; simp only [stepA, hx, Go.Proofs.Tryz.func43, Go.Proofs.Tryz.f43, show retF 43 = false from rfl]; simp only [List.length_cons, List.length_nil, Nat.reduceAdd, Nat.reduceLeDiff, Nat.zero_le, ↓reduceIte, List.zipIdx_cons, List.zipIdx_nil, List.map_cons, List.map_nil])
    simp only [levV, levC, bV]
    simp only [zS, nilEq, wantedA, opA, eff, boxA, cells, ev, gt, pt, putO, updO, setO, okC, loadA, cutC, fieldAddrA, fieldA, indexAddrA, indexA, builtinA, callOpA, callV, target, ptrV, lenS, binA, intOp, strOp, unA, num, lk, over, allocA, pickA, buildA, fillA, convertA, extractA, ofComp, nilCheckA, makeFuncA, ptrs, ofValue, cellB, Nat.reduceAdd, Nat.reduceSub, Nat.reduceMul, Nat.reduceLT, Nat.reduceLeDiff, Nat.reduceGT, ↓reduceIte, Nat.reduceEqDiff, Nat.reduceBEq, reduceCtorEq, Int.reduceBEq, Int.reduceBNe, Int.reduceLT, Int.reduceLE, Int.reduceGT, Int.reduceGE, aggT_36, sizeT_36, bytesT_36, fieldT_36_0, fieldT_36_1, placesT_36, zeroT_36, aggT_34, sizeT_34, bytesT_34, und_34, elemT_34, isSliceT_34, zero1_34, zeroT_34, aggT_3, sizeT_3, bytesT_3, und_3, zero1_3, zeroT_3, lenA_vd, h1, h2]
    (refine Eq.trans ?_ rfl; kernel_rfl)
  have e : (x.c == y.c) = true := by simpa using h1
  rw [e, Bool.true_and]
  have he : ∀ out, H43a ext 0 (E43 0) (O43 x y) = out → run Go.Proofs.Tryz.prog ext (.call 43 [levV x, levV y] []) = out := by
    intro out h
    unfold H43a at h
    (rw [run_eq]; simp only [stepA, hx, Go.Proofs.Tryz.func43, Go.Proofs.Tryz.f43, show retF 43 = false from rfl]; simp only [List.length_cons, List.length_nil, Nat.reduceAdd, Nat.reduceLeDiff, Nat.zero_le, ↓reduceIte, List.zipIdx_cons, List.zipIdx_nil, List.map_cons, List.map_nil])
    simp only [levV, levC, iV, E43, O43, h1] at h ⊢
    simp only [zS, nilEq, wantedA, opA, eff, boxA, cells, ev, gt, pt, putO, updO, setO, okC, loadA, cutC, fieldAddrA, fieldA, indexAddrA, indexA, builtinA, callOpA, callV, target, ptrV, lenS, binA, intOp, strOp, unA, num, lk, over, allocA, pickA, buildA, fillA, convertA, extractA, ofComp, nilCheckA, makeFuncA, ptrs, ofValue, cellB, Nat.reduceAdd, Nat.reduceSub, Nat.reduceMul, Nat.reduceLT, Nat.reduceLeDiff, Nat.reduceGT, ↓reduceIte, Nat.reduceEqDiff, Nat.reduceBEq, reduceCtorEq, Int.reduceBEq, Int.reduceBNe, Int.reduceLT, Int.reduceLE, Int.reduceGT, Int.reduceGE, aggT_36, sizeT_36, bytesT_36, fieldT_36_0, fieldT_36_1, placesT_36, zeroT_36, aggT_34, sizeT_34, bytesT_34, und_34, elemT_34, isSliceT_34, zero1_34, zeroT_34, aggT_3, sizeT_3, bytesT_3, und_3, zero1_3, zeroT_3, lenA_vd, h2]
    (refine (r_inLoop_some ?_).trans h; kernel_rfl)
  refine he _ ?_
  have := loop_findK x.vs (fun k => H43a ext 0 (E43 k) (O43 x y)) (pairP eqLV y.vs) (fun _ => some (.ret [bV false] [])) (some (.ret [bV true] [])) (by omega) (fun k a hk hl => by
      have h0 : (0 : Int) ≤ k := by omega
      have hl2 : (k : Int) < y.vs.length := by omega
      have hlt : k < y.vs.length := by omega
      have hb : y.vs[k]? = some y.vs[k] := by simp [hlt]
      generalize y.vs[k] = b at hb
      have hd : x.d = .s 2 (x.vs.map lvD) := listD_of_lt h0 (by simpa using hl)
      have hd2 : y.d = .s 2 (y.vs.map lvD) := listD_of_lt h0 (by simpa using hl2)
      have hpp : pairP eqLV y.vs k a = !eqLV a b := by unfold pairP; rw [hb]
      unfold H43a
      rw [hpp]
      refine ⟨fun hp => ?_, fun hp out h => ?_⟩
      · have hp' : eqLV a b = false := by simpa using hp
        unfold eqLV at hp'
        simp only [levC, iV, bV, E43, O43, hd, hd2]
        (rw [show (It.code L43a) = It.code (sub B43 [1, 1, 0, 1, 0, 0]) from rfl]; simp only [B43, K43a, sub, Option.getD_some, Go.Proofs.Tryz.f43, ↓reduceIte, Nat.one_ne_zero])
        simp only [zS, nilEq, wantedA, opA, eff, boxA, cells, ev, gt, pt, putO, updO, setO, okC, loadA, cutC, fieldAddrA, fieldA, indexAddrA, indexA, builtinA, callOpA, callV, target, ptrV, lenS, binA, intOp, strOp, unA, num, lk, over, allocA, pickA, buildA, fillA, convertA, extractA, ofComp, nilCheckA, makeFuncA, ptrs, ofValue, cellB, Nat.reduceAdd, Nat.reduceSub, Nat.reduceMul, Nat.reduceLT, Nat.reduceLeDiff, Nat.reduceGT, ↓reduceIte, Nat.reduceEqDiff, Nat.reduceBEq, reduceCtorEq, Int.reduceBEq, Int.reduceBNe, Int.reduceLT, Int.reduceLE, Int.reduceGT, Int.reduceGE, aggT_36, sizeT_36, bytesT_36, fieldT_36_0, fieldT_36_1, placesT_36, zeroT_36, aggT_34, sizeT_34, bytesT_34, und_34, elemT_34, isSliceT_34, zero1_34, zeroT_34, aggT_110, sizeT_110, bytesT_110, fieldT_110_0, fieldT_110_1, placesT_110, zeroT_110, aggT_3, sizeT_3, bytesT_3, und_3, zero1_3, zeroT_3, drawA, holes_succ, holes_zero, Array.size, List.length, h0, hl, hl2, Int.toNat_natCast, hk, hb, lvD, struct110, hp']
        rw [afterDraw_some _ _ _ _ (by kernel_rfl)]
        simp only [zS, nilEq, wantedA, opA, eff, boxA, cells, ev, gt, pt, putO, updO, setO, okC, loadA, cutC, fieldAddrA, fieldA, indexAddrA, indexA, builtinA, callOpA, callV, target, ptrV, lenS, binA, intOp, strOp, unA, num, lk, over, allocA, pickA, buildA, fillA, convertA, extractA, ofComp, nilCheckA, makeFuncA, ptrs, ofValue, cellB, Nat.reduceAdd, Nat.reduceSub, Nat.reduceMul, Nat.reduceLT, Nat.reduceLeDiff, Nat.reduceGT, ↓reduceIte, Nat.reduceEqDiff, Nat.reduceBEq, reduceCtorEq, Int.reduceBEq, Int.reduceBNe, Int.reduceLT, Int.reduceLE, Int.reduceGT, Int.reduceGE]
        (refine Eq.trans ?_ rfl; kernel_rfl)
      · have hp' : eqLV a b = true := by simpa using hp
        unfold eqLV at hp'
        simp only [levC, iV, bV, E43, O43, hd, hd2] at h ⊢
        (rw [show (It.code L43a) = It.code (sub B43 [1, 1, 0, 1, 0, 0]) from rfl]; simp only [B43, K43a, sub, Option.getD_some, Go.Proofs.Tryz.f43, ↓reduceIte, Nat.one_ne_zero])
        simp only [zS, nilEq, wantedA, opA, eff, boxA, cells, ev, gt, pt, putO, updO, setO, okC, loadA, cutC, fieldAddrA, fieldA, indexAddrA, indexA, builtinA, callOpA, callV, target, ptrV, lenS, binA, intOp, strOp, unA, num, lk, over, allocA, pickA, buildA, fillA, convertA, extractA, ofComp, nilCheckA, makeFuncA, ptrs, ofValue, cellB, Nat.reduceAdd, Nat.reduceSub, Nat.reduceMul, Nat.reduceLT, Nat.reduceLeDiff, Nat.reduceGT, ↓reduceIte, Nat.reduceEqDiff, Nat.reduceBEq, reduceCtorEq, Int.reduceBEq, Int.reduceBNe, Int.reduceLT, Int.reduceLE, Int.reduceGT, Int.reduceGE, aggT_36, sizeT_36, bytesT_36, fieldT_36_0, fieldT_36_1, placesT_36, zeroT_36, aggT_34, sizeT_34, bytesT_34, und_34, elemT_34, isSliceT_34, zero1_34, zeroT_34, aggT_110, sizeT_110, bytesT_110, fieldT_110_0, fieldT_110_1, placesT_110, zeroT_110, aggT_3, sizeT_3, bytesT_3, und_3, zero1_3, zeroT_3, drawA, holes_succ, holes_zero, Array.size, List.length, h0, hl, hl2, Int.toNat_natCast, hk, hb, lvD, struct110, hp']
        rw [afterDraw_some _ _ _ _ (by kernel_rfl)]
        simp only [zS, nilEq, wantedA, opA, eff, boxA, cells, ev, gt, pt, putO, updO, setO, okC, loadA, cutC, fieldAddrA, fieldA, indexAddrA, indexA, builtinA, callOpA, callV, target, ptrV, lenS, binA, intOp, strOp, unA, num, lk, over, allocA, pickA, buildA, fillA, convertA, extractA, ofComp, nilCheckA, makeFuncA, ptrs, ofValue, cellB, Nat.reduceAdd, Nat.reduceSub, Nat.reduceMul, Nat.reduceLT, Nat.reduceLeDiff, Nat.reduceGT, ↓reduceIte, Nat.reduceEqDiff, Nat.reduceBEq, reduceCtorEq, Int.reduceBEq, Int.reduceBNe, Int.reduceLT, Int.reduceLE, Int.reduceGT, Int.reduceGE]
        (refine (r_inLoop_some ?_).trans h; kernel_rfl)) (by
      unfold H43a
      simp only [levC, iV, bV, E43, O43]
      (rw [show (It.code L43a) = It.code (sub B43 [1, 1, 0, 1, 0, 0]) from rfl]; simp only [B43, K43a, sub, Option.getD_some, Go.Proofs.Tryz.f43, ↓reduceIte, Nat.one_ne_zero])
      simp only [zS, nilEq, wantedA, opA, eff, boxA, cells, ev, gt, pt, putO, updO, setO, okC, loadA, cutC, fieldAddrA, fieldA, indexAddrA, indexA, builtinA, callOpA, callV, target, ptrV, lenS, binA, intOp, strOp, unA, num, lk, over, allocA, pickA, buildA, fillA, convertA, extractA, ofComp, nilCheckA, makeFuncA, ptrs, ofValue, cellB, Nat.reduceAdd, Nat.reduceSub, Nat.reduceMul, Nat.reduceLT, Nat.reduceLeDiff, Nat.reduceGT, ↓reduceIte, Nat.reduceEqDiff, Nat.reduceBEq, reduceCtorEq, Int.reduceBEq, Int.reduceBNe, Int.reduceLT, Int.reduceLE, Int.reduceGT, Int.reduceGE, aggT_36, sizeT_36, bytesT_36, fieldT_36_0, fieldT_36_1, placesT_36, zeroT_36, aggT_34, sizeT_34, bytesT_34, und_34, elemT_34, isSliceT_34, zero1_34, zeroT_34, aggT_3, sizeT_3, bytesT_3, und_3, zero1_3, zeroT_3, lenA_vd, Int.lt_irrefl]
      (refine Eq.trans ?_ rfl; kernel_rfl))
  rw [this]
  exact pairs_res eqLV x.vs y.vs (by omega)
def E82 (a b : D) (k : Int) : Env := [(0, dV a), (1, dV b), (5, iV k)]
theorem eq82 (hx : ext 82 = none) (h43 : ext 43 = none) (z z' : Bool) (l m : List Lev) (hs : l.length < 2 ^ 50) (hs2 : ∀ x ∈ l, x.vs.length < 2 ^ 50) : run Go.Proofs.Tryz.prog ext (.call 82 [dV (listD z 2 (l.map levD)), dV (listD z' 2 (m.map levD))] []) = some (.ret [bV (allR eqLev l m)] []) := by
  by_cases h2 : (l.length : Int) = m.length
  case neg =>
    have e : allR eqLev l m = false := by
      cases hh : allR eqLev l m with
      | false => rfl
      | true => have := allR_len hh; omega
    rw [e]
    (rw [run_eq]; simp only [stepA, hx, Go.Proofs.Tryz.func82, Go.Proofs.Tryz.f82, show retF 82 = false from rfl]; simp only [List.length_cons, List.length_nil, Nat.reduceAdd, Nat.reduceLeDiff, Nat.zero_le, ↓reduceIte, List.zipIdx_cons, List.zipIdx_nil, List.map_cons, List.map_nil])
    simp only [dV, bV]
    simp only [zS, nilEq, wantedA, opA, eff, boxA, cells, ev, gt, pt, putO, updO, setO, okC, loadA, cutC, fieldAddrA, fieldA, indexAddrA, indexA, builtinA, callOpA, callV, target, ptrV, lenS, binA, intOp, strOp, unA, num, lk, over, allocA, pickA, buildA, fillA, convertA, extractA, ofComp, nilCheckA, makeFuncA, ptrs, ofValue, cellB, Nat.reduceAdd, Nat.reduceSub, Nat.reduceMul, Nat.reduceLT, Nat.reduceLeDiff, Nat.reduceGT, ↓reduceIte, Nat.reduceEqDiff, Nat.reduceBEq, reduceCtorEq, Int.reduceBEq, Int.reduceBNe, Int.reduceLT, Int.reduceLE, Int.reduceGT, Int.reduceGE, aggT_30, sizeT_30, bytesT_30, und_30, elemT_30, isSliceT_30, zero1_30, zeroT_30, aggT_3, sizeT_3, bytesT_3, und_3, zero1_3, zeroT_3, h2]
    (refine Eq.trans ?_ rfl; kernel_rfl)
  have he : ∀ out, H82a ext 0 (E82 (listD z 2 (l.map levD)) (listD z' 2 (m.map levD)) 0) [] = out → run Go.Proofs.Tryz.prog ext (.call 82 [dV (listD z 2 (l.map levD)), dV (listD z' 2 (m.map levD))] []) = out := by
    intro out h
    unfold H82a at h
    (rw [run_eq]; simp only [stepA, hx, Go.Proofs.Tryz.func82, Go.Proofs.Tryz.f82, show retF 82 = false from rfl]; simp only [List.length_cons, List.length_nil, Nat.reduceAdd, Nat.reduceLeDiff, Nat.zero_le, ↓reduceIte, List.zipIdx_cons, List.zipIdx_nil, List.map_cons, List.map_nil])
    simp only [dV, iV, E82] at h ⊢
    simp only [zS, nilEq, wantedA, opA, eff, boxA, cells, ev, gt, pt, putO, updO, setO, okC, loadA, cutC, fieldAddrA, fieldA, indexAddrA, indexA, builtinA, callOpA, callV, target, ptrV, lenS, binA, intOp, strOp, unA, num, lk, over, allocA, pickA, buildA, fillA, convertA, extractA, ofComp, nilCheckA, makeFuncA, ptrs, ofValue, cellB, Nat.reduceAdd, Nat.reduceSub, Nat.reduceMul, Nat.reduceLT, Nat.reduceLeDiff, Nat.reduceGT, ↓reduceIte, Nat.reduceEqDiff, Nat.reduceBEq, reduceCtorEq, Int.reduceBEq, Int.reduceBNe, Int.reduceLT, Int.reduceLE, Int.reduceGT, Int.reduceGE, aggT_30, sizeT_30, bytesT_30, und_30, elemT_30, isSliceT_30, zero1_30, zeroT_30, aggT_3, sizeT_3, bytesT_3, und_3, zero1_3, zeroT_3, h2]
    (refine (r_inLoop_some ?_).trans h; kernel_rfl)
  refine he _ ?_
  have := loop_findK l (fun k => H82a ext 0 (E82 (listD z 2 (l.map levD)) (listD z' 2 (m.map levD)) k) []) (pairP eqLev m) (fun _ => some (.ret [bV false] [])) (some (.ret [bV true] [])) (by omega) (fun k a hk hl => by
      have h0 : (0 : Int) ≤ k := by omega
      have hl2 : (k : Int) < m.length := by omega
      have hlt : k < m.length := by omega
      have hb : m[k]? = some m[k] := by simp [hlt]
      generalize m[k] = b at hb
      have hd : listD z 2 (l.map levD) = .s 2 (l.map levD) := listD_of_lt h0 (by simpa using hl)
      have hd2 : listD z' 2 (m.map levD) = .s 2 (m.map levD) := listD_of_lt h0 (by simpa using hl2)
      have hpp : pairP eqLev m k a = !eqLev a b := by unfold pairP; rw [hb]
      have hr := eq43 ext h43 a b (hs2 a (List.mem_of_getElem? hk))
      unfold H82a
      rw [hpp]
      refine ⟨fun hp => ?_, fun hp out h => ?_⟩
      · have hp' : eqLev a b = false := by simpa using hp
        rw [hp'] at hr
        simp only [levV, levC, dV, iV, bV, E82, hd, hd2] at hr ⊢
        (rw [show (It.code L82a) = It.code (sub B82 [1, 1, 0, 1, 0, 0]) from rfl]; simp only [B82, K82a, sub, Option.getD_some, Go.Proofs.Tryz.f82, ↓reduceIte, Nat.one_ne_zero])
        simp only [zS, nilEq, wantedA, opA, eff, boxA, cells, ev, gt, pt, putO, updO, setO, okC, loadA, cutC, fieldAddrA, fieldA, indexAddrA, indexA, builtinA, callOpA, callV, target, ptrV, lenS, binA, intOp, strOp, unA, num, lk, over, allocA, pickA, buildA, fillA, convertA, extractA, ofComp, nilCheckA, makeFuncA, ptrs, ofValue, cellB, Nat.reduceAdd, Nat.reduceSub, Nat.reduceMul, Nat.reduceLT, Nat.reduceLeDiff, Nat.reduceGT, ↓reduceIte, Nat.reduceEqDiff, Nat.reduceBEq, reduceCtorEq, Int.reduceBEq, Int.reduceBNe, Int.reduceLT, Int.reduceLE, Int.reduceGT, Int.reduceGE, aggT_36, sizeT_36, bytesT_36, fieldT_36_0, fieldT_36_1, placesT_36, zeroT_36, aggT_30, sizeT_30, bytesT_30, und_30, elemT_30, isSliceT_30, zero1_30, zeroT_30, aggT_3, sizeT_3, bytesT_3, und_3, zero1_3, zeroT_3, drawA, holes_succ, holes_zero, Array.size, List.length, h0, hl, hl2, Int.toNat_natCast, hk, hb, levD, hr]
        rw [afterDraw_some _ _ _ _ (by kernel_rfl)]
        simp only [zS, nilEq, wantedA, opA, eff, boxA, cells, ev, gt, pt, putO, updO, setO, okC, loadA, cutC, fieldAddrA, fieldA, indexAddrA, indexA, builtinA, callOpA, callV, target, ptrV, lenS, binA, intOp, strOp, unA, num, lk, over, allocA, pickA, buildA, fillA, convertA, extractA, ofComp, nilCheckA, makeFuncA, ptrs, ofValue, cellB, Nat.reduceAdd, Nat.reduceSub, Nat.reduceMul, Nat.reduceLT, Nat.reduceLeDiff, Nat.reduceGT, ↓reduceIte, Nat.reduceEqDiff, Nat.reduceBEq, reduceCtorEq, Int.reduceBEq, Int.reduceBNe, Int.reduceLT, Int.reduceLE, Int.reduceGT, Int.reduceGE]
        (refine Eq.trans ?_ rfl; kernel_rfl)
      · have hp' : eqLev a b = true := by simpa using hp
        rw [hp'] at hr
        simp only [levV, levC, dV, iV, bV, E82, hd, hd2] at hr h ⊢
        (rw [show (It.code L82a) = It.code (sub B82 [1, 1, 0, 1, 0, 0]) from rfl]; simp only [B82, K82a, sub, Option.getD_some, Go.Proofs.Tryz.f82, ↓reduceIte, Nat.one_ne_zero])
        simp only [zS, nilEq, wantedA, opA, eff, boxA, cells, ev, gt, pt, putO, updO, setO, okC, loadA, cutC, fieldAddrA, fieldA, indexAddrA, indexA, builtinA, callOpA, callV, target, ptrV, lenS, binA, intOp, strOp, unA, num, lk, over, allocA, pickA, buildA, fillA, convertA, extractA, ofComp, nilCheckA, makeFuncA, ptrs, ofValue, cellB, Nat.reduceAdd, Nat.reduceSub, Nat.reduceMul, Nat.reduceLT, Nat.reduceLeDiff, Nat.reduceGT, ↓reduceIte, Nat.reduceEqDiff, Nat.reduceBEq, reduceCtorEq, Int.reduceBEq, Int.reduceBNe, Int.reduceLT, Int.reduceLE, Int.reduceGT, Int.reduceGE, aggT_36, sizeT_36, bytesT_36, fieldT_36_0, fieldT_36_1, placesT_36, zeroT_36, aggT_30, sizeT_30, bytesT_30, und_30, elemT_30, isSliceT_30, zero1_30, zeroT_30, aggT_3, sizeT_3, bytesT_3, und_3, zero1_3, zeroT_3, drawA, holes_succ, holes_zero, Array.size, List.length, h0, hl, hl2, Int.toNat_natCast, hk, hb, levD, hr]
        rw [afterDraw_some _ _ _ _ (by kernel_rfl)]
        simp only [zS, nilEq, wantedA, opA, eff, boxA, cells, ev, gt, pt, putO, updO, setO, okC, loadA, cutC, fieldAddrA, fieldA, indexAddrA, indexA, builtinA, callOpA, callV, target, ptrV, lenS, binA, intOp, strOp, unA, num, lk, over, allocA, pickA, buildA, fillA, convertA, extractA, ofComp, nilCheckA, makeFuncA, ptrs, ofValue, cellB, Nat.reduceAdd, Nat.reduceSub, Nat.reduceMul, Nat.reduceLT, Nat.reduceLeDiff, Nat.reduceGT, ↓reduceIte, Nat.reduceEqDiff, Nat.reduceBEq, reduceCtorEq, Int.reduceBEq, Int.reduceBNe, Int.reduceLT, Int.reduceLE, Int.reduceGT, Int.reduceGE]
        (refine (r_inLoop_some ?_).trans h; kernel_rfl)) (by
      unfold H82a
      simp only [dV, iV, bV, E82]
      (rw [show (It.code L82a) = It.code (sub B82 [1, 1, 0, 1, 0, 0]) from rfl]; simp only [B82, K82a, sub, Option.getD_some, Go.Proofs.Tryz.f82, ↓reduceIte, Nat.one_ne_zero])
      simp only [zS, nilEq, wantedA, opA, eff, boxA, cells, ev, gt, pt, putO, updO, setO, okC, loadA, cutC, fieldAddrA, fieldA, indexAddrA, indexA, builtinA, callOpA, callV, target, ptrV, lenS, binA, intOp, strOp, unA, num, lk, over, allocA, pickA, buildA, fillA, convertA, extractA, ofComp, nilCheckA, makeFuncA, ptrs, ofValue, cellB, Nat.reduceAdd, Nat.reduceSub, Nat.reduceMul, Nat.reduceLT, Nat.reduceLeDiff, Nat.reduceGT, ↓reduceIte, Nat.reduceEqDiff, Nat.reduceBEq, reduceCtorEq, Int.reduceBEq, Int.reduceBNe, Int.reduceLT, Int.reduceLE, Int.reduceGT, Int.reduceGE, aggT_30, sizeT_30, bytesT_30, und_30, elemT_30, isSliceT_30, zero1_30, zeroT_30, aggT_3, sizeT_3, bytesT_3, und_3, zero1_3, zeroT_3, Int.lt_irrefl]
      (refine Eq.trans ?_ rfl; kernel_rfl))
  rw [this]
  exact pairs_res eqLev l m (by omega)
/-! ### terms -/
def eqTm : Tm → Tm → Bool
  | .mk op n s u _ l _, b => (op == b.op) && ((n == b.n) && ((s.toList == b.s.toList) && (allR eqLev u b.u && eqTms l b.l)))
where eqTms : List Tm → List Tm → Bool
  | [], [] => true
  | x :: l, y :: m => eqTm x y && eqTms l m
  | _, _ => false
theorem eqTms_eq : ∀ (l m : List Tm), eqTm.eqTms l m = allR eqTm l m
  | [], [] => rfl
  | _ :: l, _ :: m => by simp only [eqTm.eqTms, allR, eqTms_eq l m]
  | [], _ :: _ => rfl
  | _ :: _, [] => rfl
theorem eqTm_eq (a b : Tm) : eqTm a b = ((a.op == b.op) && ((a.n == b.n) && ((a.s.toList == b.s.toList) && (allR eqLev a.u b.u && allR eqTm a.l b.l)))) := by
  cases a; simp only [eqTm, eqTms_eq, Tm.op, Tm.n, Tm.s, Tm.u, Tm.l]
theorem eq52 (hx : ext 52 = none) (l m : List Tm) (z z' : Bool) (hs : l.length < 2 ^ 50) (hr' : ∀ x ∈ l, ∀ y, run Go.Proofs.Tryz.prog ext (.call 36 [tmV x, tmV y] []) = some (.ret [bV (eqTm x y)] [])) : run Go.Proofs.Tryz.prog ext (.call 52 [dV (listD z 5 (l.map tmD)), dV (listD z' 5 (m.map tmD))] []) = some (.ret [bV (allR eqTm l m)] []) := by
  by_cases h2 : (l.length : Int) = m.length
  case neg =>
    have e : allR eqTm l m = false := by
      cases hh : allR eqTm l m with
      | false => rfl
      | true => have := allR_len hh; omega
    rw [e]
    (rw [run_eq]; simp only [stepA, hx, Go.Proofs.Tryz.func52, Go.Proofs.Tryz.f52, show retF 52 = false from rfl]; simp only [List.length_cons, List.length_nil, Nat.reduceAdd, Nat.reduceLeDiff, Nat.zero_le, ↓reduceIte, List.zipIdx_cons, List.zipIdx_nil, List.map_cons, List.map_nil])
    simp only [dV, bV]
    simp only [zS, nilEq, wantedA, opA, eff, boxA, cells, ev, gt, pt, putO, updO, setO, okC, loadA, cutC, fieldAddrA, fieldA, indexAddrA, indexA, builtinA, callOpA, callV, target, ptrV, lenS, binA, intOp, strOp, unA, num, lk, over, allocA, pickA, buildA, fillA, convertA, extractA, ofComp, nilCheckA, makeFuncA, ptrs, ofValue, cellB, Nat.reduceAdd, Nat.reduceSub, Nat.reduceMul, Nat.reduceLT, Nat.reduceLeDiff, Nat.reduceGT, ↓reduceIte, Nat.reduceEqDiff, Nat.reduceBEq, reduceCtorEq, Int.reduceBEq, Int.reduceBNe, Int.reduceLT, Int.reduceLE, Int.reduceGT, Int.reduceGE, aggT_31, sizeT_31, bytesT_31, und_31, elemT_31, isSliceT_31, zero1_31, zeroT_31, aggT_3, sizeT_3, bytesT_3, und_3, zero1_3, zeroT_3, h2]
    (refine Eq.trans ?_ rfl; kernel_rfl)
  have he : ∀ out, H52a ext 0 (E82 (listD z 5 (l.map tmD)) (listD z' 5 (m.map tmD)) 0) [] = out → run Go.Proofs.Tryz.prog ext (.call 52 [dV (listD z 5 (l.map tmD)), dV (listD z' 5 (m.map tmD))] []) = out := by
    intro out h
    unfold H52a at h
    (rw [run_eq]; simp only [stepA, hx, Go.Proofs.Tryz.func52, Go.Proofs.Tryz.f52, show retF 52 = false from rfl]; simp only [List.length_cons, List.length_nil, Nat.reduceAdd, Nat.reduceLeDiff, Nat.zero_le, ↓reduceIte, List.zipIdx_cons, List.zipIdx_nil, List.map_cons, List.map_nil])
    simp only [dV, iV, E82] at h ⊢
    simp only [zS, nilEq, wantedA, opA, eff, boxA, cells, ev, gt, pt, putO, updO, setO, okC, loadA, cutC, fieldAddrA, fieldA, indexAddrA, indexA, builtinA, callOpA, callV, target, ptrV, lenS, binA, intOp, strOp, unA, num, lk, over, allocA, pickA, buildA, fillA, convertA, extractA, ofComp, nilCheckA, makeFuncA, ptrs, ofValue, cellB, Nat.reduceAdd, Nat.reduceSub, Nat.reduceMul, Nat.reduceLT, Nat.reduceLeDiff, Nat.reduceGT, ↓reduceIte, Nat.reduceEqDiff, Nat.reduceBEq, reduceCtorEq, Int.reduceBEq, Int.reduceBNe, Int.reduceLT, Int.reduceLE, Int.reduceGT, Int.reduceGE, aggT_31, sizeT_31, bytesT_31, und_31, elemT_31, isSliceT_31, zero1_31, zeroT_31, aggT_3, sizeT_3, bytesT_3, und_3, zero1_3, zeroT_3, h2]
    (refine (r_inLoop_some ?_).trans h; kernel_rfl)
  refine he _ ?_
  have := loop_findK l (fun k => H52a ext 0 (E82 (listD z 5 (l.map tmD)) (listD z' 5 (m.map tmD)) k) []) (pairP eqTm m) (fun _ => some (.ret [bV false] [])) (some (.ret [bV true] [])) (by omega) (fun k a hk hl => by
      have h0 : (0 : Int) ≤ k := by omega
      have hl2 : (k : Int) < m.length := by omega
      have hlt : k < m.length := by omega
      have hb : m[k]? = some m[k] := by simp [hlt]
      generalize m[k] = b at hb
      have hd : listD z 5 (l.map tmD) = .s 5 (l.map tmD) := listD_of_lt h0 (by simpa using hl)
      have hd2 : listD z' 5 (m.map tmD) = .s 5 (m.map tmD) := listD_of_lt h0 (by simpa using hl2)
      have hpp : pairP eqTm m k a = !eqTm a b := by unfold pairP; rw [hb]
      have hr := hr' a (List.mem_of_getElem? hk) b
      unfold H52a
      rw [hpp]
      refine ⟨fun hp => ?_, fun hp out h => ?_⟩
      · have hp' : eqTm a b = false := by simpa using hp
        rw [hp'] at hr
        simp only [tmV, tmC, dV, iV, bV, E82, hd, hd2] at hr ⊢
        (rw [show (It.code L52a) = It.code (sub B52 [1, 1, 0, 1, 0, 0]) from rfl]; simp only [B52, K52a, sub, Option.getD_some, Go.Proofs.Tryz.f52, ↓reduceIte, Nat.one_ne_zero])
        simp only [zS, nilEq, wantedA, opA, eff, boxA, cells, ev, gt, pt, putO, updO, setO, okC, loadA, cutC, fieldAddrA, fieldA, indexAddrA, indexA, builtinA, callOpA, callV, target, ptrV, lenS, binA, intOp, strOp, unA, num, lk, over, allocA, pickA, buildA, fillA, convertA, extractA, ofComp, nilCheckA, makeFuncA, ptrs, ofValue, cellB, Nat.reduceAdd, Nat.reduceSub, Nat.reduceMul, Nat.reduceLT, Nat.reduceLeDiff, Nat.reduceGT, ↓reduceIte, Nat.reduceEqDiff, Nat.reduceBEq, reduceCtorEq, Int.reduceBEq, Int.reduceBNe, Int.reduceLT, Int.reduceLE, Int.reduceGT, Int.reduceGE, aggT_33, sizeT_33, bytesT_33, fieldT_33_0, fieldT_33_1, fieldT_33_2, fieldT_33_3, fieldT_33_4, placesT_33, zeroT_33, aggT_31, sizeT_31, bytesT_31, und_31, elemT_31, isSliceT_31, zero1_31, zeroT_31, aggT_3, sizeT_3, bytesT_3, und_3, zero1_3, zeroT_3, drawA, holes_succ, holes_zero, Array.size, List.length, h0, hl, hl2, Int.toNat_natCast, hk, hb, tmD_eq a, tmD_eq b, hr]
        rw [afterDraw_some _ _ _ _ (by kernel_rfl)]
        simp only [zS, nilEq, wantedA, opA, eff, boxA, cells, ev, gt, pt, putO, updO, setO, okC, loadA, cutC, fieldAddrA, fieldA, indexAddrA, indexA, builtinA, callOpA, callV, target, ptrV, lenS, binA, intOp, strOp, unA, num, lk, over, allocA, pickA, buildA, fillA, convertA, extractA, ofComp, nilCheckA, makeFuncA, ptrs, ofValue, cellB, Nat.reduceAdd, Nat.reduceSub, Nat.reduceMul, Nat.reduceLT, Nat.reduceLeDiff, Nat.reduceGT, ↓reduceIte, Nat.reduceEqDiff, Nat.reduceBEq, reduceCtorEq, Int.reduceBEq, Int.reduceBNe, Int.reduceLT, Int.reduceLE, Int.reduceGT, Int.reduceGE]
        (refine Eq.trans ?_ rfl; kernel_rfl)
      · have hp' : eqTm a b = true := by simpa using hp
        rw [hp'] at hr
        simp only [tmV, tmC, dV, iV, bV, E82, hd, hd2] at hr h ⊢
        (rw [show (It.code L52a) = It.code (sub B52 [1, 1, 0, 1, 0, 0]) from rfl]; simp only [B52, K52a, sub, Option.getD_some, Go.Proofs.Tryz.f52, ↓reduceIte, Nat.one_ne_zero])
        simp only [zS, nilEq, wantedA, opA, eff, boxA, cells, ev, gt, pt, putO, updO, setO, okC, loadA, cutC, fieldAddrA, fieldA, indexAddrA, indexA, builtinA, callOpA, callV, target, ptrV, lenS, binA, intOp, strOp, unA, num, lk, over, allocA, pickA, buildA, fillA, convertA, extractA, ofComp, nilCheckA, makeFuncA, ptrs, ofValue, cellB, Nat.reduceAdd, Nat.reduceSub, Nat.reduceMul, Nat.reduceLT, Nat.reduceLeDiff, Nat.reduceGT, ↓reduceIte, Nat.reduceEqDiff, Nat.reduceBEq, reduceCtorEq, Int.reduceBEq, Int.reduceBNe, Int.reduceLT, Int.reduceLE, Int.reduceGT, Int.reduceGE, aggT_33, sizeT_33, bytesT_33, fieldT_33_0, fieldT_33_1, fieldT_33_2, fieldT_33_3, fieldT_33_4, placesT_33, zeroT_33, aggT_31, sizeT_31, bytesT_31, und_31, elemT_31, isSliceT_31, zero1_31, zeroT_31, aggT_3, sizeT_3, bytesT_3, und_3, zero1_3, zeroT_3, drawA, holes_succ, holes_zero, Array.size, List.length, h0, hl, hl2, Int.toNat_natCast, hk, hb, tmD_eq a, tmD_eq b, hr]
        rw [afterDraw_some _ _ _ _ (by kernel_rfl)]
        simp only [zS, nilEq, wantedA, opA, eff, boxA, cells, ev, gt, pt, putO, updO, setO, okC, loadA, cutC, fieldAddrA, fieldA, indexAddrA, indexA, builtinA, callOpA, callV, target, ptrV, lenS, binA, intOp, strOp, unA, num, lk, over, allocA, pickA, buildA, fillA, convertA, extractA, ofComp, nilCheckA, makeFuncA, ptrs, ofValue, cellB, Nat.reduceAdd, Nat.reduceSub, Nat.reduceMul, Nat.reduceLT, Nat.reduceLeDiff, Nat.reduceGT, ↓reduceIte, Nat.reduceEqDiff, Nat.reduceBEq, reduceCtorEq, Int.reduceBEq, Int.reduceBNe, Int.reduceLT, Int.reduceLE, Int.reduceGT, Int.reduceGE]
        (refine (r_inLoop_some ?_).trans h; kernel_rfl)) (by
      unfold H52a
      simp only [dV, iV, bV, E82]
      (rw [show (It.code L52a) = It.code (sub B52 [1, 1, 0, 1, 0, 0]) from rfl]; simp only [B52, K52a, sub, Option.getD_some, Go.Proofs.Tryz.f52, ↓reduceIte, Nat.one_ne_zero])
      simp only [zS, nilEq, wantedA, opA, eff, boxA, cells, ev, gt, pt, putO, updO, setO, okC, loadA, cutC, fieldAddrA, fieldA, indexAddrA, indexA, builtinA, callOpA, callV, target, ptrV, lenS, binA, intOp, strOp, unA, num, lk, over, allocA, pickA, buildA, fillA, convertA, extractA, ofComp, nilCheckA, makeFuncA, ptrs, ofValue, cellB, Nat.reduceAdd, Nat.reduceSub, Nat.reduceMul, Nat.reduceLT, Nat.reduceLeDiff, Nat.reduceGT, ↓reduceIte, Nat.reduceEqDiff, Nat.reduceBEq, reduceCtorEq, Int.reduceBEq, Int.reduceBNe, Int.reduceLT, Int.reduceLE, Int.reduceGT, Int.reduceGE, aggT_31, sizeT_31, bytesT_31, und_31, elemT_31, isSliceT_31, zero1_31, zeroT_31, aggT_3, sizeT_3, bytesT_3, und_3, zero1_3, zeroT_3, Int.lt_irrefl]
      (refine Eq.trans ?_ rfl; kernel_rfl))
  rw [this]
  exact pairs_res eqTm l m (by omega)
theorem eq36 (hx : ext 36 = none) (h43 : ext 43 = none) (h82 : ext 82 = none) (h52 : ext 52 = none) : ∀ (N : Nat) (a b : Tm), a.sz ≤ N → N < 2 ^ 50 → run Go.Proofs.Tryz.prog ext (.call 36 [tmV a, tmV b] []) = some (.ret [bV (eqTm a b)] [])
  | 0, a, b, h, _ => by have := a.sz_pos; omega
  | N + 1, a, b, h, hN => by
    have hul := a.ulen_lt
    have hll := a.len_lt
    have r82 := eq82 ext h82 h43 a.zu b.zu a.u b.u (by omega) (fun x hx => by have := Tm.lev_lt hx; unfold Lev.sz at this; omega)
    have r52 := eq52 ext h52 a.l b.l a.zl b.zl (by omega) (fun x hm y => eq36 hx h43 h82 h52 N x y (by have := Tm.sz_lt hm; omega) (by omega))
    rw [eqTm_eq]
    have ea : listD a.zu 2 (a.u.map levD) = a.uD := id rfl
    have eb : listD b.zu 2 (b.u.map levD) = b.uD := id rfl
    have ec : listD a.zl 5 (a.l.map tmD) = a.lD := id rfl
    have ed : listD b.zl 5 (b.l.map tmD) = b.lD := id rfl
    simp only [ea, eb, dV] at r82
    simp only [ec, ed, dV] at r52
    cases c1 : (a.op == b.op) with
    | false =>
      rw [Bool.false_and]
      (rw [run_eq]; simp only [stepA, hx, Go.Proofs.Tryz.func36, Go.Proofs.Tryz.f36, show retF 36 = false from rfl]; simp only [List.length_cons, List.length_nil, Nat.reduceAdd, Nat.reduceLeDiff, Nat.zero_le, ↓reduceIte, List.zipIdx_cons, List.zipIdx_nil, List.map_cons, List.map_nil])
      simp only [tmV, tmC, bV]
      simp only [zS, nilEq, wantedA, opA, eff, boxA, cells, ev, gt, pt, putO, updO, setO, okC, loadA, cutC, fieldAddrA, fieldA, indexAddrA, indexA, builtinA, callOpA, callV, target, ptrV, lenS, binA, intOp, strOp, unA, num, lk, over, allocA, pickA, buildA, fillA, convertA, extractA, ofComp, nilCheckA, makeFuncA, ptrs, ofValue, cellB, Nat.reduceAdd, Nat.reduceSub, Nat.reduceMul, Nat.reduceLT, Nat.reduceLeDiff, Nat.reduceGT, ↓reduceIte, Nat.reduceEqDiff, Nat.reduceBEq, reduceCtorEq, Int.reduceBEq, Int.reduceBNe, Int.reduceLT, Int.reduceLE, Int.reduceGT, Int.reduceGE, aggT_33, sizeT_33, bytesT_33, fieldT_33_0, fieldT_33_1, fieldT_33_2, fieldT_33_3, fieldT_33_4, placesT_33, zeroT_33, aggT_9, sizeT_9, bytesT_9, und_9, zero1_9, zeroT_9, aggT_3, sizeT_3, bytesT_3, und_3, zero1_3, zeroT_3, c1]
      (refine Eq.trans ?_ rfl; kernel_rfl)
    | true =>
    rw [Bool.true_and]
    cases c2 : (a.n == b.n) with
    | false =>
      rw [Bool.false_and]
      (rw [run_eq]; simp only [stepA, hx, Go.Proofs.Tryz.func36, Go.Proofs.Tryz.f36, show retF 36 = false from rfl]; simp only [List.length_cons, List.length_nil, Nat.reduceAdd, Nat.reduceLeDiff, Nat.zero_le, ↓reduceIte, List.zipIdx_cons, List.zipIdx_nil, List.map_cons, List.map_nil])
      simp only [tmV, tmC, bV]
      simp only [zS, nilEq, wantedA, opA, eff, boxA, cells, ev, gt, pt, putO, updO, setO, okC, loadA, cutC, fieldAddrA, fieldA, indexAddrA, indexA, builtinA, callOpA, callV, target, ptrV, lenS, binA, intOp, strOp, unA, num, lk, over, allocA, pickA, buildA, fillA, convertA, extractA, ofComp, nilCheckA, makeFuncA, ptrs, ofValue, cellB, Nat.reduceAdd, Nat.reduceSub, Nat.reduceMul, Nat.reduceLT, Nat.reduceLeDiff, Nat.reduceGT, ↓reduceIte, Nat.reduceEqDiff, Nat.reduceBEq, reduceCtorEq, Int.reduceBEq, Int.reduceBNe, Int.reduceLT, Int.reduceLE, Int.reduceGT, Int.reduceGE, aggT_33, sizeT_33, bytesT_33, fieldT_33_0, fieldT_33_1, fieldT_33_2, fieldT_33_3, fieldT_33_4, placesT_33, zeroT_33, aggT_9, sizeT_9, bytesT_9, und_9, zero1_9, zeroT_9, aggT_3, sizeT_3, bytesT_3, und_3, zero1_3, zeroT_3, c1, c2]
      (refine Eq.trans ?_ rfl; kernel_rfl)
    | true =>
    rw [Bool.true_and]
    cases c3 : (a.s.toList == b.s.toList) with
    | false =>
      rw [Bool.false_and]
      (rw [run_eq]; simp only [stepA, hx, Go.Proofs.Tryz.func36, Go.Proofs.Tryz.f36, show retF 36 = false from rfl]; simp only [List.length_cons, List.length_nil, Nat.reduceAdd, Nat.reduceLeDiff, Nat.zero_le, ↓reduceIte, List.zipIdx_cons, List.zipIdx_nil, List.map_cons, List.map_nil])
      simp only [tmV, tmC, bV]
      simp only [zS, nilEq, wantedA, opA, eff, boxA, cells, ev, gt, pt, putO, updO, setO, okC, loadA, cutC, fieldAddrA, fieldA, indexAddrA, indexA, builtinA, callOpA, callV, target, ptrV, lenS, binA, intOp, strOp, unA, num, lk, over, allocA, pickA, buildA, fillA, convertA, extractA, ofComp, nilCheckA, makeFuncA, ptrs, ofValue, cellB, Nat.reduceAdd, Nat.reduceSub, Nat.reduceMul, Nat.reduceLT, Nat.reduceLeDiff, Nat.reduceGT, ↓reduceIte, Nat.reduceEqDiff, Nat.reduceBEq, reduceCtorEq, Int.reduceBEq, Int.reduceBNe, Int.reduceLT, Int.reduceLE, Int.reduceGT, Int.reduceGE, aggT_33, sizeT_33, bytesT_33, fieldT_33_0, fieldT_33_1, fieldT_33_2, fieldT_33_3, fieldT_33_4, placesT_33, zeroT_33, aggT_9, sizeT_9, bytesT_9, und_9, zero1_9, zeroT_9, aggT_3, sizeT_3, bytesT_3, und_3, zero1_3, zeroT_3, c1, c2, c3]
      (refine Eq.trans ?_ rfl; kernel_rfl)
    | true =>
    rw [Bool.true_and]
    cases c4 : allR eqLev a.u b.u with
    | false =>
      rw [Bool.false_and]
      rw [c4] at r82
      (rw [run_eq]; simp only [stepA, hx, Go.Proofs.Tryz.func36, Go.Proofs.Tryz.f36, show retF 36 = false from rfl]; simp only [List.length_cons, List.length_nil, Nat.reduceAdd, Nat.reduceLeDiff, Nat.zero_le, ↓reduceIte, List.zipIdx_cons, List.zipIdx_nil, List.map_cons, List.map_nil])
      simp only [tmV, tmC, bV] at r82 ⊢
      simp only [zS, nilEq, wantedA, opA, eff, boxA, cells, ev, gt, pt, putO, updO, setO, okC, loadA, cutC, fieldAddrA, fieldA, indexAddrA, indexA, builtinA, callOpA, callV, target, ptrV, lenS, binA, intOp, strOp, unA, num, lk, over, allocA, pickA, buildA, fillA, convertA, extractA, ofComp, nilCheckA, makeFuncA, ptrs, ofValue, cellB, Nat.reduceAdd, Nat.reduceSub, Nat.reduceMul, Nat.reduceLT, Nat.reduceLeDiff, Nat.reduceGT, ↓reduceIte, Nat.reduceEqDiff, Nat.reduceBEq, reduceCtorEq, Int.reduceBEq, Int.reduceBNe, Int.reduceLT, Int.reduceLE, Int.reduceGT, Int.reduceGE, aggT_33, sizeT_33, bytesT_33, fieldT_33_0, fieldT_33_1, fieldT_33_2, fieldT_33_3, fieldT_33_4, placesT_33, zeroT_33, aggT_9, sizeT_9, bytesT_9, und_9, zero1_9, zeroT_9, aggT_30, sizeT_30, bytesT_30, und_30, elemT_30, isSliceT_30, zero1_30, zeroT_30, aggT_3, sizeT_3, bytesT_3, und_3, zero1_3, zeroT_3, c1, c2, c3, r82]
      (refine Eq.trans ?_ rfl; kernel_rfl)
    | true =>
    rw [Bool.true_and]
    rw [c4] at r82
    (rw [run_eq]; simp only [stepA, hx, Go.Proofs.Tryz.func36, Go.Proofs.Tryz.f36, show retF 36 = false from rfl]; simp only [List.length_cons, List.length_nil, Nat.reduceAdd, Nat.reduceLeDiff, Nat.zero_le, ↓reduceIte, List.zipIdx_cons, List.zipIdx_nil, List.map_cons, List.map_nil])
    simp only [tmV, tmC, bV] at r82 r52 ⊢
    simp only [zS, nilEq, wantedA, opA, eff, boxA, cells, ev, gt, pt, putO, updO, setO, okC, loadA, cutC, fieldAddrA, fieldA, indexAddrA, indexA, builtinA, callOpA, callV, target, ptrV, lenS, binA, intOp, strOp, unA, num, lk, over, allocA, pickA, buildA, fillA, convertA, extractA, ofComp, nilCheckA, makeFuncA, ptrs, ofValue, cellB, Nat.reduceAdd, Nat.reduceSub, Nat.reduceMul, Nat.reduceLT, Nat.reduceLeDiff, Nat.reduceGT, ↓reduceIte, Nat.reduceEqDiff, Nat.reduceBEq, reduceCtorEq, Int.reduceBEq, Int.reduceBNe, Int.reduceLT, Int.reduceLE, Int.reduceGT, Int.reduceGE, aggT_33, sizeT_33, bytesT_33, fieldT_33_0, fieldT_33_1, fieldT_33_2, fieldT_33_3, fieldT_33_4, placesT_33, zeroT_33, aggT_9, sizeT_9, bytesT_9, und_9, zero1_9, zeroT_9, aggT_30, sizeT_30, bytesT_30, und_30, elemT_30, isSliceT_30, zero1_30, zeroT_30, aggT_31, sizeT_31, bytesT_31, und_31, elemT_31, isSliceT_31, zero1_31, zeroT_31, aggT_3, sizeT_3, bytesT_3, und_3, zero1_3, zeroT_3, c1, c2, c3, r82, r52]
    (refine Eq.trans ?_ rfl; kernel_rfl)
end Go.Proofs.YteenjodhmppgjaaGreatDoor.Am
end
section
/- SetLevels, by the program and by the reference. -/
namespace Go.Proofs.YteenjodhmppgjaaGreatDoor.Am
open Go
variable (ext : Ext)
set_option maxHeartbeats 8000000
noncomputable def B79 : Code := (Go.Proofs.Tryz.f79.body.getD .skip)
noncomputable def L79a : Code := sub B79 [1, 1, 0, 1, 0, 0]
noncomputable def K79a : List It := [.inBlock 0, .code (sub B79 [1, 1, 1])]
noncomputable def H79a (ext : Ext) (m : Nat) (env : Env) (loc : List O) : Option Out := run Go.Proofs.Tryz.prog ext (.k ⟨65, m, [.cell 4 33, .tmp 5], false⟩ (.code L79a :: .inLoop L79a :: K79a) env loc)
noncomputable def L79b : Code := sub B79 [1, 1, 1, 1, 0, 1, 0, 0]
noncomputable def K79b : List It := [.inBlock 2, .code (sub B79 [1, 1, 1, 1, 1])]
noncomputable def H79b (ext : Ext) (m : Nat) (env : Env) (loc : List O) : Option Out := run Go.Proofs.Tryz.prog ext (.k ⟨65, m, [.cell 4 33, .tmp 5], false⟩ (.code L79b :: .inLoop L79b :: K79b) env loc)
noncomputable def B81 : Code := (Go.Proofs.Tryz.f81.body.getD .skip)
noncomputable def L81a : Code := sub B81 [1, 1, 0, 1, 0, 0]
noncomputable def K81a : List It := [.inBlock 0, .code (sub B81 [1, 1, 1])]
noncomputable def H81a (ext : Ext) (m : Nat) (env : Env) (loc : List O) : Option Out := run Go.Proofs.Tryz.prog ext (.k ⟨75, m, [.cell 4 33, .tmp 5], false⟩ (.code L81a :: .inLoop L81a :: K81a) env loc)
noncomputable def L81b : Code := sub B81 [1, 1, 1, 0, 1, 0, 0]
noncomputable def K81b : List It := [.inBlock 2, .code (sub B81 [1, 1, 1, 1])]
noncomputable def H81b (ext : Ext) (m : Nat) (env : Env) (loc : List O) : Option Out := run Go.Proofs.Tryz.prog ext (.k ⟨75, m, [.cell 4 33, .tmp 5], false⟩ (.code L81b :: .inLoop L81b :: K81b) env loc)
def zTm : Tm := .mk 0 0 ⟨#[]⟩ [] true [] true
theorem tmC_z : tmC zTm = [.d (.v (.int .i64 0)), .d (.v (.int .i64 0)), .d (.v (.string ⟨#[]⟩)), .d (.v (.slice none 0 0)), .d (.v (.slice none 0 0))] := rfl
theorem levD_eq (x : Lev) : levD x = [.v (.int .i64 x.c), x.d] := rfl
theorem bsLev {look : Look} {slot : Nat} {a : Int} {x : D} : buildSliceA Go.Proofs.Tryz.prog look slot 30 1 [(0, .agg [.d (.v (.int .i64 a)), .d x])] = some ⟨.val (.c (.own slot)), [(slot, .arr 2 [[.v (.int .i64 a), x]])], []⟩ :=
  bs_one (cs := [.d (.v (.int .i64 a)), .d x]) elemT_30 sizeT_36 i30 rfl rfl rfl (by decide) (by decide)
theorem bsTm {look : Look} {slot : Nat} {a b : Int} {s : ByteArray} {x y : D} : buildSliceA Go.Proofs.Tryz.prog look slot 31 1 [(0, .agg [.d (.v (.int .i64 a)), .d (.v (.int .i64 b)), .d (.v (.string s)), .d x, .d y])] = some ⟨.val (.c (.own slot)), [(slot, .arr 5 [[.v (.int .i64 a), .v (.int .i64 b), .v (.string s), x, y]])], []⟩ :=
  bs_one (cs := [.d (.v (.int .i64 a)), .d (.v (.int .i64 b)), .d (.v (.string s)), .d x, .d y]) elemT_31 sizeT_33 i31 rfl rfl rfl (by decide) (by decide)
theorem callOut_vi (slot : Nat) (cs : List C) (n : Int) (h : cs.all dataC = true) : callOut [] [] slot (some (.ret [.agg cs, .c (.d (.v (.int .i64 n)))] [])) = some ⟨.val (.tup [(true, cs), (false, [.d (.v (.int .i64 n))])]), [], []⟩ := by
  obtain ⟨_, _, h3⟩ := argCs_data (look := fun _ => none) h
  simp only [callOut, answer, mapO, renV, h3, renC, results1, comp, List.length_nil, Nat.lt_irrefl, if_false]
  split <;> rfl
def mapE {α β : Type} (f : α → β × Int) : List α → List β ⊕ Int
  | [] => .inl []
  | x :: l => if (f x).2 = 0 then match mapE f l with | .inl r => .inl ((f x).1 :: r) | .inr e => .inr e else .inr (f x).2
def setL (f : Lev → Lev × Int) : Tm → Tm × Int
  | .mk op n s u _ l _ => match mapE f u with
    | .inr e => (zTm, e)
    | .inl u' => match setLs f l with
      | .inr e => (zTm, e)
      | .inl l' => (.mk op n s u' true l' true, 0)
where setLs (f : Lev → Lev × Int) : List Tm → List Tm ⊕ Int
  | [] => .inl []
  | x :: l => if (setL f x).2 = 0 then match setLs f l with | .inl r => .inl ((setL f x).1 :: r) | .inr e => .inr e else .inr (setL f x).2
theorem setLs_eq (f : Lev → Lev × Int) : ∀ l : List Tm, setL.setLs f l = mapE (setL f) l
  | [] => rfl
  | x :: l => by
    rw [setL.setLs, mapE, setLs_eq f l]
    by_cases h : (setL f x).2 = 0
    · rw [if_pos h, if_pos h]; cases mapE (setL f) l <;> rfl
    · rw [if_neg h, if_neg h]
theorem setL_eq (f : Lev → Lev × Int) (x : Tm) : setL f x = match mapE f x.u with
    | .inr e => (zTm, e)
    | .inl u' => match mapE (setL f) x.l with
      | .inr e => (zTm, e)
      | .inl l' => (.mk x.op x.n x.s u' true l' true, 0) := by
  cases x; simp only [setL, setLs_eq, Tm.op, Tm.n, Tm.s, Tm.u, Tm.l]
/-- A loop that makes a list, or ends with an error. -/
theorem loop_mapE {α β : Type} (f : α → β × Int) (l : List α) (S : Int → List β → Option Out) (bad : Int → Option Out) (fin : List β → Option Out) (hl : l.length < 2 ^ 50)
    (hstep : ∀ (k : Nat) (x : α) (els : List β), l[k]? = some x → (k : Int) < l.length → els.length = k → ((f x).2 = 0 → ∀ out, S (wr ((k : Int) + 1)) (els ++ [(f x).1]) = out → S k els = out) ∧ (¬ (f x).2 = 0 → S k els = bad (f x).2))
    (hdone : ∀ els, els.length = l.length → S l.length els = fin els) : S 0 [] = match mapE f l with | .inl r => fin r | .inr e => bad e := by
  have key : ∀ (m k : Nat) (els : List β), k + m = l.length → els.length = k → S k els = match mapE f (l.drop k) with | .inl r => fin (els ++ r) | .inr e => bad e := by
    intro m
    induction m with
    | zero =>
      intro k els hk he
      rw [List.drop_eq_nil_of_le (by omega), show k = l.length by omega]
      simp only [mapE, List.append_nil]
      exact hdone els (by omega)
    | succ m ih =>
      intro k els hk he
      have hlt : k < l.length := by omega
      rw [List.drop_eq_getElem_cons hlt, mapE]
      obtain ⟨h1, h2⟩ := hstep k l[k] els (by simp [hlt]) (by omega) he
      by_cases h0 : (f l[k]).2 = 0
      · rw [if_pos h0]
        refine h1 h0 _ ?_
        rw [wr_id (by omega) (by omega), show ((k : Int) + 1) = ((k + 1 : Nat) : Int) by omega, ih (k + 1) _ (by omega) (by simp [he])]
        cases mapE f (l.drop (k + 1)) with
        | inl r => simp
        | inr e => rfl
      · rw [if_neg h0]; exact h2 h0
  simpa using key l.length 0 [] (by omega) rfl
/-! ### by the program -/
def E79a (b : D) (x : Tm) (us : List Lev) (k : Int) : Env := [(1, dV b), (2, .c (.ptr 0 0)), (4, .c (.ptr 1 0)), (6, mkV 2 (us.map levD)), (17, dV x.uD), (18, iV x.u.length), (19, iV k)]
def O79a (x : Tm) (us : List Lev) : List O := .box (tmC x) :: .box (tmC zTm) :: mkO 2 (us.map levD)
theorem enter79 (hx : ext 79 = none) (b : D) (x : Tm) (out : Option Out) (h : H79a ext 0 (E79a b x [] 0) (O79a x []) = out) : run Go.Proofs.Tryz.prog ext (.call 79 [tmV x, dV b] []) = out := by
  unfold H79a at h
  (rw [run_eq]; simp only [stepA, hx, Go.Proofs.Tryz.func79, Go.Proofs.Tryz.f79, show retF 79 = false from rfl]; simp only [List.length_cons, List.length_nil, Nat.reduceAdd, Nat.reduceLeDiff, Nat.zero_le, ↓reduceIte, List.zipIdx_cons, List.zipIdx_nil, List.map_cons, List.map_nil])
  simp only [tmV, tmC_z, tmC, dV, iV, E79a, O79a, List.map_nil, mkV_nil, mkO_nil] at h ⊢
  simp only [zS, nilEq, wantedA, opA, eff, boxA, cells, ev, gt, pt, putO, updO, setO, okC, loadA, cutC, fieldAddrA, fieldA, indexAddrA, indexA, builtinA, callOpA, callV, target, ptrV, lenS, binA, intOp, strOp, unA, num, lk, over, allocA, pickA, buildA, fillA, convertA, extractA, ofComp, nilCheckA, makeFuncA, ptrs, ofValue, cellB, Nat.reduceAdd, Nat.reduceSub, Nat.reduceMul, Nat.reduceLT, Nat.reduceLeDiff, Nat.reduceGT, ↓reduceIte, Nat.reduceEqDiff, Nat.reduceBEq, reduceCtorEq, Int.reduceBEq, Int.reduceBNe, Int.reduceLT, Int.reduceLE, Int.reduceGT, Int.reduceGE, aggT_33, sizeT_33, bytesT_33, fieldT_33_0, fieldT_33_1, fieldT_33_2, fieldT_33_3, fieldT_33_4, placesT_33, zeroT_33, aggT_30, sizeT_30, bytesT_30, und_30, elemT_30, isSliceT_30, zero1_30, zeroT_30, aggT_3, sizeT_3, bytesT_3, und_3, zero1_3, zeroT_3, lenA_uD]
  (refine (r_inLoop_some ?_).trans h; kernel_rfl)
theorem step79a (b : D) (x : Tm) (u y : Lev) (us : List Lev) (k : Nat) (hb : us.length < 2 ^ 29) (hk : x.u[k]? = some u) (hl : (k : Int) < x.u.length) (hr : run Go.Proofs.Tryz.prog ext (.call 84 [levV u, dV b] []) = some (.ret [levV y, iV 0] [])) (out : Option Out)
    (h : H79a ext 0 (E79a b x (us ++ [y]) (wr ((k : Int) + 1))) (O79a x (us ++ [y])) = out) : H79a ext 0 (E79a b x us k) (O79a x us) = out := by
  have h0 : (0 : Int) ≤ k := by omega
  unfold H79a at h ⊢
  cases us with
  | nil =>
    simp only [levV, levC, tmC_z, tmC, dV, iV, E79a, O79a, uD_lt hl, List.map_append, List.map_cons, List.map_nil, mkV_snoc, mkO_snoc, mkV_nil, mkO_nil, List.nil_append, levD_eq y] at h hr ⊢
    (rw [show (It.code L79a) = It.code (sub B79 [1, 1, 0, 1, 0, 0]) from rfl]; simp only [B79, K79a, sub, Option.getD_some, Go.Proofs.Tryz.f79, ↓reduceIte, Nat.one_ne_zero])
    simp only [zS, nilEq, wantedA, opA, eff, boxA, cells, ev, gt, pt, putO, updO, setO, okC, loadA, cutC, fieldAddrA, fieldA, indexAddrA, indexA, builtinA, callOpA, callV, target, ptrV, lenS, binA, intOp, strOp, unA, num, lk, over, allocA, pickA, buildA, fillA, convertA, extractA, ofComp, nilCheckA, makeFuncA, ptrs, ofValue, cellB, Nat.reduceAdd, Nat.reduceSub, Nat.reduceMul, Nat.reduceLT, Nat.reduceLeDiff, Nat.reduceGT, ↓reduceIte, Nat.reduceEqDiff, Nat.reduceBEq, reduceCtorEq, Int.reduceBEq, Int.reduceBNe, Int.reduceLT, Int.reduceLE, Int.reduceGT, Int.reduceGE, aggT_33, sizeT_33, bytesT_33, fieldT_33_0, fieldT_33_1, fieldT_33_2, fieldT_33_3, fieldT_33_4, placesT_33, zeroT_33, aggT_36, sizeT_36, bytesT_36, fieldT_36_0, fieldT_36_1, placesT_36, zeroT_36, aggT_30, sizeT_30, bytesT_30, und_30, elemT_30, isSliceT_30, zero1_30, zeroT_30, aggT_3, sizeT_3, bytesT_3, und_3, zero1_3, zeroT_3, h0, hl, Int.toNat_natCast, hk, levD_eq u, hr, callOut_vi, bsLev, no30, apH_arr, Nat.zero_le]
    (refine (r_inLoop_some ?_).trans h; kernel_rfl)
  | cons a r =>
    have hb' : r.length + 1 ≤ 1000000000 := by simp only [List.length_cons] at hb; omega
    simp only [levV, levC, tmC_z, tmC, dV, iV, E79a, O79a, uD_lt hl, List.map_append, List.map_cons, List.map_nil, mkV_snoc, mkO_snoc, mkV_cons, mkO_cons, List.cons_append, List.nil_append, levD_eq y] at h hr ⊢
    (rw [show (It.code L79a) = It.code (sub B79 [1, 1, 0, 1, 0, 0]) from rfl]; simp only [B79, K79a, sub, Option.getD_some, Go.Proofs.Tryz.f79, ↓reduceIte, Nat.one_ne_zero])
    simp only [zS, nilEq, wantedA, opA, eff, boxA, cells, ev, gt, pt, putO, updO, setO, okC, loadA, cutC, fieldAddrA, fieldA, indexAddrA, indexA, builtinA, callOpA, callV, target, ptrV, lenS, binA, intOp, strOp, unA, num, lk, over, allocA, pickA, buildA, fillA, convertA, extractA, ofComp, nilCheckA, makeFuncA, ptrs, ofValue, cellB, Nat.reduceAdd, Nat.reduceSub, Nat.reduceMul, Nat.reduceLT, Nat.reduceLeDiff, Nat.reduceGT, ↓reduceIte, Nat.reduceEqDiff, Nat.reduceBEq, reduceCtorEq, Int.reduceBEq, Int.reduceBNe, Int.reduceLT, Int.reduceLE, Int.reduceGT, Int.reduceGE, aggT_33, sizeT_33, bytesT_33, fieldT_33_0, fieldT_33_1, fieldT_33_2, fieldT_33_3, fieldT_33_4, placesT_33, zeroT_33, aggT_36, sizeT_36, bytesT_36, fieldT_36_0, fieldT_36_1, placesT_36, zeroT_36, aggT_30, sizeT_30, bytesT_30, und_30, elemT_30, isSliceT_30, zero1_30, zeroT_30, aggT_3, sizeT_3, bytesT_3, und_3, zero1_3, zeroT_3, h0, hl, Int.toNat_natCast, hk, levD_eq u, hr, callOut_vi, bsLev, oo30, apG_arr, hb']
    (refine (r_inLoop_some ?_).trans h; kernel_rfl)
theorem bad79a (b : D) (x : Tm) (u y : Lev) (us : List Lev) (e : Int) (k : Nat) (hk : x.u[k]? = some u) (hl : (k : Int) < x.u.length) (hr : run Go.Proofs.Tryz.prog ext (.call 84 [levV u, dV b] []) = some (.ret [levV y, iV e] [])) (he : ¬ e = 0) : H79a ext 0 (E79a b x us k) (O79a x us) = some (.ret [tmV zTm, iV e] []) := by
  have h0 : (0 : Int) ≤ k := by omega
  unfold H79a
  cases us with
  | nil =>
    simp only [levV, levC, tmV, tmC_z, tmC, dV, iV, E79a, O79a, uD_lt hl, List.map_nil, mkV_nil, mkO_nil] at hr ⊢
    (rw [show (It.code L79a) = It.code (sub B79 [1, 1, 0, 1, 0, 0]) from rfl]; simp only [B79, K79a, sub, Option.getD_some, Go.Proofs.Tryz.f79, ↓reduceIte, Nat.one_ne_zero])
    simp only [zS, nilEq, wantedA, opA, eff, boxA, cells, ev, gt, pt, putO, updO, setO, okC, loadA, cutC, fieldAddrA, fieldA, indexAddrA, indexA, builtinA, callOpA, callV, target, ptrV, lenS, binA, intOp, strOp, unA, num, lk, over, allocA, pickA, buildA, fillA, convertA, extractA, ofComp, nilCheckA, makeFuncA, ptrs, ofValue, cellB, Nat.reduceAdd, Nat.reduceSub, Nat.reduceMul, Nat.reduceLT, Nat.reduceLeDiff, Nat.reduceGT, ↓reduceIte, Nat.reduceEqDiff, Nat.reduceBEq, reduceCtorEq, Int.reduceBEq, Int.reduceBNe, Int.reduceLT, Int.reduceLE, Int.reduceGT, Int.reduceGE, aggT_33, sizeT_33, bytesT_33, fieldT_33_0, fieldT_33_1, fieldT_33_2, fieldT_33_3, fieldT_33_4, placesT_33, zeroT_33, aggT_36, sizeT_36, bytesT_36, fieldT_36_0, fieldT_36_1, placesT_36, zeroT_36, aggT_30, sizeT_30, bytesT_30, und_30, elemT_30, isSliceT_30, zero1_30, zeroT_30, aggT_3, sizeT_3, bytesT_3, und_3, zero1_3, zeroT_3, aggT_27, sizeT_27, bytesT_27, und_27, zero1_27, zeroT_27, h0, hl, Int.toNat_natCast, hk, levD_eq u, hr, callOut_vi, he]
    (refine Eq.trans ?_ rfl; kernel_rfl)
  | cons a r =>
    simp only [levV, levC, tmV, tmC_z, tmC, dV, iV, E79a, O79a, uD_lt hl, List.map_cons, mkV_cons, mkO_cons] at hr ⊢
    (rw [show (It.code L79a) = It.code (sub B79 [1, 1, 0, 1, 0, 0]) from rfl]; simp only [B79, K79a, sub, Option.getD_some, Go.Proofs.Tryz.f79, ↓reduceIte, Nat.one_ne_zero])
    simp only [zS, nilEq, wantedA, opA, eff, boxA, cells, ev, gt, pt, putO, updO, setO, okC, loadA, cutC, fieldAddrA, fieldA, indexAddrA, indexA, builtinA, callOpA, callV, target, ptrV, lenS, binA, intOp, strOp, unA, num, lk, over, allocA, pickA, buildA, fillA, convertA, extractA, ofComp, nilCheckA, makeFuncA, ptrs, ofValue, cellB, Nat.reduceAdd, Nat.reduceSub, Nat.reduceMul, Nat.reduceLT, Nat.reduceLeDiff, Nat.reduceGT, ↓reduceIte, Nat.reduceEqDiff, Nat.reduceBEq, reduceCtorEq, Int.reduceBEq, Int.reduceBNe, Int.reduceLT, Int.reduceLE, Int.reduceGT, Int.reduceGE, aggT_33, sizeT_33, bytesT_33, fieldT_33_0, fieldT_33_1, fieldT_33_2, fieldT_33_3, fieldT_33_4, placesT_33, zeroT_33, aggT_36, sizeT_36, bytesT_36, fieldT_36_0, fieldT_36_1, placesT_36, zeroT_36, aggT_30, sizeT_30, bytesT_30, und_30, elemT_30, isSliceT_30, zero1_30, zeroT_30, aggT_3, sizeT_3, bytesT_3, und_3, zero1_3, zeroT_3, aggT_27, sizeT_27, bytesT_27, und_27, zero1_27, zeroT_27, h0, hl, Int.toNat_natCast, hk, levD_eq u, hr, callOut_vi, he]
    (refine Eq.trans ?_ rfl; kernel_rfl)
def ixU (us : List Lev) : Nat := match us with | [] => 2 | _ :: _ => 3
def E79b (b : D) (x : Tm) (us : List Lev) (ls : List Tm) (k : Int) : Env := [(1, dV b), (2, .c (.ptr 0 0)), (4, .c (.ptr 1 0)), (6, mkV 2 (us.map levD)), (11, mkV (ixU us) (ls.map tmD)), (39, dV x.lD), (40, iV x.l.length), (41, iV k)]
def O79b (x : Tm) (us : List Lev) (ls : List Tm) : List O := .box (tmC x) :: .box (tmC zTm) :: (mkO 2 (us.map levD) ++ mkO 5 (ls.map tmD))
theorem mid79 (b : D) (x : Tm) (us : List Lev) (out : Option Out) (h : H79b ext 0 (E79b b x us [] 0) (O79b x us []) = out) : H79a ext 0 (E79a b x us x.u.length) (O79a x us) = out := by
  unfold H79b at h
  unfold H79a
  cases us with
  | nil =>
    simp only [tmC_z, tmC, dV, iV, E79a, O79a, E79b, O79b, ixU, List.map_nil, mkV_nil, mkO_nil, List.append_nil] at h ⊢
    (rw [show (It.code L79a) = It.code (sub B79 [1, 1, 0, 1, 0, 0]) from rfl]; simp only [B79, K79a, sub, Option.getD_some, Go.Proofs.Tryz.f79, ↓reduceIte, Nat.one_ne_zero])
    simp only [zS, nilEq, wantedA, opA, eff, boxA, cells, ev, gt, pt, putO, updO, setO, okC, loadA, cutC, fieldAddrA, fieldA, indexAddrA, indexA, builtinA, callOpA, callV, target, ptrV, lenS, binA, intOp, strOp, unA, num, lk, over, allocA, pickA, buildA, fillA, convertA, extractA, ofComp, nilCheckA, makeFuncA, ptrs, ofValue, cellB, Nat.reduceAdd, Nat.reduceSub, Nat.reduceMul, Nat.reduceLT, Nat.reduceLeDiff, Nat.reduceGT, ↓reduceIte, Nat.reduceEqDiff, Nat.reduceBEq, reduceCtorEq, Int.reduceBEq, Int.reduceBNe, Int.reduceLT, Int.reduceLE, Int.reduceGT, Int.reduceGE, aggT_33, sizeT_33, bytesT_33, fieldT_33_0, fieldT_33_1, fieldT_33_2, fieldT_33_3, fieldT_33_4, placesT_33, zeroT_33, aggT_31, sizeT_31, bytesT_31, und_31, elemT_31, isSliceT_31, zero1_31, zeroT_31, aggT_3, sizeT_3, bytesT_3, und_3, zero1_3, zeroT_3, lenA_lD, Int.lt_irrefl]
    (refine (r_inLoop_some ?_).trans h; kernel_rfl)
  | cons a r =>
    simp only [tmC_z, tmC, dV, iV, E79a, O79a, E79b, O79b, ixU, List.map_nil, List.map_cons, mkV_nil, mkO_nil, mkV_cons, mkO_cons, List.append_nil] at h ⊢
    (rw [show (It.code L79a) = It.code (sub B79 [1, 1, 0, 1, 0, 0]) from rfl]; simp only [B79, K79a, sub, Option.getD_some, Go.Proofs.Tryz.f79, ↓reduceIte, Nat.one_ne_zero])
    simp only [zS, nilEq, wantedA, opA, eff, boxA, cells, ev, gt, pt, putO, updO, setO, okC, loadA, cutC, fieldAddrA, fieldA, indexAddrA, indexA, builtinA, callOpA, callV, target, ptrV, lenS, binA, intOp, strOp, unA, num, lk, over, allocA, pickA, buildA, fillA, convertA, extractA, ofComp, nilCheckA, makeFuncA, ptrs, ofValue, cellB, Nat.reduceAdd, Nat.reduceSub, Nat.reduceMul, Nat.reduceLT, Nat.reduceLeDiff, Nat.reduceGT, ↓reduceIte, Nat.reduceEqDiff, Nat.reduceBEq, reduceCtorEq, Int.reduceBEq, Int.reduceBNe, Int.reduceLT, Int.reduceLE, Int.reduceGT, Int.reduceGE, aggT_33, sizeT_33, bytesT_33, fieldT_33_0, fieldT_33_1, fieldT_33_2, fieldT_33_3, fieldT_33_4, placesT_33, zeroT_33, aggT_31, sizeT_31, bytesT_31, und_31, elemT_31, isSliceT_31, zero1_31, zeroT_31, aggT_3, sizeT_3, bytesT_3, und_3, zero1_3, zeroT_3, lenA_lD, Int.lt_irrefl]
    (refine (r_inLoop_some ?_).trans h; kernel_rfl)
theorem step79b (b : D) (x t y : Tm) (us : List Lev) (ls : List Tm) (k : Nat) (hb : ls.length < 2 ^ 29) (hk : x.l[k]? = some t) (hl : (k : Int) < x.l.length) (hr : run Go.Proofs.Tryz.prog ext (.call 79 [tmV t, dV b] []) = some (.ret [tmV y, iV 0] [])) (out : Option Out)
    (h : H79b ext 0 (E79b b x us (ls ++ [y]) (wr ((k : Int) + 1))) (O79b x us (ls ++ [y])) = out) : H79b ext 0 (E79b b x us ls k) (O79b x us ls) = out := by
  have h0 : (0 : Int) ≤ k := by omega
  unfold H79b at h ⊢
  cases us with
  | nil =>
    cases ls with
    | nil =>
      simp only [tmV, tmC_z, tmC, dV, iV, E79b, O79b, ixU, lD_lt hl, List.map_append, List.map_cons, List.map_nil, mkV_snoc, mkO_snoc, mkV_nil, mkO_nil, List.nil_append, tmD_eq y] at h hr ⊢
      (rw [show (It.code L79b) = It.code (sub B79 [1, 1, 1, 1, 0, 1, 0, 0]) from rfl]; simp only [B79, K79b, sub, Option.getD_some, Go.Proofs.Tryz.f79, ↓reduceIte, Nat.one_ne_zero])
      simp only [zS, nilEq, wantedA, opA, eff, boxA, cells, ev, gt, pt, putO, updO, setO, okC, loadA, cutC, fieldAddrA, fieldA, indexAddrA, indexA, builtinA, callOpA, callV, target, ptrV, lenS, binA, intOp, strOp, unA, num, lk, over, allocA, pickA, buildA, fillA, convertA, extractA, ofComp, nilCheckA, makeFuncA, ptrs, ofValue, cellB, Nat.reduceAdd, Nat.reduceSub, Nat.reduceMul, Nat.reduceLT, Nat.reduceLeDiff, Nat.reduceGT, ↓reduceIte, Nat.reduceEqDiff, Nat.reduceBEq, reduceCtorEq, Int.reduceBEq, Int.reduceBNe, Int.reduceLT, Int.reduceLE, Int.reduceGT, Int.reduceGE, aggT_33, sizeT_33, bytesT_33, fieldT_33_0, fieldT_33_1, fieldT_33_2, fieldT_33_3, fieldT_33_4, placesT_33, zeroT_33, aggT_31, sizeT_31, bytesT_31, und_31, elemT_31, isSliceT_31, zero1_31, zeroT_31, aggT_3, sizeT_3, bytesT_3, und_3, zero1_3, zeroT_3, h0, hl, Int.toNat_natCast, hk, tmD_eq t, hr, callOut_vi, bsTm, no31, apH_arr, Nat.zero_le]
      (refine (r_inLoop_some ?_).trans h; kernel_rfl)
    | cons a r =>
      have hb' : r.length + 1 ≤ 1000000000 := by simp only [List.length_cons] at hb; omega
      simp only [tmV, tmC_z, tmC, dV, iV, E79b, O79b, ixU, lD_lt hl, List.map_append, List.map_cons, List.map_nil, mkV_snoc, mkO_snoc, mkV_nil, mkO_nil, mkV_cons, mkO_cons, List.cons_append, List.nil_append, tmD_eq y] at h hr ⊢
      (rw [show (It.code L79b) = It.code (sub B79 [1, 1, 1, 1, 0, 1, 0, 0]) from rfl]; simp only [B79, K79b, sub, Option.getD_some, Go.Proofs.Tryz.f79, ↓reduceIte, Nat.one_ne_zero])
      simp only [zS, nilEq, wantedA, opA, eff, boxA, cells, ev, gt, pt, putO, updO, setO, okC, loadA, cutC, fieldAddrA, fieldA, indexAddrA, indexA, builtinA, callOpA, callV, target, ptrV, lenS, binA, intOp, strOp, unA, num, lk, over, allocA, pickA, buildA, fillA, convertA, extractA, ofComp, nilCheckA, makeFuncA, ptrs, ofValue, cellB, Nat.reduceAdd, Nat.reduceSub, Nat.reduceMul, Nat.reduceLT, Nat.reduceLeDiff, Nat.reduceGT, ↓reduceIte, Nat.reduceEqDiff, Nat.reduceBEq, reduceCtorEq, Int.reduceBEq, Int.reduceBNe, Int.reduceLT, Int.reduceLE, Int.reduceGT, Int.reduceGE, aggT_33, sizeT_33, bytesT_33, fieldT_33_0, fieldT_33_1, fieldT_33_2, fieldT_33_3, fieldT_33_4, placesT_33, zeroT_33, aggT_31, sizeT_31, bytesT_31, und_31, elemT_31, isSliceT_31, zero1_31, zeroT_31, aggT_3, sizeT_3, bytesT_3, und_3, zero1_3, zeroT_3, h0, hl, Int.toNat_natCast, hk, tmD_eq t, hr, callOut_vi, bsTm, oo31, apG_arr, hb']
      (refine (r_inLoop_some ?_).trans h; kernel_rfl)
  | cons c us =>
    cases ls with
    | nil =>
      simp only [tmV, tmC_z, tmC, dV, iV, E79b, O79b, ixU, lD_lt hl, List.map_append, List.map_cons, List.map_nil, mkV_snoc, mkO_snoc, mkV_nil, mkO_nil, mkV_cons, mkO_cons, List.cons_append, List.nil_append, tmD_eq y] at h hr ⊢
      (rw [show (It.code L79b) = It.code (sub B79 [1, 1, 1, 1, 0, 1, 0, 0]) from rfl]; simp only [B79, K79b, sub, Option.getD_some, Go.Proofs.Tryz.f79, ↓reduceIte, Nat.one_ne_zero])
      simp only [zS, nilEq, wantedA, opA, eff, boxA, cells, ev, gt, pt, putO, updO, setO, okC, loadA, cutC, fieldAddrA, fieldA, indexAddrA, indexA, builtinA, callOpA, callV, target, ptrV, lenS, binA, intOp, strOp, unA, num, lk, over, allocA, pickA, buildA, fillA, convertA, extractA, ofComp, nilCheckA, makeFuncA, ptrs, ofValue, cellB, Nat.reduceAdd, Nat.reduceSub, Nat.reduceMul, Nat.reduceLT, Nat.reduceLeDiff, Nat.reduceGT, ↓reduceIte, Nat.reduceEqDiff, Nat.reduceBEq, reduceCtorEq, Int.reduceBEq, Int.reduceBNe, Int.reduceLT, Int.reduceLE, Int.reduceGT, Int.reduceGE, aggT_33, sizeT_33, bytesT_33, fieldT_33_0, fieldT_33_1, fieldT_33_2, fieldT_33_3, fieldT_33_4, placesT_33, zeroT_33, aggT_31, sizeT_31, bytesT_31, und_31, elemT_31, isSliceT_31, zero1_31, zeroT_31, aggT_3, sizeT_3, bytesT_3, und_3, zero1_3, zeroT_3, h0, hl, Int.toNat_natCast, hk, tmD_eq t, hr, callOut_vi, bsTm, no31, apH_arr, Nat.zero_le]
      (refine (r_inLoop_some ?_).trans h; kernel_rfl)
    | cons a r =>
      have hb' : r.length + 1 ≤ 1000000000 := by simp only [List.length_cons] at hb; omega
      simp only [tmV, tmC_z, tmC, dV, iV, E79b, O79b, ixU, lD_lt hl, List.map_append, List.map_cons, List.map_nil, mkV_snoc, mkO_snoc, mkV_cons, mkO_cons, List.cons_append, List.nil_append, tmD_eq y] at h hr ⊢
      (rw [show (It.code L79b) = It.code (sub B79 [1, 1, 1, 1, 0, 1, 0, 0]) from rfl]; simp only [B79, K79b, sub, Option.getD_some, Go.Proofs.Tryz.f79, ↓reduceIte, Nat.one_ne_zero])
      simp only [zS, nilEq, wantedA, opA, eff, boxA, cells, ev, gt, pt, putO, updO, setO, okC, loadA, cutC, fieldAddrA, fieldA, indexAddrA, indexA, builtinA, callOpA, callV, target, ptrV, lenS, binA, intOp, strOp, unA, num, lk, over, allocA, pickA, buildA, fillA, convertA, extractA, ofComp, nilCheckA, makeFuncA, ptrs, ofValue, cellB, Nat.reduceAdd, Nat.reduceSub, Nat.reduceMul, Nat.reduceLT, Nat.reduceLeDiff, Nat.reduceGT, ↓reduceIte, Nat.reduceEqDiff, Nat.reduceBEq, reduceCtorEq, Int.reduceBEq, Int.reduceBNe, Int.reduceLT, Int.reduceLE, Int.reduceGT, Int.reduceGE, aggT_33, sizeT_33, bytesT_33, fieldT_33_0, fieldT_33_1, fieldT_33_2, fieldT_33_3, fieldT_33_4, placesT_33, zeroT_33, aggT_31, sizeT_31, bytesT_31, und_31, elemT_31, isSliceT_31, zero1_31, zeroT_31, aggT_3, sizeT_3, bytesT_3, und_3, zero1_3, zeroT_3, h0, hl, Int.toNat_natCast, hk, tmD_eq t, hr, callOut_vi, bsTm, oo31, apG_arr, hb']
      (refine (r_inLoop_some ?_).trans h; kernel_rfl)
theorem bad79b (b : D) (x t y : Tm) (us : List Lev) (ls : List Tm) (e : Int) (k : Nat) (hk : x.l[k]? = some t) (hl : (k : Int) < x.l.length) (hr : run Go.Proofs.Tryz.prog ext (.call 79 [tmV t, dV b] []) = some (.ret [tmV y, iV e] [])) (he : ¬ e = 0) : H79b ext 0 (E79b b x us ls k) (O79b x us ls) = some (.ret [tmV zTm, iV e] []) := by
  have h0 : (0 : Int) ≤ k := by omega
  unfold H79b
  cases us <;> cases ls
  all_goals
    simp only [tmV, tmC_z, tmC, dV, iV, E79b, O79b, ixU, lD_lt hl, List.map_cons, List.map_nil, mkV_nil, mkO_nil, mkV_cons, mkO_cons, List.cons_append, List.nil_append] at hr ⊢
    (rw [show (It.code L79b) = It.code (sub B79 [1, 1, 1, 1, 0, 1, 0, 0]) from rfl]; simp only [B79, K79b, sub, Option.getD_some, Go.Proofs.Tryz.f79, ↓reduceIte, Nat.one_ne_zero])
    simp only [zS, nilEq, wantedA, opA, eff, boxA, cells, ev, gt, pt, putO, updO, setO, okC, loadA, cutC, fieldAddrA, fieldA, indexAddrA, indexA, builtinA, callOpA, callV, target, ptrV, lenS, binA, intOp, strOp, unA, num, lk, over, allocA, pickA, buildA, fillA, convertA, extractA, ofComp, nilCheckA, makeFuncA, ptrs, ofValue, cellB, Nat.reduceAdd, Nat.reduceSub, Nat.reduceMul, Nat.reduceLT, Nat.reduceLeDiff, Nat.reduceGT, ↓reduceIte, Nat.reduceEqDiff, Nat.reduceBEq, reduceCtorEq, Int.reduceBEq, Int.reduceBNe, Int.reduceLT, Int.reduceLE, Int.reduceGT, Int.reduceGE, aggT_33, sizeT_33, bytesT_33, fieldT_33_0, fieldT_33_1, fieldT_33_2, fieldT_33_3, fieldT_33_4, placesT_33, zeroT_33, aggT_31, sizeT_31, bytesT_31, und_31, elemT_31, isSliceT_31, zero1_31, zeroT_31, aggT_3, sizeT_3, bytesT_3, und_3, zero1_3, zeroT_3, aggT_27, sizeT_27, bytesT_27, und_27, zero1_27, zeroT_27, h0, hl, Int.toNat_natCast, hk, tmD_eq t, hr, callOut_vi, he]
    (refine Eq.trans ?_ rfl; kernel_rfl)
theorem done79b (b : D) (x : Tm) (us : List Lev) (ls : List Tm) : H79b ext 0 (E79b b x us ls x.l.length) (O79b x us ls) = some (.ret [tmV (.mk x.op x.n x.s us true ls true), iV 0] []) := by
  unfold H79b
  cases us <;> cases ls
  all_goals
    simp only [tmV, tmC_z, tmC, dV, iV, E79b, O79b, ixU, Tm.op, Tm.n, Tm.s, Tm.uD, Tm.lD, Tm.u, Tm.zu, Tm.l, Tm.zl, List.map_cons, List.map_nil, mkV_nil, mkO_nil, mkV_cons, mkO_cons, List.cons_append, List.nil_append]
    (rw [show (It.code L79b) = It.code (sub B79 [1, 1, 1, 1, 0, 1, 0, 0]) from rfl]; simp only [B79, K79b, sub, Option.getD_some, Go.Proofs.Tryz.f79, ↓reduceIte, Nat.one_ne_zero])
    simp only [zS, nilEq, wantedA, opA, eff, boxA, cells, ev, gt, pt, putO, updO, setO, okC, loadA, cutC, fieldAddrA, fieldA, indexAddrA, indexA, builtinA, callOpA, callV, target, ptrV, lenS, binA, intOp, strOp, unA, num, lk, over, allocA, pickA, buildA, fillA, convertA, extractA, ofComp, nilCheckA, makeFuncA, ptrs, ofValue, cellB, Nat.reduceAdd, Nat.reduceSub, Nat.reduceMul, Nat.reduceLT, Nat.reduceLeDiff, Nat.reduceGT, ↓reduceIte, Nat.reduceEqDiff, Nat.reduceBEq, reduceCtorEq, Int.reduceBEq, Int.reduceBNe, Int.reduceLT, Int.reduceLE, Int.reduceGT, Int.reduceGE, aggT_33, sizeT_33, bytesT_33, fieldT_33_0, fieldT_33_1, fieldT_33_2, fieldT_33_3, fieldT_33_4, placesT_33, zeroT_33, aggT_31, sizeT_31, bytesT_31, und_31, elemT_31, isSliceT_31, zero1_31, zeroT_31, aggT_30, sizeT_30, bytesT_30, und_30, elemT_30, isSliceT_30, zero1_30, zeroT_30, aggT_3, sizeT_3, bytesT_3, und_3, zero1_3, zeroT_3, Int.lt_irrefl]
    (refine Eq.trans ?_ rfl; kernel_rfl)
end Go.Proofs.YteenjodhmppgjaaGreatDoor.Am
end
section
/- SetLevels by the reference. -/
namespace Go.Proofs.YteenjodhmppgjaaGreatDoor.Am
open Go
variable (ext : Ext)
set_option maxHeartbeats 8000000
def E81a (b : D) (k : Int) : Env := [(1, dV b), (2, .c (.ptr 0 0)), (4, .c (.ptr 1 0)), (6, .c (.ptr 2 0)), (7, iV k)]
def E81b (b : D) (k : Int) : Env := [(1, dV b), (2, .c (.ptr 0 0)), (4, .c (.ptr 1 0)), (6, .c (.ptr 2 0)), (10, iV k)]
def mkC (i : Nat) : List (List D) → C
  | [] => .d (.v (.slice none 0 0))
  | _ :: _ => .own i
theorem mkC_nil (i : Nat) : mkC i [] = .d (.v (.slice none 0 0)) := rfl
theorem mkC_cons (i : Nat) (a : List D) (r : List (List D)) : mkC i (a :: r) = .own i := rfl
theorem mkC_snoc (i : Nat) (els : List (List D)) (x : List D) : mkC i (els ++ [x]) = .own i := by cases els <;> rfl
def O81 (x : Tm) (us : List Lev) (ls : List Tm) : List O :=
  .box (tmC x) :: .box (tmC zTm) :: .box [.d (.v (.int .i64 x.op)), .d (.v (.int .i64 x.n)), .d (.v (.string x.s)), mkC 3 (us.map levD), mkC (ixU us + 1) (ls.map tmD)] :: (mkO 2 (us.map levD) ++ mkO 5 (ls.map tmD))
theorem enter81 (hx : ext 81 = none) (b : D) (x : Tm) (out : Option Out) (h : H81a ext 0 (E81a b 0) (O81 x [] []) = out) : run Go.Proofs.Tryz.prog ext (.call 81 [tmV x, dV b] []) = out := by
  unfold H81a at h
  (rw [run_eq]; simp only [stepA, hx, Go.Proofs.Tryz.func81, Go.Proofs.Tryz.f81, show retF 81 = false from rfl]; simp only [List.length_cons, List.length_nil, Nat.reduceAdd, Nat.reduceLeDiff, Nat.zero_le, ↓reduceIte, List.zipIdx_cons, List.zipIdx_nil, List.map_cons, List.map_nil])
  simp only [tmV, tmC_z, tmC, dV, iV, E81a, O81, ixU, List.map_nil, mkC_nil, mkO_nil, List.append_nil] at h ⊢
  simp only [zS, nilEq, wantedA, opA, eff, boxA, cells, ev, gt, pt, putO, updO, setO, okC, loadA, cutC, fieldAddrA, fieldA, indexAddrA, indexA, builtinA, callOpA, callV, target, ptrV, lenS, binA, intOp, strOp, unA, num, lk, over, allocA, pickA, buildA, fillA, convertA, extractA, ofComp, nilCheckA, makeFuncA, ptrs, ofValue, cellB, Nat.reduceAdd, Nat.reduceSub, Nat.reduceMul, Nat.reduceLT, Nat.reduceLeDiff, Nat.reduceGT, ↓reduceIte, Nat.reduceEqDiff, Nat.reduceBEq, reduceCtorEq, Int.reduceBEq, Int.reduceBNe, Int.reduceLT, Int.reduceLE, Int.reduceGT, Int.reduceGE, aggT_33, sizeT_33, bytesT_33, fieldT_33_0, fieldT_33_1, fieldT_33_2, fieldT_33_3, fieldT_33_4, placesT_33, zeroT_33, aggT_30, sizeT_30, bytesT_30, und_30, elemT_30, isSliceT_30, zero1_30, zeroT_30, aggT_9, sizeT_9, bytesT_9, und_9, zero1_9, zeroT_9, aggT_3, sizeT_3, bytesT_3, und_3, zero1_3, zeroT_3, lenA_uD]
  (refine (r_inLoop_some ?_).trans h; kernel_rfl)
theorem step81a (b : D) (x : Tm) (u y : Lev) (us : List Lev) (k : Nat) (hb : us.length < 2 ^ 29) (hk : x.u[k]? = some u) (hl : (k : Int) < x.u.length) (hr : run Go.Proofs.Tryz.prog ext (.call 85 [levV u, dV b] []) = some (.ret [levV y, iV 0] [])) (out : Option Out)
    (h : H81a ext 0 (E81a b (wr ((k : Int) + 1))) (O81 x (us ++ [y]) []) = out) : H81a ext 0 (E81a b k) (O81 x us []) = out := by
  have h0 : (0 : Int) ≤ k := by omega
  unfold H81a at h ⊢
  cases us with
  | nil =>
    simp only [levV, levC, tmC_z, tmC, dV, iV, E81a, O81, ixU, uD_lt hl, List.map_append, List.map_cons, List.map_nil, mkC_nil, mkC_snoc, mkO_snoc, mkO_nil, List.nil_append, List.append_nil, levD_eq y] at h hr ⊢
    (rw [show (It.code L81a) = It.code (sub B81 [1, 1, 0, 1, 0, 0]) from rfl]; simp only [B81, K81a, sub, Option.getD_some, Go.Proofs.Tryz.f81, ↓reduceIte, Nat.one_ne_zero])
    simp only [zS, nilEq, wantedA, opA, eff, boxA, cells, ev, gt, pt, putO, updO, setO, okC, loadA, cutC, fieldAddrA, fieldA, indexAddrA, indexA, builtinA, callOpA, callV, target, ptrV, lenS, binA, intOp, strOp, unA, num, lk, over, allocA, pickA, buildA, fillA, convertA, extractA, ofComp, nilCheckA, makeFuncA, ptrs, ofValue, cellB, Nat.reduceAdd, Nat.reduceSub, Nat.reduceMul, Nat.reduceLT, Nat.reduceLeDiff, Nat.reduceGT, ↓reduceIte, Nat.reduceEqDiff, Nat.reduceBEq, reduceCtorEq, Int.reduceBEq, Int.reduceBNe, Int.reduceLT, Int.reduceLE, Int.reduceGT, Int.reduceGE, aggT_33, sizeT_33, bytesT_33, fieldT_33_0, fieldT_33_1, fieldT_33_2, fieldT_33_3, fieldT_33_4, placesT_33, zeroT_33, aggT_36, sizeT_36, bytesT_36, fieldT_36_0, fieldT_36_1, placesT_36, zeroT_36, aggT_30, sizeT_30, bytesT_30, und_30, elemT_30, isSliceT_30, zero1_30, zeroT_30, aggT_3, sizeT_3, bytesT_3, und_3, zero1_3, zeroT_3, lenA_uD, h0, hl, Int.toNat_natCast, hk, levD_eq u, hr, callOut_vi, bsLev, no30, apH_arr, Nat.zero_le]
    (refine (r_inLoop_some ?_).trans h; kernel_rfl)
  | cons a r =>
    have hb' : r.length + 1 ≤ 1000000000 := by simp only [List.length_cons] at hb; omega
    simp only [levV, levC, tmC_z, tmC, dV, iV, E81a, O81, ixU, uD_lt hl, List.map_append, List.map_cons, List.map_nil, mkC_nil, mkC_cons, mkC_snoc, mkO_snoc, mkO_nil, mkO_cons, List.cons_append, List.nil_append, List.append_nil, levD_eq y] at h hr ⊢
    (rw [show (It.code L81a) = It.code (sub B81 [1, 1, 0, 1, 0, 0]) from rfl]; simp only [B81, K81a, sub, Option.getD_some, Go.Proofs.Tryz.f81, ↓reduceIte, Nat.one_ne_zero])
    simp only [zS, nilEq, wantedA, opA, eff, boxA, cells, ev, gt, pt, putO, updO, setO, okC, loadA, cutC, fieldAddrA, fieldA, indexAddrA, indexA, builtinA, callOpA, callV, target, ptrV, lenS, binA, intOp, strOp, unA, num, lk, over, allocA, pickA, buildA, fillA, convertA, extractA, ofComp, nilCheckA, makeFuncA, ptrs, ofValue, cellB, Nat.reduceAdd, Nat.reduceSub, Nat.reduceMul, Nat.reduceLT, Nat.reduceLeDiff, Nat.reduceGT, ↓reduceIte, Nat.reduceEqDiff, Nat.reduceBEq, reduceCtorEq, Int.reduceBEq, Int.reduceBNe, Int.reduceLT, Int.reduceLE, Int.reduceGT, Int.reduceGE, aggT_33, sizeT_33, bytesT_33, fieldT_33_0, fieldT_33_1, fieldT_33_2, fieldT_33_3, fieldT_33_4, placesT_33, zeroT_33, aggT_36, sizeT_36, bytesT_36, fieldT_36_0, fieldT_36_1, placesT_36, zeroT_36, aggT_30, sizeT_30, bytesT_30, und_30, elemT_30, isSliceT_30, zero1_30, zeroT_30, aggT_3, sizeT_3, bytesT_3, und_3, zero1_3, zeroT_3, lenA_uD, h0, hl, Int.toNat_natCast, hk, levD_eq u, hr, callOut_vi, bsLev, oo30, apG_arr, hb']
    (refine (r_inLoop_some ?_).trans h; kernel_rfl)
theorem bad81a (b : D) (x : Tm) (u y : Lev) (us : List Lev) (e : Int) (k : Nat) (hk : x.u[k]? = some u) (hl : (k : Int) < x.u.length) (hr : run Go.Proofs.Tryz.prog ext (.call 85 [levV u, dV b] []) = some (.ret [levV y, iV e] [])) (he : ¬ e = 0) : H81a ext 0 (E81a b k) (O81 x us []) = some (.ret [tmV zTm, iV e] []) := by
  have h0 : (0 : Int) ≤ k := by omega
  unfold H81a
  cases us
  all_goals
    simp only [levV, levC, tmV, tmC_z, tmC, dV, iV, E81a, O81, ixU, uD_lt hl, List.map_cons, List.map_nil, mkC_nil, mkC_cons, mkO_nil, mkO_cons, List.cons_append, List.nil_append, List.append_nil] at hr ⊢
    (rw [show (It.code L81a) = It.code (sub B81 [1, 1, 0, 1, 0, 0]) from rfl]; simp only [B81, K81a, sub, Option.getD_some, Go.Proofs.Tryz.f81, ↓reduceIte, Nat.one_ne_zero])
    simp only [zS, nilEq, wantedA, opA, eff, boxA, cells, ev, gt, pt, putO, updO, setO, okC, loadA, cutC, fieldAddrA, fieldA, indexAddrA, indexA, builtinA, callOpA, callV, target, ptrV, lenS, binA, intOp, strOp, unA, num, lk, over, allocA, pickA, buildA, fillA, convertA, extractA, ofComp, nilCheckA, makeFuncA, ptrs, ofValue, cellB, Nat.reduceAdd, Nat.reduceSub, Nat.reduceMul, Nat.reduceLT, Nat.reduceLeDiff, Nat.reduceGT, ↓reduceIte, Nat.reduceEqDiff, Nat.reduceBEq, reduceCtorEq, Int.reduceBEq, Int.reduceBNe, Int.reduceLT, Int.reduceLE, Int.reduceGT, Int.reduceGE, aggT_33, sizeT_33, bytesT_33, fieldT_33_0, fieldT_33_1, fieldT_33_2, fieldT_33_3, fieldT_33_4, placesT_33, zeroT_33, aggT_36, sizeT_36, bytesT_36, fieldT_36_0, fieldT_36_1, placesT_36, zeroT_36, aggT_30, sizeT_30, bytesT_30, und_30, elemT_30, isSliceT_30, zero1_30, zeroT_30, aggT_3, sizeT_3, bytesT_3, und_3, zero1_3, zeroT_3, aggT_27, sizeT_27, bytesT_27, und_27, zero1_27, zeroT_27, lenA_uD, h0, hl, Int.toNat_natCast, hk, levD_eq u, hr, callOut_vi, he]
    (refine Eq.trans ?_ rfl; kernel_rfl)
theorem mid81 (b : D) (x : Tm) (us : List Lev) (out : Option Out) (h : H81b ext 0 (E81b b 0) (O81 x us []) = out) : H81a ext 0 (E81a b x.u.length) (O81 x us []) = out := by
  unfold H81b at h
  unfold H81a
  cases us
  all_goals
    simp only [tmC_z, tmC, dV, iV, E81a, E81b, O81, ixU, List.map_nil, List.map_cons, mkC_nil, mkC_cons, mkO_nil, mkO_cons, List.append_nil] at h ⊢
    (rw [show (It.code L81a) = It.code (sub B81 [1, 1, 0, 1, 0, 0]) from rfl]; simp only [B81, K81a, sub, Option.getD_some, Go.Proofs.Tryz.f81, ↓reduceIte, Nat.one_ne_zero])
    simp only [zS, nilEq, wantedA, opA, eff, boxA, cells, ev, gt, pt, putO, updO, setO, okC, loadA, cutC, fieldAddrA, fieldA, indexAddrA, indexA, builtinA, callOpA, callV, target, ptrV, lenS, binA, intOp, strOp, unA, num, lk, over, allocA, pickA, buildA, fillA, convertA, extractA, ofComp, nilCheckA, makeFuncA, ptrs, ofValue, cellB, Nat.reduceAdd, Nat.reduceSub, Nat.reduceMul, Nat.reduceLT, Nat.reduceLeDiff, Nat.reduceGT, ↓reduceIte, Nat.reduceEqDiff, Nat.reduceBEq, reduceCtorEq, Int.reduceBEq, Int.reduceBNe, Int.reduceLT, Int.reduceLE, Int.reduceGT, Int.reduceGE, aggT_33, sizeT_33, bytesT_33, fieldT_33_0, fieldT_33_1, fieldT_33_2, fieldT_33_3, fieldT_33_4, placesT_33, zeroT_33, aggT_30, sizeT_30, bytesT_30, und_30, elemT_30, isSliceT_30, zero1_30, zeroT_30, aggT_31, sizeT_31, bytesT_31, und_31, elemT_31, isSliceT_31, zero1_31, zeroT_31, aggT_3, sizeT_3, bytesT_3, und_3, zero1_3, zeroT_3, lenA_uD, lenA_lD, Int.lt_irrefl]
    (refine (r_inLoop_some ?_).trans h; kernel_rfl)
theorem step81b (b : D) (x t y : Tm) (us : List Lev) (ls : List Tm) (k : Nat) (hb : ls.length < 2 ^ 29) (hk : x.l[k]? = some t) (hl : (k : Int) < x.l.length) (hr : run Go.Proofs.Tryz.prog ext (.call 81 [tmV t, dV b] []) = some (.ret [tmV y, iV 0] [])) (out : Option Out)
    (h : H81b ext 0 (E81b b (wr ((k : Int) + 1))) (O81 x us (ls ++ [y])) = out) : H81b ext 0 (E81b b k) (O81 x us ls) = out := by
  have h0 : (0 : Int) ≤ k := by omega
  unfold H81b at h ⊢
  cases us with
  | nil =>
    cases ls with
    | nil =>
      simp only [tmV, tmC_z, tmC, dV, iV, E81b, O81, ixU, lD_lt hl, List.map_append, List.map_cons, List.map_nil, mkC_nil, mkC_cons, mkC_snoc, mkO_snoc, mkO_nil, mkO_cons, List.cons_append, List.nil_append, List.append_nil, tmD_eq y] at h hr ⊢
      (rw [show (It.code L81b) = It.code (sub B81 [1, 1, 1, 0, 1, 0, 0]) from rfl]; simp only [B81, K81b, sub, Option.getD_some, Go.Proofs.Tryz.f81, ↓reduceIte, Nat.one_ne_zero])
      simp only [zS, nilEq, wantedA, opA, eff, boxA, cells, ev, gt, pt, putO, updO, setO, okC, loadA, cutC, fieldAddrA, fieldA, indexAddrA, indexA, builtinA, callOpA, callV, target, ptrV, lenS, binA, intOp, strOp, unA, num, lk, over, allocA, pickA, buildA, fillA, convertA, extractA, ofComp, nilCheckA, makeFuncA, ptrs, ofValue, cellB, Nat.reduceAdd, Nat.reduceSub, Nat.reduceMul, Nat.reduceLT, Nat.reduceLeDiff, Nat.reduceGT, ↓reduceIte, Nat.reduceEqDiff, Nat.reduceBEq, reduceCtorEq, Int.reduceBEq, Int.reduceBNe, Int.reduceLT, Int.reduceLE, Int.reduceGT, Int.reduceGE, aggT_33, sizeT_33, bytesT_33, fieldT_33_0, fieldT_33_1, fieldT_33_2, fieldT_33_3, fieldT_33_4, placesT_33, zeroT_33, aggT_31, sizeT_31, bytesT_31, und_31, elemT_31, isSliceT_31, zero1_31, zeroT_31, aggT_3, sizeT_3, bytesT_3, und_3, zero1_3, zeroT_3, lenA_lD, h0, hl, Int.toNat_natCast, hk, tmD_eq t, hr, callOut_vi, bsTm, no31, apH_arr, Nat.zero_le]
      (refine (r_inLoop_some ?_).trans h; kernel_rfl)
    | cons a r =>
      have hb' : r.length + 1 ≤ 1000000000 := by simp only [List.length_cons] at hb; omega
      simp only [tmV, tmC_z, tmC, dV, iV, E81b, O81, ixU, lD_lt hl, List.map_append, List.map_cons, List.map_nil, mkC_nil, mkC_cons, mkC_snoc, mkO_snoc, mkO_nil, mkO_cons, List.cons_append, List.nil_append, List.append_nil, tmD_eq y] at h hr ⊢
      (rw [show (It.code L81b) = It.code (sub B81 [1, 1, 1, 0, 1, 0, 0]) from rfl]; simp only [B81, K81b, sub, Option.getD_some, Go.Proofs.Tryz.f81, ↓reduceIte, Nat.one_ne_zero])
      simp only [zS, nilEq, wantedA, opA, eff, boxA, cells, ev, gt, pt, putO, updO, setO, okC, loadA, cutC, fieldAddrA, fieldA, indexAddrA, indexA, builtinA, callOpA, callV, target, ptrV, lenS, binA, intOp, strOp, unA, num, lk, over, allocA, pickA, buildA, fillA, convertA, extractA, ofComp, nilCheckA, makeFuncA, ptrs, ofValue, cellB, Nat.reduceAdd, Nat.reduceSub, Nat.reduceMul, Nat.reduceLT, Nat.reduceLeDiff, Nat.reduceGT, ↓reduceIte, Nat.reduceEqDiff, Nat.reduceBEq, reduceCtorEq, Int.reduceBEq, Int.reduceBNe, Int.reduceLT, Int.reduceLE, Int.reduceGT, Int.reduceGE, aggT_33, sizeT_33, bytesT_33, fieldT_33_0, fieldT_33_1, fieldT_33_2, fieldT_33_3, fieldT_33_4, placesT_33, zeroT_33, aggT_31, sizeT_31, bytesT_31, und_31, elemT_31, isSliceT_31, zero1_31, zeroT_31, aggT_3, sizeT_3, bytesT_3, und_3, zero1_3, zeroT_3, lenA_lD, h0, hl, Int.toNat_natCast, hk, tmD_eq t, hr, callOut_vi, bsTm, oo31, apG_arr, hb']
      (refine (r_inLoop_some ?_).trans h; kernel_rfl)
  | cons c us =>
    cases ls with
    | nil =>
      simp only [tmV, tmC_z, tmC, dV, iV, E81b, O81, ixU, lD_lt hl, List.map_append, List.map_cons, List.map_nil, mkC_nil, mkC_cons, mkC_snoc, mkO_snoc, mkO_nil, mkO_cons, List.cons_append, List.nil_append, List.append_nil, tmD_eq y] at h hr ⊢
      (rw [show (It.code L81b) = It.code (sub B81 [1, 1, 1, 0, 1, 0, 0]) from rfl]; simp only [B81, K81b, sub, Option.getD_some, Go.Proofs.Tryz.f81, ↓reduceIte, Nat.one_ne_zero])
      simp only [zS, nilEq, wantedA, opA, eff, boxA, cells, ev, gt, pt, putO, updO, setO, okC, loadA, cutC, fieldAddrA, fieldA, indexAddrA, indexA, builtinA, callOpA, callV, target, ptrV, lenS, binA, intOp, strOp, unA, num, lk, over, allocA, pickA, buildA, fillA, convertA, extractA, ofComp, nilCheckA, makeFuncA, ptrs, ofValue, cellB, Nat.reduceAdd, Nat.reduceSub, Nat.reduceMul, Nat.reduceLT, Nat.reduceLeDiff, Nat.reduceGT, ↓reduceIte, Nat.reduceEqDiff, Nat.reduceBEq, reduceCtorEq, Int.reduceBEq, Int.reduceBNe, Int.reduceLT, Int.reduceLE, Int.reduceGT, Int.reduceGE, aggT_33, sizeT_33, bytesT_33, fieldT_33_0, fieldT_33_1, fieldT_33_2, fieldT_33_3, fieldT_33_4, placesT_33, zeroT_33, aggT_31, sizeT_31, bytesT_31, und_31, elemT_31, isSliceT_31, zero1_31, zeroT_31, aggT_3, sizeT_3, bytesT_3, und_3, zero1_3, zeroT_3, lenA_lD, h0, hl, Int.toNat_natCast, hk, tmD_eq t, hr, callOut_vi, bsTm, no31, apH_arr, Nat.zero_le]
      (refine (r_inLoop_some ?_).trans h; kernel_rfl)
    | cons a r =>
      have hb' : r.length + 1 ≤ 1000000000 := by simp only [List.length_cons] at hb; omega
      simp only [tmV, tmC_z, tmC, dV, iV, E81b, O81, ixU, lD_lt hl, List.map_append, List.map_cons, List.map_nil, mkC_nil, mkC_cons, mkC_snoc, mkO_snoc, mkO_nil, mkO_cons, List.cons_append, List.nil_append, List.append_nil, tmD_eq y] at h hr ⊢
      (rw [show (It.code L81b) = It.code (sub B81 [1, 1, 1, 0, 1, 0, 0]) from rfl]; simp only [B81, K81b, sub, Option.getD_some, Go.Proofs.Tryz.f81, ↓reduceIte, Nat.one_ne_zero])
      simp only [zS, nilEq, wantedA, opA, eff, boxA, cells, ev, gt, pt, putO, updO, setO, okC, loadA, cutC, fieldAddrA, fieldA, indexAddrA, indexA, builtinA, callOpA, callV, target, ptrV, lenS, binA, intOp, strOp, unA, num, lk, over, allocA, pickA, buildA, fillA, convertA, extractA, ofComp, nilCheckA, makeFuncA, ptrs, ofValue, cellB, Nat.reduceAdd, Nat.reduceSub, Nat.reduceMul, Nat.reduceLT, Nat.reduceLeDiff, Nat.reduceGT, ↓reduceIte, Nat.reduceEqDiff, Nat.reduceBEq, reduceCtorEq, Int.reduceBEq, Int.reduceBNe, Int.reduceLT, Int.reduceLE, Int.reduceGT, Int.reduceGE, aggT_33, sizeT_33, bytesT_33, fieldT_33_0, fieldT_33_1, fieldT_33_2, fieldT_33_3, fieldT_33_4, placesT_33, zeroT_33, aggT_31, sizeT_31, bytesT_31, und_31, elemT_31, isSliceT_31, zero1_31, zeroT_31, aggT_3, sizeT_3, bytesT_3, und_3, zero1_3, zeroT_3, lenA_lD, h0, hl, Int.toNat_natCast, hk, tmD_eq t, hr, callOut_vi, bsTm, oo31, apG_arr, hb']
      (refine (r_inLoop_some ?_).trans h; kernel_rfl)
theorem bad81b (b : D) (x t y : Tm) (us : List Lev) (ls : List Tm) (e : Int) (k : Nat) (hk : x.l[k]? = some t) (hl : (k : Int) < x.l.length) (hr : run Go.Proofs.Tryz.prog ext (.call 81 [tmV t, dV b] []) = some (.ret [tmV y, iV e] [])) (he : ¬ e = 0) : H81b ext 0 (E81b b k) (O81 x us ls) = some (.ret [tmV zTm, iV e] []) := by
  have h0 : (0 : Int) ≤ k := by omega
  unfold H81b
  cases us <;> cases ls
  all_goals
    simp only [tmV, tmC_z, tmC, dV, iV, E81b, O81, ixU, lD_lt hl, List.map_cons, List.map_nil, mkC_nil, mkC_cons, mkO_nil, mkO_cons, List.cons_append, List.nil_append, List.append_nil] at hr ⊢
    (rw [show (It.code L81b) = It.code (sub B81 [1, 1, 1, 0, 1, 0, 0]) from rfl]; simp only [B81, K81b, sub, Option.getD_some, Go.Proofs.Tryz.f81, ↓reduceIte, Nat.one_ne_zero])
    simp only [zS, nilEq, wantedA, opA, eff, boxA, cells, ev, gt, pt, putO, updO, setO, okC, loadA, cutC, fieldAddrA, fieldA, indexAddrA, indexA, builtinA, callOpA, callV, target, ptrV, lenS, binA, intOp, strOp, unA, num, lk, over, allocA, pickA, buildA, fillA, convertA, extractA, ofComp, nilCheckA, makeFuncA, ptrs, ofValue, cellB, Nat.reduceAdd, Nat.reduceSub, Nat.reduceMul, Nat.reduceLT, Nat.reduceLeDiff, Nat.reduceGT, ↓reduceIte, Nat.reduceEqDiff, Nat.reduceBEq, reduceCtorEq, Int.reduceBEq, Int.reduceBNe, Int.reduceLT, Int.reduceLE, Int.reduceGT, Int.reduceGE, aggT_33, sizeT_33, bytesT_33, fieldT_33_0, fieldT_33_1, fieldT_33_2, fieldT_33_3, fieldT_33_4, placesT_33, zeroT_33, aggT_31, sizeT_31, bytesT_31, und_31, elemT_31, isSliceT_31, zero1_31, zeroT_31, aggT_3, sizeT_3, bytesT_3, und_3, zero1_3, zeroT_3, aggT_27, sizeT_27, bytesT_27, und_27, zero1_27, zeroT_27, lenA_lD, h0, hl, Int.toNat_natCast, hk, tmD_eq t, hr, callOut_vi, he]
    (refine Eq.trans ?_ rfl; kernel_rfl)
theorem tmC_mk (a b : Int) (s : ByteArray) (u : List Lev) (zu : Bool) (l : List Tm) (zl : Bool) : tmC (.mk a b s u zu l zl) = [.d (.v (.int .i64 a)), .d (.v (.int .i64 b)), .d (.v (.string s)), .d (listD zu 2 (u.map levD)), .d (listD zl 5 (l.map tmD))] := rfl
theorem done81b (b : D) (x : Tm) (us : List Lev) (ls : List Tm) : H81b ext 0 (E81b b x.l.length) (O81 x us ls) = some (.ret [tmV (.mk x.op x.n x.s us true ls true), iV 0] []) := by
  unfold H81b
  cases us <;> cases ls
  all_goals
    simp only [tmV, tmC_mk, tmC_z, dV, iV, E81b, O81, ixU, List.map_cons, List.map_nil, mkC_nil, mkC_cons, mkO_nil, mkO_cons, List.cons_append, List.nil_append, List.append_nil]
    simp only [tmC]
    (rw [show (It.code L81b) = It.code (sub B81 [1, 1, 1, 0, 1, 0, 0]) from rfl]; simp only [B81, K81b, sub, Option.getD_some, Go.Proofs.Tryz.f81, ↓reduceIte, Nat.one_ne_zero])
    simp only [zS, nilEq, wantedA, opA, eff, boxA, cells, ev, gt, pt, putO, updO, setO, okC, loadA, cutC, fieldAddrA, fieldA, indexAddrA, indexA, builtinA, callOpA, callV, target, ptrV, lenS, binA, intOp, strOp, unA, num, lk, over, allocA, pickA, buildA, fillA, convertA, extractA, ofComp, nilCheckA, makeFuncA, ptrs, ofValue, cellB, Nat.reduceAdd, Nat.reduceSub, Nat.reduceMul, Nat.reduceLT, Nat.reduceLeDiff, Nat.reduceGT, ↓reduceIte, Nat.reduceEqDiff, Nat.reduceBEq, reduceCtorEq, Int.reduceBEq, Int.reduceBNe, Int.reduceLT, Int.reduceLE, Int.reduceGT, Int.reduceGE, aggT_33, sizeT_33, bytesT_33, fieldT_33_0, fieldT_33_1, fieldT_33_2, fieldT_33_3, fieldT_33_4, placesT_33, zeroT_33, aggT_31, sizeT_31, bytesT_31, und_31, elemT_31, isSliceT_31, zero1_31, zeroT_31, aggT_30, sizeT_30, bytesT_30, und_30, elemT_30, isSliceT_30, zero1_30, zeroT_30, aggT_3, sizeT_3, bytesT_3, und_3, zero1_3, zeroT_3, lenA_lD, Int.lt_irrefl]
    (refine Eq.trans ?_ rfl; kernel_rfl)
end Go.Proofs.YteenjodhmppgjaaGreatDoor.Am
end
section
/- SetLevels: what it answers. -/
namespace Go.Proofs.YteenjodhmppgjaaGreatDoor.Am
open Go
variable (ext : Ext)
set_option maxHeartbeats 8000000
theorem set79 (hx : ext 79 = none) (f : Lev → Lev × Int) (b : D) (hf : ∀ u : Lev, run Go.Proofs.Tryz.prog ext (.call 84 [levV u, dV b] []) = some (.ret [levV (f u).1, iV (f u).2] [])) :
    ∀ (N : Nat) (x : Tm), x.sz ≤ N → N < 2 ^ 29 → run Go.Proofs.Tryz.prog ext (.call 79 [tmV x, dV b] []) = some (.ret [tmV (setL f x).1, iV (setL f x).2] [])
  | 0, x, h, _ => by have := x.sz_pos; omega
  | N + 1, x, h, hN => by
    have hul := x.ulen_lt
    have hll := x.len_lt
    refine enter79 ext hx b x _ ?_
    have ha := loop_mapE f x.u (fun k us => H79a ext 0 (E79a b x us k) (O79a x us)) (fun e => some (.ret [tmV zTm, iV e] [])) (fun us => H79b ext 0 (E79b b x us [] 0) (O79b x us [])) (by omega) (fun k u us hk hl he => by
        have hr := hf u
        refine ⟨fun h0 out ho => ?_, fun h0 => ?_⟩
        · rw [h0] at hr
          exact step79a ext b x u _ us k (by omega) hk hl hr out ho
        · exact bad79a ext b x u _ us _ k hk hl hr h0) (fun us _ => mid79 ext b x us _ rfl)
    rw [ha, setL_eq]
    cases mapE f x.u with
    | inr e => rfl
    | inl us =>
      dsimp only
      have hb := loop_mapE (setL f) x.l (fun k ls => H79b ext 0 (E79b b x us ls k) (O79b x us ls)) (fun e => some (.ret [tmV zTm, iV e] [])) (fun ls => some (.ret [tmV (.mk x.op x.n x.s us true ls true), iV 0] [])) (by omega) (fun k t ls hk hl he => by
          have hr := set79 hx f b hf N t (by have := Tm.sz_lt (List.mem_of_getElem? hk); omega) (by omega)
          refine ⟨fun h0 out ho => ?_, fun h0 => ?_⟩
          · rw [h0] at hr
            exact step79b ext b x t _ us ls k (by omega) hk hl hr out ho
          · exact bad79b ext b x t _ us ls _ k hk hl hr h0) (fun ls _ => done79b ext b x us ls)
      rw [hb]
      cases mapE (setL f) x.l <;> rfl
theorem set81 (hx : ext 81 = none) (f : Lev → Lev × Int) (b : D) (hf : ∀ u : Lev, run Go.Proofs.Tryz.prog ext (.call 85 [levV u, dV b] []) = some (.ret [levV (f u).1, iV (f u).2] [])) :
    ∀ (N : Nat) (x : Tm), x.sz ≤ N → N < 2 ^ 29 → run Go.Proofs.Tryz.prog ext (.call 81 [tmV x, dV b] []) = some (.ret [tmV (setL f x).1, iV (setL f x).2] [])
  | 0, x, h, _ => by have := x.sz_pos; omega
  | N + 1, x, h, hN => by
    have hul := x.ulen_lt
    have hll := x.len_lt
    refine enter81 ext hx b x _ ?_
    have ha := loop_mapE f x.u (fun k us => H81a ext 0 (E81a b k) (O81 x us [])) (fun e => some (.ret [tmV zTm, iV e] [])) (fun us => H81b ext 0 (E81b b 0) (O81 x us [])) (by omega) (fun k u us hk hl he => by
        have hr := hf u
        refine ⟨fun h0 out ho => ?_, fun h0 => ?_⟩
        · rw [h0] at hr
          exact step81a ext b x u _ us k (by omega) hk hl hr out ho
        · exact bad81a ext b x u _ us _ k hk hl hr h0) (fun us _ => mid81 ext b x us _ rfl)
    rw [ha, setL_eq]
    cases mapE f x.u with
    | inr e => rfl
    | inl us =>
      dsimp only
      have hb := loop_mapE (setL f) x.l (fun k ls => H81b ext 0 (E81b b k) (O81 x us ls)) (fun e => some (.ret [tmV zTm, iV e] [])) (fun ls => some (.ret [tmV (.mk x.op x.n x.s us true ls true), iV 0] [])) (by omega) (fun k t ls hk hl he => by
          have hr := set81 hx f b hf N t (by have := Tm.sz_lt (List.mem_of_getElem? hk); omega) (by omega)
          refine ⟨fun h0 out ho => ?_, fun h0 => ?_⟩
          · rw [h0] at hr
            exact step81b ext b x t _ us ls k (by omega) hk hl hr out ho
          · exact bad81b ext b x t _ us ls _ k hk hl hr h0) (fun ls _ => done81b ext b x us ls)
      rw [hb]
      cases mapE (setL f) x.l <;> rfl
end Go.Proofs.YteenjodhmppgjaaGreatDoor.Am
end
section
/- TypeOf, BodyOf, by the program and by the reference. -/
namespace Go.Proofs.YteenjodhmppgjaaGreatDoor.Am
open Go
variable (ext : Ext)
set_option maxHeartbeats 8000000
def zL0 : Lev := ⟨0, [], true⟩
def zDc : Dc := ⟨⟨#[]⟩, 0, 0, zTm, zTm, zTm, zL0, zL0, [], true⟩
theorem callOut_vd (slot : Nat) (cs : List C) (x : Value) (h : cs.all dataC = true) : callOut [] [] slot (some (.ret [.agg cs, .c (.d (.v x))] [])) = some ⟨.val (.tup [(true, cs), (false, [.d (.v x)])]), [], []⟩ := by
  obtain ⟨_, _, h3⟩ := argCs_data (look := fun _ => none) h
  simp only [callOut, answer, mapO, renV, h3, renC, results1, comp, List.length_nil, Nat.lt_irrefl, if_false]
  split <;> rfl
theorem callOut_vdd (slot : Nat) (cs : List C) (x y : Value) (h : cs.all dataC = true) : callOut [] [] slot (some (.ret [.agg cs, .c (.d (.v x)), .c (.d (.v y))] [])) = some ⟨.val (.tup [(true, cs), (false, [.d (.v x)]), (false, [.d (.v y)])]), [], []⟩ := by
  obtain ⟨_, _, h3⟩ := argCs_data (look := fun _ => none) h
  simp only [callOut, answer, mapO, renV, h3, renC, results1, comp, List.length_nil, Nat.lt_irrefl, if_false]
  split <;> rfl
def thing (x : Tb) (s : ByteArray) : Dc × Bool := match x.ds.find? (isNm s) with
  | none => (zDc, false)
  | some d => if d.kind = 1 ∨ d.kind = 2 ∨ d.kind = 3 then (d, true) else (zDc, false)
theorem find_none {x : Tb} {s : ByteArray} (h : x.ds.find? (isNm s) = none) : find x s = -1 := by
  unfold find idxI
  have : x.ds.findIdx? (isNm s) = none := by
    rw [List.findIdx?_eq_none_iff]; rw [List.find?_eq_none] at h; intro y hy; simpa using h y hy
  rw [this]
theorem find_some' {x : Tb} {s : ByteArray} {d : Dc} (h : x.ds.find? (isNm s) = some d) : ∃ k : Nat, find x s = k ∧ x.ds[k]? = some d ∧ (k : Int) < x.ds.length := by
  unfold find idxI
  cases hk : x.ds.findIdx? (isNm s) with
  | none =>
    rw [List.findIdx?_eq_none_iff] at hk
    have := List.find?_some h
    rw [hk d (List.mem_of_find?_eq_some h)] at this; cases this
  | some k =>
    refine ⟨k, rfl, ?_, ?_⟩
    · have := List.findIdx?_eq_some_iff_getElem.1 hk
      obtain ⟨h1, h2, h3⟩ := this
      rw [List.find?_eq_some_iff_getElem] at h
      obtain ⟨h4, i, h5, h6, h7⟩ := h
      have : i = k := by
        rcases Nat.lt_trichotomy i k with hlt | heq | hgt
        · have := h3 i hlt; rw [h6] at this; exact absurd h4 this
        · exact heq
        · have := h7 k hgt; simp [h2] at this
      subst this
      simp [h5, h6]
    · have := (List.findIdx?_eq_some_iff_getElem.1 hk).1; omega
theorem constant78 (hx : ext 78 = none) (h22 : ext 22 = none) (h69 : ext 69 = none) (h70 : ext 70 = none) (x : Tb) (s : ByteArray) (hs : x.ds.length < 2 ^ 50) : run Go.Proofs.Tryz.prog ext (.call 78 [tbV x, sV s] []) = some (.ret [dcV (thing x s).1, bV (thing x s).2] []) := by
  have hr := find22 ext h22 h69 h70 x s hs
  unfold thing
  cases hf : x.ds.find? (isNm s) with
  | none =>
    rw [find_none hf] at hr
    (rw [run_eq]; simp only [stepA, hx, Go.Proofs.Tryz.func78, Go.Proofs.Tryz.f78, show retF 78 = false from rfl]; simp only [List.length_cons, List.length_nil, Nat.reduceAdd, Nat.reduceLeDiff, Nat.zero_le, ↓reduceIte, List.zipIdx_cons, List.zipIdx_nil, List.map_cons, List.map_nil])
    simp only [dcV, tbV, tbC, sV, iV, bV] at hr ⊢
    simp only [zS, nilEq, wantedA, opA, eff, boxA, cells, ev, gt, pt, putO, updO, setO, okC, loadA, cutC, fieldAddrA, fieldA, indexAddrA, indexA, builtinA, callOpA, callV, target, ptrV, lenS, binA, intOp, strOp, unA, num, lk, over, allocA, pickA, buildA, fillA, convertA, extractA, ofComp, nilCheckA, makeFuncA, ptrs, ofValue, cellB, Nat.reduceAdd, Nat.reduceSub, Nat.reduceMul, Nat.reduceLT, Nat.reduceLeDiff, Nat.reduceGT, ↓reduceIte, Nat.reduceEqDiff, Nat.reduceBEq, reduceCtorEq, Int.reduceBEq, Int.reduceBNe, Int.reduceLT, Int.reduceLE, Int.reduceGT, Int.reduceGE, aggT_24, sizeT_24, bytesT_24, fieldT_24_0, placesT_24, zeroT_24, aggT_39, sizeT_39, bytesT_39, fieldT_39_0, fieldT_39_1, fieldT_39_2, fieldT_39_3, fieldT_39_4, fieldT_39_5, fieldT_39_6, fieldT_39_7, fieldT_39_8, placesT_39, zeroT_39, aggT_22, sizeT_22, bytesT_22, und_22, elemT_22, isSliceT_22, zero1_22, zeroT_22, aggT_9, sizeT_9, bytesT_9, und_9, zero1_9, zeroT_9, aggT_3, sizeT_3, bytesT_3, und_3, zero1_3, zeroT_3, hr]
    (refine Eq.trans ?_ rfl; kernel_rfl)
  | some d =>
    obtain ⟨k, e1, hk, hl⟩ := find_some' hf
    have h0 : (0 : Int) ≤ k := by omega
    have h0' : ¬ ((k : Int) < 0) := by omega
    rw [e1] at hr
    dsimp only
    by_cases c1 : d.kind = 1
    · rw [if_pos (.inl c1)]
      (rw [run_eq]; simp only [stepA, hx, Go.Proofs.Tryz.func78, Go.Proofs.Tryz.f78, show retF 78 = false from rfl]; simp only [List.length_cons, List.length_nil, Nat.reduceAdd, Nat.reduceLeDiff, Nat.zero_le, ↓reduceIte, List.zipIdx_cons, List.zipIdx_nil, List.map_cons, List.map_nil])
      simp only [dcV, dcC, tbV, tbC, sV, iV, bV, dsD_lt h0 hl] at hr ⊢
      simp only [zS, nilEq, wantedA, opA, eff, boxA, cells, ev, gt, pt, putO, updO, setO, okC, loadA, cutC, fieldAddrA, fieldA, indexAddrA, indexA, builtinA, callOpA, callV, target, ptrV, lenS, binA, intOp, strOp, unA, num, lk, over, allocA, pickA, buildA, fillA, convertA, extractA, ofComp, nilCheckA, makeFuncA, ptrs, ofValue, cellB, Nat.reduceAdd, Nat.reduceSub, Nat.reduceMul, Nat.reduceLT, Nat.reduceLeDiff, Nat.reduceGT, ↓reduceIte, Nat.reduceEqDiff, Nat.reduceBEq, reduceCtorEq, Int.reduceBEq, Int.reduceBNe, Int.reduceLT, Int.reduceLE, Int.reduceGT, Int.reduceGE, aggT_24, sizeT_24, bytesT_24, fieldT_24_0, placesT_24, zeroT_24, aggT_39, sizeT_39, bytesT_39, fieldT_39_0, fieldT_39_1, fieldT_39_2, fieldT_39_3, fieldT_39_4, fieldT_39_5, fieldT_39_6, fieldT_39_7, fieldT_39_8, placesT_39, zeroT_39, aggT_22, sizeT_22, bytesT_22, und_22, elemT_22, isSliceT_22, zero1_22, zeroT_22, aggT_9, sizeT_9, bytesT_9, und_9, zero1_9, zeroT_9, aggT_3, sizeT_3, bytesT_3, und_3, zero1_3, zeroT_3, hr, h0, h0', hl, Int.toNat_natCast, hk, dcD_eq d, c1]
      (refine Eq.trans ?_ rfl; kernel_rfl)
    by_cases c2 : d.kind = 2
    · rw [if_pos (.inr (.inl c2))]
      (rw [run_eq]; simp only [stepA, hx, Go.Proofs.Tryz.func78, Go.Proofs.Tryz.f78, show retF 78 = false from rfl]; simp only [List.length_cons, List.length_nil, Nat.reduceAdd, Nat.reduceLeDiff, Nat.zero_le, ↓reduceIte, List.zipIdx_cons, List.zipIdx_nil, List.map_cons, List.map_nil])
      simp only [dcV, dcC, tbV, tbC, sV, iV, bV, dsD_lt h0 hl] at hr ⊢
      simp only [zS, nilEq, wantedA, opA, eff, boxA, cells, ev, gt, pt, putO, updO, setO, okC, loadA, cutC, fieldAddrA, fieldA, indexAddrA, indexA, builtinA, callOpA, callV, target, ptrV, lenS, binA, intOp, strOp, unA, num, lk, over, allocA, pickA, buildA, fillA, convertA, extractA, ofComp, nilCheckA, makeFuncA, ptrs, ofValue, cellB, Nat.reduceAdd, Nat.reduceSub, Nat.reduceMul, Nat.reduceLT, Nat.reduceLeDiff, Nat.reduceGT, ↓reduceIte, Nat.reduceEqDiff, Nat.reduceBEq, reduceCtorEq, Int.reduceBEq, Int.reduceBNe, Int.reduceLT, Int.reduceLE, Int.reduceGT, Int.reduceGE, aggT_24, sizeT_24, bytesT_24, fieldT_24_0, placesT_24, zeroT_24, aggT_39, sizeT_39, bytesT_39, fieldT_39_0, fieldT_39_1, fieldT_39_2, fieldT_39_3, fieldT_39_4, fieldT_39_5, fieldT_39_6, fieldT_39_7, fieldT_39_8, placesT_39, zeroT_39, aggT_22, sizeT_22, bytesT_22, und_22, elemT_22, isSliceT_22, zero1_22, zeroT_22, aggT_9, sizeT_9, bytesT_9, und_9, zero1_9, zeroT_9, aggT_3, sizeT_3, bytesT_3, und_3, zero1_3, zeroT_3, hr, h0, h0', hl, Int.toNat_natCast, hk, dcD_eq d, c2]
      (refine Eq.trans ?_ rfl; kernel_rfl)
    by_cases c3 : d.kind = 3
    · rw [if_pos (.inr (.inr c3))]
      (rw [run_eq]; simp only [stepA, hx, Go.Proofs.Tryz.func78, Go.Proofs.Tryz.f78, show retF 78 = false from rfl]; simp only [List.length_cons, List.length_nil, Nat.reduceAdd, Nat.reduceLeDiff, Nat.zero_le, ↓reduceIte, List.zipIdx_cons, List.zipIdx_nil, List.map_cons, List.map_nil])
      simp only [dcV, dcC, tbV, tbC, sV, iV, bV, dsD_lt h0 hl] at hr ⊢
      simp only [zS, nilEq, wantedA, opA, eff, boxA, cells, ev, gt, pt, putO, updO, setO, okC, loadA, cutC, fieldAddrA, fieldA, indexAddrA, indexA, builtinA, callOpA, callV, target, ptrV, lenS, binA, intOp, strOp, unA, num, lk, over, allocA, pickA, buildA, fillA, convertA, extractA, ofComp, nilCheckA, makeFuncA, ptrs, ofValue, cellB, Nat.reduceAdd, Nat.reduceSub, Nat.reduceMul, Nat.reduceLT, Nat.reduceLeDiff, Nat.reduceGT, ↓reduceIte, Nat.reduceEqDiff, Nat.reduceBEq, reduceCtorEq, Int.reduceBEq, Int.reduceBNe, Int.reduceLT, Int.reduceLE, Int.reduceGT, Int.reduceGE, aggT_24, sizeT_24, bytesT_24, fieldT_24_0, placesT_24, zeroT_24, aggT_39, sizeT_39, bytesT_39, fieldT_39_0, fieldT_39_1, fieldT_39_2, fieldT_39_3, fieldT_39_4, fieldT_39_5, fieldT_39_6, fieldT_39_7, fieldT_39_8, placesT_39, zeroT_39, aggT_22, sizeT_22, bytesT_22, und_22, elemT_22, isSliceT_22, zero1_22, zeroT_22, aggT_9, sizeT_9, bytesT_9, und_9, zero1_9, zeroT_9, aggT_3, sizeT_3, bytesT_3, und_3, zero1_3, zeroT_3, hr, h0, h0', hl, Int.toNat_natCast, hk, dcD_eq d, c3]
      (refine Eq.trans ?_ rfl; kernel_rfl)
    rw [if_neg (by rintro (h | h | h) <;> contradiction)]
    (rw [run_eq]; simp only [stepA, hx, Go.Proofs.Tryz.func78, Go.Proofs.Tryz.f78, show retF 78 = false from rfl]; simp only [List.length_cons, List.length_nil, Nat.reduceAdd, Nat.reduceLeDiff, Nat.zero_le, ↓reduceIte, List.zipIdx_cons, List.zipIdx_nil, List.map_cons, List.map_nil])
    simp only [dcV, tbV, tbC, sV, iV, bV, dsD_lt h0 hl] at hr ⊢
    simp only [zS, nilEq, wantedA, opA, eff, boxA, cells, ev, gt, pt, putO, updO, setO, okC, loadA, cutC, fieldAddrA, fieldA, indexAddrA, indexA, builtinA, callOpA, callV, target, ptrV, lenS, binA, intOp, strOp, unA, num, lk, over, allocA, pickA, buildA, fillA, convertA, extractA, ofComp, nilCheckA, makeFuncA, ptrs, ofValue, cellB, Nat.reduceAdd, Nat.reduceSub, Nat.reduceMul, Nat.reduceLT, Nat.reduceLeDiff, Nat.reduceGT, ↓reduceIte, Nat.reduceEqDiff, Nat.reduceBEq, reduceCtorEq, Int.reduceBEq, Int.reduceBNe, Int.reduceLT, Int.reduceLE, Int.reduceGT, Int.reduceGE, aggT_24, sizeT_24, bytesT_24, fieldT_24_0, placesT_24, zeroT_24, aggT_39, sizeT_39, bytesT_39, fieldT_39_0, fieldT_39_1, fieldT_39_2, fieldT_39_3, fieldT_39_4, fieldT_39_5, fieldT_39_6, fieldT_39_7, fieldT_39_8, placesT_39, zeroT_39, aggT_22, sizeT_22, bytesT_22, und_22, elemT_22, isSliceT_22, zero1_22, zeroT_22, aggT_9, sizeT_9, bytesT_9, und_9, zero1_9, zeroT_9, aggT_3, sizeT_3, bytesT_3, und_3, zero1_3, zeroT_3, hr, h0, h0', hl, Int.toNat_natCast, hk, dcD_eq d, c1, c2, c3]
    (refine Eq.trans ?_ rfl; kernel_rfl)
theorem thing80 (hx : ext 80 = none) (h37 : ext 37 = none) (x : Tb) (s : ByteArray) (hs : x.ds.length < 2 ^ 50) : run Go.Proofs.Tryz.prog ext (.call 80 [tbV x, sV s] []) = some (.ret [dcV (thing x s).1, bV (thing x s).2] []) := by
  have hr := find37 ext h37 x s hs
  unfold thing
  cases hf : x.ds.find? (isNm s) with
  | none =>
    rw [find_none hf] at hr
    (rw [run_eq]; simp only [stepA, hx, Go.Proofs.Tryz.func80, Go.Proofs.Tryz.f80, show retF 80 = false from rfl]; simp only [List.length_cons, List.length_nil, Nat.reduceAdd, Nat.reduceLeDiff, Nat.zero_le, ↓reduceIte, List.zipIdx_cons, List.zipIdx_nil, List.map_cons, List.map_nil])
    simp only [dcV, tbV, tbC, sV, iV, bV] at hr ⊢
    simp only [zS, nilEq, wantedA, opA, eff, boxA, cells, ev, gt, pt, putO, updO, setO, okC, loadA, cutC, fieldAddrA, fieldA, indexAddrA, indexA, builtinA, callOpA, callV, target, ptrV, lenS, binA, intOp, strOp, unA, num, lk, over, allocA, pickA, buildA, fillA, convertA, extractA, ofComp, nilCheckA, makeFuncA, ptrs, ofValue, cellB, Nat.reduceAdd, Nat.reduceSub, Nat.reduceMul, Nat.reduceLT, Nat.reduceLeDiff, Nat.reduceGT, ↓reduceIte, Nat.reduceEqDiff, Nat.reduceBEq, reduceCtorEq, Int.reduceBEq, Int.reduceBNe, Int.reduceLT, Int.reduceLE, Int.reduceGT, Int.reduceGE, aggT_24, sizeT_24, bytesT_24, fieldT_24_0, placesT_24, zeroT_24, aggT_39, sizeT_39, bytesT_39, fieldT_39_0, fieldT_39_1, fieldT_39_2, fieldT_39_3, fieldT_39_4, fieldT_39_5, fieldT_39_6, fieldT_39_7, fieldT_39_8, placesT_39, zeroT_39, aggT_22, sizeT_22, bytesT_22, und_22, elemT_22, isSliceT_22, zero1_22, zeroT_22, aggT_9, sizeT_9, bytesT_9, und_9, zero1_9, zeroT_9, aggT_3, sizeT_3, bytesT_3, und_3, zero1_3, zeroT_3, hr]
    (refine Eq.trans ?_ rfl; kernel_rfl)
  | some d =>
    obtain ⟨k, e1, hk, hl⟩ := find_some' hf
    have h0 : (0 : Int) ≤ k := by omega
    have h0' : ¬ ((k : Int) < 0) := by omega
    rw [e1] at hr
    dsimp only
    by_cases c1 : d.kind = 1
    · rw [if_pos (.inl c1)]
      (rw [run_eq]; simp only [stepA, hx, Go.Proofs.Tryz.func80, Go.Proofs.Tryz.f80, show retF 80 = false from rfl]; simp only [List.length_cons, List.length_nil, Nat.reduceAdd, Nat.reduceLeDiff, Nat.zero_le, ↓reduceIte, List.zipIdx_cons, List.zipIdx_nil, List.map_cons, List.map_nil])
      simp only [dcV, dcC, tbV, tbC, sV, iV, bV, dsD_lt h0 hl] at hr ⊢
      simp only [zS, nilEq, wantedA, opA, eff, boxA, cells, ev, gt, pt, putO, updO, setO, okC, loadA, cutC, fieldAddrA, fieldA, indexAddrA, indexA, builtinA, callOpA, callV, target, ptrV, lenS, binA, intOp, strOp, unA, num, lk, over, allocA, pickA, buildA, fillA, convertA, extractA, ofComp, nilCheckA, makeFuncA, ptrs, ofValue, cellB, Nat.reduceAdd, Nat.reduceSub, Nat.reduceMul, Nat.reduceLT, Nat.reduceLeDiff, Nat.reduceGT, ↓reduceIte, Nat.reduceEqDiff, Nat.reduceBEq, reduceCtorEq, Int.reduceBEq, Int.reduceBNe, Int.reduceLT, Int.reduceLE, Int.reduceGT, Int.reduceGE, aggT_24, sizeT_24, bytesT_24, fieldT_24_0, placesT_24, zeroT_24, aggT_39, sizeT_39, bytesT_39, fieldT_39_0, fieldT_39_1, fieldT_39_2, fieldT_39_3, fieldT_39_4, fieldT_39_5, fieldT_39_6, fieldT_39_7, fieldT_39_8, placesT_39, zeroT_39, aggT_22, sizeT_22, bytesT_22, und_22, elemT_22, isSliceT_22, zero1_22, zeroT_22, aggT_9, sizeT_9, bytesT_9, und_9, zero1_9, zeroT_9, aggT_3, sizeT_3, bytesT_3, und_3, zero1_3, zeroT_3, hr, h0, h0', hl, Int.toNat_natCast, hk, dcD_eq d, c1]
      (refine Eq.trans ?_ rfl; kernel_rfl)
    by_cases c2 : d.kind = 2
    · rw [if_pos (.inr (.inl c2))]
      (rw [run_eq]; simp only [stepA, hx, Go.Proofs.Tryz.func80, Go.Proofs.Tryz.f80, show retF 80 = false from rfl]; simp only [List.length_cons, List.length_nil, Nat.reduceAdd, Nat.reduceLeDiff, Nat.zero_le, ↓reduceIte, List.zipIdx_cons, List.zipIdx_nil, List.map_cons, List.map_nil])
      simp only [dcV, dcC, tbV, tbC, sV, iV, bV, dsD_lt h0 hl] at hr ⊢
      simp only [zS, nilEq, wantedA, opA, eff, boxA, cells, ev, gt, pt, putO, updO, setO, okC, loadA, cutC, fieldAddrA, fieldA, indexAddrA, indexA, builtinA, callOpA, callV, target, ptrV, lenS, binA, intOp, strOp, unA, num, lk, over, allocA, pickA, buildA, fillA, convertA, extractA, ofComp, nilCheckA, makeFuncA, ptrs, ofValue, cellB, Nat.reduceAdd, Nat.reduceSub, Nat.reduceMul, Nat.reduceLT, Nat.reduceLeDiff, Nat.reduceGT, ↓reduceIte, Nat.reduceEqDiff, Nat.reduceBEq, reduceCtorEq, Int.reduceBEq, Int.reduceBNe, Int.reduceLT, Int.reduceLE, Int.reduceGT, Int.reduceGE, aggT_24, sizeT_24, bytesT_24, fieldT_24_0, placesT_24, zeroT_24, aggT_39, sizeT_39, bytesT_39, fieldT_39_0, fieldT_39_1, fieldT_39_2, fieldT_39_3, fieldT_39_4, fieldT_39_5, fieldT_39_6, fieldT_39_7, fieldT_39_8, placesT_39, zeroT_39, aggT_22, sizeT_22, bytesT_22, und_22, elemT_22, isSliceT_22, zero1_22, zeroT_22, aggT_9, sizeT_9, bytesT_9, und_9, zero1_9, zeroT_9, aggT_3, sizeT_3, bytesT_3, und_3, zero1_3, zeroT_3, hr, h0, h0', hl, Int.toNat_natCast, hk, dcD_eq d, c2]
      (refine Eq.trans ?_ rfl; kernel_rfl)
    by_cases c3 : d.kind = 3
    · rw [if_pos (.inr (.inr c3))]
      (rw [run_eq]; simp only [stepA, hx, Go.Proofs.Tryz.func80, Go.Proofs.Tryz.f80, show retF 80 = false from rfl]; simp only [List.length_cons, List.length_nil, Nat.reduceAdd, Nat.reduceLeDiff, Nat.zero_le, ↓reduceIte, List.zipIdx_cons, List.zipIdx_nil, List.map_cons, List.map_nil])
      simp only [dcV, dcC, tbV, tbC, sV, iV, bV, dsD_lt h0 hl] at hr ⊢
      simp only [zS, nilEq, wantedA, opA, eff, boxA, cells, ev, gt, pt, putO, updO, setO, okC, loadA, cutC, fieldAddrA, fieldA, indexAddrA, indexA, builtinA, callOpA, callV, target, ptrV, lenS, binA, intOp, strOp, unA, num, lk, over, allocA, pickA, buildA, fillA, convertA, extractA, ofComp, nilCheckA, makeFuncA, ptrs, ofValue, cellB, Nat.reduceAdd, Nat.reduceSub, Nat.reduceMul, Nat.reduceLT, Nat.reduceLeDiff, Nat.reduceGT, ↓reduceIte, Nat.reduceEqDiff, Nat.reduceBEq, reduceCtorEq, Int.reduceBEq, Int.reduceBNe, Int.reduceLT, Int.reduceLE, Int.reduceGT, Int.reduceGE, aggT_24, sizeT_24, bytesT_24, fieldT_24_0, placesT_24, zeroT_24, aggT_39, sizeT_39, bytesT_39, fieldT_39_0, fieldT_39_1, fieldT_39_2, fieldT_39_3, fieldT_39_4, fieldT_39_5, fieldT_39_6, fieldT_39_7, fieldT_39_8, placesT_39, zeroT_39, aggT_22, sizeT_22, bytesT_22, und_22, elemT_22, isSliceT_22, zero1_22, zeroT_22, aggT_9, sizeT_9, bytesT_9, und_9, zero1_9, zeroT_9, aggT_3, sizeT_3, bytesT_3, und_3, zero1_3, zeroT_3, hr, h0, h0', hl, Int.toNat_natCast, hk, dcD_eq d, c3]
      (refine Eq.trans ?_ rfl; kernel_rfl)
    rw [if_neg (by rintro (h | h | h) <;> contradiction)]
    (rw [run_eq]; simp only [stepA, hx, Go.Proofs.Tryz.func80, Go.Proofs.Tryz.f80, show retF 80 = false from rfl]; simp only [List.length_cons, List.length_nil, Nat.reduceAdd, Nat.reduceLeDiff, Nat.zero_le, ↓reduceIte, List.zipIdx_cons, List.zipIdx_nil, List.map_cons, List.map_nil])
    simp only [dcV, tbV, tbC, sV, iV, bV, dsD_lt h0 hl] at hr ⊢
    simp only [zS, nilEq, wantedA, opA, eff, boxA, cells, ev, gt, pt, putO, updO, setO, okC, loadA, cutC, fieldAddrA, fieldA, indexAddrA, indexA, builtinA, callOpA, callV, target, ptrV, lenS, binA, intOp, strOp, unA, num, lk, over, allocA, pickA, buildA, fillA, convertA, extractA, ofComp, nilCheckA, makeFuncA, ptrs, ofValue, cellB, Nat.reduceAdd, Nat.reduceSub, Nat.reduceMul, Nat.reduceLT, Nat.reduceLeDiff, Nat.reduceGT, ↓reduceIte, Nat.reduceEqDiff, Nat.reduceBEq, reduceCtorEq, Int.reduceBEq, Int.reduceBNe, Int.reduceLT, Int.reduceLE, Int.reduceGT, Int.reduceGE, aggT_24, sizeT_24, bytesT_24, fieldT_24_0, placesT_24, zeroT_24, aggT_39, sizeT_39, bytesT_39, fieldT_39_0, fieldT_39_1, fieldT_39_2, fieldT_39_3, fieldT_39_4, fieldT_39_5, fieldT_39_6, fieldT_39_7, fieldT_39_8, placesT_39, zeroT_39, aggT_22, sizeT_22, bytesT_22, und_22, elemT_22, isSliceT_22, zero1_22, zeroT_22, aggT_9, sizeT_9, bytesT_9, und_9, zero1_9, zeroT_9, aggT_3, sizeT_3, bytesT_3, und_3, zero1_3, zeroT_3, hr, h0, h0', hl, Int.toNat_natCast, hk, dcD_eq d, c1, c2, c3]
    (refine Eq.trans ?_ rfl; kernel_rfl)
end Go.Proofs.YteenjodhmppgjaaGreatDoor.Am
end
section
/- TypeOf, BodyOf. -/
namespace Go.Proofs.YteenjodhmppgjaaGreatDoor.Am
open Go
variable (ext : Ext)
set_option maxHeartbeats 8000000
def typeOf (f : Lev → Lev × Int) (x : Tb) (s : ByteArray) (n : Nat) : Tm × Int :=
  if (thing x s).2 = true then if (n : Int) = (thing x s).1.levels then setL f (thing x s).1.type else (zTm, 42) else (zTm, 3)
def bodyOf (f : Lev → Lev × Int) (x : Tb) (s : ByteArray) (n : Nat) : Tm × Bool × Int :=
  if (thing x s).2 = true then if (n : Int) = (thing x s).1.levels then if (thing x s).1.kind = 1 then ((setL f (thing x s).1.body).1, (setL f (thing x s).1.body).2 == 0, (setL f (thing x s).1.body).2) else (zTm, false, 0) else (zTm, false, 42) else (zTm, false, 3)
theorem type32 (hx : ext 32 = none) (f : Lev → Lev × Int) (x : Tb) (s : ByteArray) (z : Bool) (l : List Lev) (ht : run Go.Proofs.Tryz.prog ext (.call 78 [tbV x, sV s] []) = some (.ret [dcV (thing x s).1, bV (thing x s).2] []))
    (hr : run Go.Proofs.Tryz.prog ext (.call 79 [tmV (thing x s).1.type, dV (listD z 2 (l.map levD))] []) = some (.ret [tmV (setL f (thing x s).1.type).1, iV (setL f (thing x s).1.type).2] [])) :
    run Go.Proofs.Tryz.prog ext (.call 32 [tbV x, sV s, dV (listD z 2 (l.map levD))] []) = some (.ret [tmV (typeOf f x s l.length).1, iV (typeOf f x s l.length).2] []) := by
  unfold typeOf
  generalize thing x s = p at ht hr ⊢
  obtain ⟨d, b⟩ := p
  cases b with
  | false =>
    (rw [run_eq]; simp only [stepA, hx, Go.Proofs.Tryz.func32, Go.Proofs.Tryz.f32, show retF 32 = false from rfl]; simp only [List.length_cons, List.length_nil, Nat.reduceAdd, Nat.reduceLeDiff, Nat.zero_le, ↓reduceIte, List.zipIdx_cons, List.zipIdx_nil, List.map_cons, List.map_nil])
    simp only [dcV, dcC, tbV, tbC, tmV, tmC_z, tmC, sV, iV, bV, dV] at ht ⊢
    simp only [zS, nilEq, wantedA, opA, eff, boxA, cells, ev, gt, pt, putO, updO, setO, okC, loadA, cutC, fieldAddrA, fieldA, indexAddrA, indexA, builtinA, callOpA, callV, target, ptrV, lenS, binA, intOp, strOp, unA, num, lk, over, allocA, pickA, buildA, fillA, convertA, extractA, ofComp, nilCheckA, makeFuncA, ptrs, ofValue, cellB, Nat.reduceAdd, Nat.reduceSub, Nat.reduceMul, Nat.reduceLT, Nat.reduceLeDiff, Nat.reduceGT, ↓reduceIte, Nat.reduceEqDiff, Nat.reduceBEq, reduceCtorEq, Int.reduceBEq, Int.reduceBNe, Int.reduceLT, Int.reduceLE, Int.reduceGT, Int.reduceGE, aggT_24, sizeT_24, bytesT_24, fieldT_24_0, placesT_24, zeroT_24, aggT_39, sizeT_39, bytesT_39, fieldT_39_0, fieldT_39_1, fieldT_39_2, fieldT_39_3, fieldT_39_4, fieldT_39_5, fieldT_39_6, fieldT_39_7, fieldT_39_8, placesT_39, zeroT_39, aggT_33, sizeT_33, bytesT_33, fieldT_33_0, fieldT_33_1, fieldT_33_2, fieldT_33_3, fieldT_33_4, placesT_33, zeroT_33, aggT_30, sizeT_30, bytesT_30, und_30, elemT_30, isSliceT_30, zero1_30, zeroT_30, aggT_27, sizeT_27, bytesT_27, und_27, zero1_27, zeroT_27, aggT_9, sizeT_9, bytesT_9, und_9, zero1_9, zeroT_9, aggT_3, sizeT_3, bytesT_3, und_3, zero1_3, zeroT_3, ht, callOut_vd]
    (refine Eq.trans ?_ rfl; kernel_rfl)
  | true =>
    rw [if_pos rfl]
    by_cases c : (l.length : Int) = d.levels
    · rw [if_pos c]
      generalize setL f d.type = q at hr ⊢
      (rw [run_eq]; simp only [stepA, hx, Go.Proofs.Tryz.func32, Go.Proofs.Tryz.f32, show retF 32 = false from rfl]; simp only [List.length_cons, List.length_nil, Nat.reduceAdd, Nat.reduceLeDiff, Nat.zero_le, ↓reduceIte, List.zipIdx_cons, List.zipIdx_nil, List.map_cons, List.map_nil])
      simp only [dcV, dcC, tbV, tbC, tmV, tmC, sV, iV, bV, dV] at ht hr ⊢
      simp only [zS, nilEq, wantedA, opA, eff, boxA, cells, ev, gt, pt, putO, updO, setO, okC, loadA, cutC, fieldAddrA, fieldA, indexAddrA, indexA, builtinA, callOpA, callV, target, ptrV, lenS, binA, intOp, strOp, unA, num, lk, over, allocA, pickA, buildA, fillA, convertA, extractA, ofComp, nilCheckA, makeFuncA, ptrs, ofValue, cellB, Nat.reduceAdd, Nat.reduceSub, Nat.reduceMul, Nat.reduceLT, Nat.reduceLeDiff, Nat.reduceGT, ↓reduceIte, Nat.reduceEqDiff, Nat.reduceBEq, reduceCtorEq, Int.reduceBEq, Int.reduceBNe, Int.reduceLT, Int.reduceLE, Int.reduceGT, Int.reduceGE, aggT_24, sizeT_24, bytesT_24, fieldT_24_0, placesT_24, zeroT_24, aggT_39, sizeT_39, bytesT_39, fieldT_39_0, fieldT_39_1, fieldT_39_2, fieldT_39_3, fieldT_39_4, fieldT_39_5, fieldT_39_6, fieldT_39_7, fieldT_39_8, placesT_39, zeroT_39, aggT_33, sizeT_33, bytesT_33, fieldT_33_0, fieldT_33_1, fieldT_33_2, fieldT_33_3, fieldT_33_4, placesT_33, zeroT_33, aggT_30, sizeT_30, bytesT_30, und_30, elemT_30, isSliceT_30, zero1_30, zeroT_30, aggT_27, sizeT_27, bytesT_27, und_27, zero1_27, zeroT_27, aggT_9, sizeT_9, bytesT_9, und_9, zero1_9, zeroT_9, aggT_3, sizeT_3, bytesT_3, und_3, zero1_3, zeroT_3, ht, callOut_vd, c, hr]
      (refine Eq.trans ?_ rfl; kernel_rfl)
    · rw [if_neg c]
      (rw [run_eq]; simp only [stepA, hx, Go.Proofs.Tryz.func32, Go.Proofs.Tryz.f32, show retF 32 = false from rfl]; simp only [List.length_cons, List.length_nil, Nat.reduceAdd, Nat.reduceLeDiff, Nat.zero_le, ↓reduceIte, List.zipIdx_cons, List.zipIdx_nil, List.map_cons, List.map_nil])
      simp only [dcV, dcC, tbV, tbC, tmV, tmC_z, tmC, sV, iV, bV, dV] at ht ⊢
      simp only [zS, nilEq, wantedA, opA, eff, boxA, cells, ev, gt, pt, putO, updO, setO, okC, loadA, cutC, fieldAddrA, fieldA, indexAddrA, indexA, builtinA, callOpA, callV, target, ptrV, lenS, binA, intOp, strOp, unA, num, lk, over, allocA, pickA, buildA, fillA, convertA, extractA, ofComp, nilCheckA, makeFuncA, ptrs, ofValue, cellB, Nat.reduceAdd, Nat.reduceSub, Nat.reduceMul, Nat.reduceLT, Nat.reduceLeDiff, Nat.reduceGT, ↓reduceIte, Nat.reduceEqDiff, Nat.reduceBEq, reduceCtorEq, Int.reduceBEq, Int.reduceBNe, Int.reduceLT, Int.reduceLE, Int.reduceGT, Int.reduceGE, aggT_24, sizeT_24, bytesT_24, fieldT_24_0, placesT_24, zeroT_24, aggT_39, sizeT_39, bytesT_39, fieldT_39_0, fieldT_39_1, fieldT_39_2, fieldT_39_3, fieldT_39_4, fieldT_39_5, fieldT_39_6, fieldT_39_7, fieldT_39_8, placesT_39, zeroT_39, aggT_33, sizeT_33, bytesT_33, fieldT_33_0, fieldT_33_1, fieldT_33_2, fieldT_33_3, fieldT_33_4, placesT_33, zeroT_33, aggT_30, sizeT_30, bytesT_30, und_30, elemT_30, isSliceT_30, zero1_30, zeroT_30, aggT_27, sizeT_27, bytesT_27, und_27, zero1_27, zeroT_27, aggT_9, sizeT_9, bytesT_9, und_9, zero1_9, zeroT_9, aggT_3, sizeT_3, bytesT_3, und_3, zero1_3, zeroT_3, ht, callOut_vd, c]
      (refine Eq.trans ?_ rfl; kernel_rfl)
theorem type33 (hx : ext 33 = none) (f : Lev → Lev × Int) (x : Tb) (s : ByteArray) (z : Bool) (l : List Lev) (ht : run Go.Proofs.Tryz.prog ext (.call 80 [tbV x, sV s] []) = some (.ret [dcV (thing x s).1, bV (thing x s).2] []))
    (hr : run Go.Proofs.Tryz.prog ext (.call 81 [tmV (thing x s).1.type, dV (listD z 2 (l.map levD))] []) = some (.ret [tmV (setL f (thing x s).1.type).1, iV (setL f (thing x s).1.type).2] [])) :
    run Go.Proofs.Tryz.prog ext (.call 33 [tbV x, sV s, dV (listD z 2 (l.map levD))] []) = some (.ret [tmV (typeOf f x s l.length).1, iV (typeOf f x s l.length).2] []) := by
  unfold typeOf
  generalize thing x s = p at ht hr ⊢
  obtain ⟨d, b⟩ := p
  cases b with
  | false =>
    (rw [run_eq]; simp only [stepA, hx, Go.Proofs.Tryz.func33, Go.Proofs.Tryz.f33, show retF 33 = false from rfl]; simp only [List.length_cons, List.length_nil, Nat.reduceAdd, Nat.reduceLeDiff, Nat.zero_le, ↓reduceIte, List.zipIdx_cons, List.zipIdx_nil, List.map_cons, List.map_nil])
    simp only [dcV, dcC, tbV, tbC, tmV, tmC_z, tmC, sV, iV, bV, dV] at ht ⊢
    simp only [zS, nilEq, wantedA, opA, eff, boxA, cells, ev, gt, pt, putO, updO, setO, okC, loadA, cutC, fieldAddrA, fieldA, indexAddrA, indexA, builtinA, callOpA, callV, target, ptrV, lenS, binA, intOp, strOp, unA, num, lk, over, allocA, pickA, buildA, fillA, convertA, extractA, ofComp, nilCheckA, makeFuncA, ptrs, ofValue, cellB, Nat.reduceAdd, Nat.reduceSub, Nat.reduceMul, Nat.reduceLT, Nat.reduceLeDiff, Nat.reduceGT, ↓reduceIte, Nat.reduceEqDiff, Nat.reduceBEq, reduceCtorEq, Int.reduceBEq, Int.reduceBNe, Int.reduceLT, Int.reduceLE, Int.reduceGT, Int.reduceGE, aggT_24, sizeT_24, bytesT_24, fieldT_24_0, placesT_24, zeroT_24, aggT_39, sizeT_39, bytesT_39, fieldT_39_0, fieldT_39_1, fieldT_39_2, fieldT_39_3, fieldT_39_4, fieldT_39_5, fieldT_39_6, fieldT_39_7, fieldT_39_8, placesT_39, zeroT_39, aggT_33, sizeT_33, bytesT_33, fieldT_33_0, fieldT_33_1, fieldT_33_2, fieldT_33_3, fieldT_33_4, placesT_33, zeroT_33, aggT_30, sizeT_30, bytesT_30, und_30, elemT_30, isSliceT_30, zero1_30, zeroT_30, aggT_27, sizeT_27, bytesT_27, und_27, zero1_27, zeroT_27, aggT_9, sizeT_9, bytesT_9, und_9, zero1_9, zeroT_9, aggT_3, sizeT_3, bytesT_3, und_3, zero1_3, zeroT_3, ht, callOut_vd]
    (refine Eq.trans ?_ rfl; kernel_rfl)
  | true =>
    rw [if_pos rfl]
    by_cases c : (l.length : Int) = d.levels
    · rw [if_pos c]
      generalize setL f d.type = q at hr ⊢
      (rw [run_eq]; simp only [stepA, hx, Go.Proofs.Tryz.func33, Go.Proofs.Tryz.f33, show retF 33 = false from rfl]; simp only [List.length_cons, List.length_nil, Nat.reduceAdd, Nat.reduceLeDiff, Nat.zero_le, ↓reduceIte, List.zipIdx_cons, List.zipIdx_nil, List.map_cons, List.map_nil])
      simp only [dcV, dcC, tbV, tbC, tmV, tmC, sV, iV, bV, dV] at ht hr ⊢
      simp only [zS, nilEq, wantedA, opA, eff, boxA, cells, ev, gt, pt, putO, updO, setO, okC, loadA, cutC, fieldAddrA, fieldA, indexAddrA, indexA, builtinA, callOpA, callV, target, ptrV, lenS, binA, intOp, strOp, unA, num, lk, over, allocA, pickA, buildA, fillA, convertA, extractA, ofComp, nilCheckA, makeFuncA, ptrs, ofValue, cellB, Nat.reduceAdd, Nat.reduceSub, Nat.reduceMul, Nat.reduceLT, Nat.reduceLeDiff, Nat.reduceGT, ↓reduceIte, Nat.reduceEqDiff, Nat.reduceBEq, reduceCtorEq, Int.reduceBEq, Int.reduceBNe, Int.reduceLT, Int.reduceLE, Int.reduceGT, Int.reduceGE, aggT_24, sizeT_24, bytesT_24, fieldT_24_0, placesT_24, zeroT_24, aggT_39, sizeT_39, bytesT_39, fieldT_39_0, fieldT_39_1, fieldT_39_2, fieldT_39_3, fieldT_39_4, fieldT_39_5, fieldT_39_6, fieldT_39_7, fieldT_39_8, placesT_39, zeroT_39, aggT_33, sizeT_33, bytesT_33, fieldT_33_0, fieldT_33_1, fieldT_33_2, fieldT_33_3, fieldT_33_4, placesT_33, zeroT_33, aggT_30, sizeT_30, bytesT_30, und_30, elemT_30, isSliceT_30, zero1_30, zeroT_30, aggT_27, sizeT_27, bytesT_27, und_27, zero1_27, zeroT_27, aggT_9, sizeT_9, bytesT_9, und_9, zero1_9, zeroT_9, aggT_3, sizeT_3, bytesT_3, und_3, zero1_3, zeroT_3, ht, callOut_vd, c, hr]
      (refine Eq.trans ?_ rfl; kernel_rfl)
    · rw [if_neg c]
      (rw [run_eq]; simp only [stepA, hx, Go.Proofs.Tryz.func33, Go.Proofs.Tryz.f33, show retF 33 = false from rfl]; simp only [List.length_cons, List.length_nil, Nat.reduceAdd, Nat.reduceLeDiff, Nat.zero_le, ↓reduceIte, List.zipIdx_cons, List.zipIdx_nil, List.map_cons, List.map_nil])
      simp only [dcV, dcC, tbV, tbC, tmV, tmC_z, tmC, sV, iV, bV, dV] at ht ⊢
      simp only [zS, nilEq, wantedA, opA, eff, boxA, cells, ev, gt, pt, putO, updO, setO, okC, loadA, cutC, fieldAddrA, fieldA, indexAddrA, indexA, builtinA, callOpA, callV, target, ptrV, lenS, binA, intOp, strOp, unA, num, lk, over, allocA, pickA, buildA, fillA, convertA, extractA, ofComp, nilCheckA, makeFuncA, ptrs, ofValue, cellB, Nat.reduceAdd, Nat.reduceSub, Nat.reduceMul, Nat.reduceLT, Nat.reduceLeDiff, Nat.reduceGT, ↓reduceIte, Nat.reduceEqDiff, Nat.reduceBEq, reduceCtorEq, Int.reduceBEq, Int.reduceBNe, Int.reduceLT, Int.reduceLE, Int.reduceGT, Int.reduceGE, aggT_24, sizeT_24, bytesT_24, fieldT_24_0, placesT_24, zeroT_24, aggT_39, sizeT_39, bytesT_39, fieldT_39_0, fieldT_39_1, fieldT_39_2, fieldT_39_3, fieldT_39_4, fieldT_39_5, fieldT_39_6, fieldT_39_7, fieldT_39_8, placesT_39, zeroT_39, aggT_33, sizeT_33, bytesT_33, fieldT_33_0, fieldT_33_1, fieldT_33_2, fieldT_33_3, fieldT_33_4, placesT_33, zeroT_33, aggT_30, sizeT_30, bytesT_30, und_30, elemT_30, isSliceT_30, zero1_30, zeroT_30, aggT_27, sizeT_27, bytesT_27, und_27, zero1_27, zeroT_27, aggT_9, sizeT_9, bytesT_9, und_9, zero1_9, zeroT_9, aggT_3, sizeT_3, bytesT_3, und_3, zero1_3, zeroT_3, ht, callOut_vd, c]
      (refine Eq.trans ?_ rfl; kernel_rfl)
theorem body34 (hx : ext 34 = none) (f : Lev → Lev × Int) (x : Tb) (s : ByteArray) (z : Bool) (l : List Lev) (ht : run Go.Proofs.Tryz.prog ext (.call 78 [tbV x, sV s] []) = some (.ret [dcV (thing x s).1, bV (thing x s).2] []))
    (hr : run Go.Proofs.Tryz.prog ext (.call 79 [tmV (thing x s).1.body, dV (listD z 2 (l.map levD))] []) = some (.ret [tmV (setL f (thing x s).1.body).1, iV (setL f (thing x s).1.body).2] [])) :
    run Go.Proofs.Tryz.prog ext (.call 34 [tbV x, sV s, dV (listD z 2 (l.map levD))] []) = some (.ret [tmV (bodyOf f x s l.length).1, bV (bodyOf f x s l.length).2.1, iV (bodyOf f x s l.length).2.2] []) := by
  unfold bodyOf
  generalize thing x s = p at ht hr ⊢
  obtain ⟨d, b⟩ := p
  cases b with
  | false =>
    (rw [run_eq]; simp only [stepA, hx, Go.Proofs.Tryz.func34, Go.Proofs.Tryz.f34, show retF 34 = false from rfl]; simp only [List.length_cons, List.length_nil, Nat.reduceAdd, Nat.reduceLeDiff, Nat.zero_le, ↓reduceIte, List.zipIdx_cons, List.zipIdx_nil, List.map_cons, List.map_nil])
    simp only [dcV, dcC, tbV, tbC, tmV, tmC_z, tmC, sV, iV, bV, dV] at ht ⊢
    simp only [zS, nilEq, wantedA, opA, eff, boxA, cells, ev, gt, pt, putO, updO, setO, okC, loadA, cutC, fieldAddrA, fieldA, indexAddrA, indexA, builtinA, callOpA, callV, target, ptrV, lenS, binA, intOp, strOp, unA, num, lk, over, allocA, pickA, buildA, fillA, convertA, extractA, ofComp, nilCheckA, makeFuncA, ptrs, ofValue, cellB, Nat.reduceAdd, Nat.reduceSub, Nat.reduceMul, Nat.reduceLT, Nat.reduceLeDiff, Nat.reduceGT, ↓reduceIte, Nat.reduceEqDiff, Nat.reduceBEq, reduceCtorEq, Int.reduceBEq, Int.reduceBNe, Int.reduceLT, Int.reduceLE, Int.reduceGT, Int.reduceGE, aggT_24, sizeT_24, bytesT_24, fieldT_24_0, placesT_24, zeroT_24, aggT_39, sizeT_39, bytesT_39, fieldT_39_0, fieldT_39_1, fieldT_39_2, fieldT_39_3, fieldT_39_4, fieldT_39_5, fieldT_39_6, fieldT_39_7, fieldT_39_8, placesT_39, zeroT_39, aggT_33, sizeT_33, bytesT_33, fieldT_33_0, fieldT_33_1, fieldT_33_2, fieldT_33_3, fieldT_33_4, placesT_33, zeroT_33, aggT_30, sizeT_30, bytesT_30, und_30, elemT_30, isSliceT_30, zero1_30, zeroT_30, aggT_27, sizeT_27, bytesT_27, und_27, zero1_27, zeroT_27, aggT_9, sizeT_9, bytesT_9, und_9, zero1_9, zeroT_9, aggT_3, sizeT_3, bytesT_3, und_3, zero1_3, zeroT_3, ht, callOut_vd]
    (refine Eq.trans ?_ rfl; kernel_rfl)
  | true =>
    rw [if_pos rfl]
    by_cases c : (l.length : Int) = d.levels
    · rw [if_pos c]
      by_cases e : d.kind = 1
      · rw [if_pos e]
        generalize setL f d.body = q at hr ⊢
        (rw [run_eq]; simp only [stepA, hx, Go.Proofs.Tryz.func34, Go.Proofs.Tryz.f34, show retF 34 = false from rfl]; simp only [List.length_cons, List.length_nil, Nat.reduceAdd, Nat.reduceLeDiff, Nat.zero_le, ↓reduceIte, List.zipIdx_cons, List.zipIdx_nil, List.map_cons, List.map_nil])
        simp only [dcV, dcC, tbV, tbC, tmV, tmC, sV, iV, bV, dV] at ht hr ⊢
        simp only [zS, nilEq, wantedA, opA, eff, boxA, cells, ev, gt, pt, putO, updO, setO, okC, loadA, cutC, fieldAddrA, fieldA, indexAddrA, indexA, builtinA, callOpA, callV, target, ptrV, lenS, binA, intOp, strOp, unA, num, lk, over, allocA, pickA, buildA, fillA, convertA, extractA, ofComp, nilCheckA, makeFuncA, ptrs, ofValue, cellB, Nat.reduceAdd, Nat.reduceSub, Nat.reduceMul, Nat.reduceLT, Nat.reduceLeDiff, Nat.reduceGT, ↓reduceIte, Nat.reduceEqDiff, Nat.reduceBEq, reduceCtorEq, Int.reduceBEq, Int.reduceBNe, Int.reduceLT, Int.reduceLE, Int.reduceGT, Int.reduceGE, aggT_24, sizeT_24, bytesT_24, fieldT_24_0, placesT_24, zeroT_24, aggT_39, sizeT_39, bytesT_39, fieldT_39_0, fieldT_39_1, fieldT_39_2, fieldT_39_3, fieldT_39_4, fieldT_39_5, fieldT_39_6, fieldT_39_7, fieldT_39_8, placesT_39, zeroT_39, aggT_33, sizeT_33, bytesT_33, fieldT_33_0, fieldT_33_1, fieldT_33_2, fieldT_33_3, fieldT_33_4, placesT_33, zeroT_33, aggT_30, sizeT_30, bytesT_30, und_30, elemT_30, isSliceT_30, zero1_30, zeroT_30, aggT_27, sizeT_27, bytesT_27, und_27, zero1_27, zeroT_27, aggT_9, sizeT_9, bytesT_9, und_9, zero1_9, zeroT_9, aggT_3, sizeT_3, bytesT_3, und_3, zero1_3, zeroT_3, ht, callOut_vd, c, e, hr]
        (refine Eq.trans ?_ rfl; kernel_rfl)
      · rw [if_neg e]
        (rw [run_eq]; simp only [stepA, hx, Go.Proofs.Tryz.func34, Go.Proofs.Tryz.f34, show retF 34 = false from rfl]; simp only [List.length_cons, List.length_nil, Nat.reduceAdd, Nat.reduceLeDiff, Nat.zero_le, ↓reduceIte, List.zipIdx_cons, List.zipIdx_nil, List.map_cons, List.map_nil])
        simp only [dcV, dcC, tbV, tbC, tmV, tmC_z, tmC, sV, iV, bV, dV] at ht ⊢
        simp only [zS, nilEq, wantedA, opA, eff, boxA, cells, ev, gt, pt, putO, updO, setO, okC, loadA, cutC, fieldAddrA, fieldA, indexAddrA, indexA, builtinA, callOpA, callV, target, ptrV, lenS, binA, intOp, strOp, unA, num, lk, over, allocA, pickA, buildA, fillA, convertA, extractA, ofComp, nilCheckA, makeFuncA, ptrs, ofValue, cellB, Nat.reduceAdd, Nat.reduceSub, Nat.reduceMul, Nat.reduceLT, Nat.reduceLeDiff, Nat.reduceGT, ↓reduceIte, Nat.reduceEqDiff, Nat.reduceBEq, reduceCtorEq, Int.reduceBEq, Int.reduceBNe, Int.reduceLT, Int.reduceLE, Int.reduceGT, Int.reduceGE, aggT_24, sizeT_24, bytesT_24, fieldT_24_0, placesT_24, zeroT_24, aggT_39, sizeT_39, bytesT_39, fieldT_39_0, fieldT_39_1, fieldT_39_2, fieldT_39_3, fieldT_39_4, fieldT_39_5, fieldT_39_6, fieldT_39_7, fieldT_39_8, placesT_39, zeroT_39, aggT_33, sizeT_33, bytesT_33, fieldT_33_0, fieldT_33_1, fieldT_33_2, fieldT_33_3, fieldT_33_4, placesT_33, zeroT_33, aggT_30, sizeT_30, bytesT_30, und_30, elemT_30, isSliceT_30, zero1_30, zeroT_30, aggT_27, sizeT_27, bytesT_27, und_27, zero1_27, zeroT_27, aggT_9, sizeT_9, bytesT_9, und_9, zero1_9, zeroT_9, aggT_3, sizeT_3, bytesT_3, und_3, zero1_3, zeroT_3, ht, callOut_vd, c, e]
        (refine Eq.trans ?_ rfl; kernel_rfl)
    · rw [if_neg c]
      (rw [run_eq]; simp only [stepA, hx, Go.Proofs.Tryz.func34, Go.Proofs.Tryz.f34, show retF 34 = false from rfl]; simp only [List.length_cons, List.length_nil, Nat.reduceAdd, Nat.reduceLeDiff, Nat.zero_le, ↓reduceIte, List.zipIdx_cons, List.zipIdx_nil, List.map_cons, List.map_nil])
      simp only [dcV, dcC, tbV, tbC, tmV, tmC_z, tmC, sV, iV, bV, dV] at ht ⊢
      simp only [zS, nilEq, wantedA, opA, eff, boxA, cells, ev, gt, pt, putO, updO, setO, okC, loadA, cutC, fieldAddrA, fieldA, indexAddrA, indexA, builtinA, callOpA, callV, target, ptrV, lenS, binA, intOp, strOp, unA, num, lk, over, allocA, pickA, buildA, fillA, convertA, extractA, ofComp, nilCheckA, makeFuncA, ptrs, ofValue, cellB, Nat.reduceAdd, Nat.reduceSub, Nat.reduceMul, Nat.reduceLT, Nat.reduceLeDiff, Nat.reduceGT, ↓reduceIte, Nat.reduceEqDiff, Nat.reduceBEq, reduceCtorEq, Int.reduceBEq, Int.reduceBNe, Int.reduceLT, Int.reduceLE, Int.reduceGT, Int.reduceGE, aggT_24, sizeT_24, bytesT_24, fieldT_24_0, placesT_24, zeroT_24, aggT_39, sizeT_39, bytesT_39, fieldT_39_0, fieldT_39_1, fieldT_39_2, fieldT_39_3, fieldT_39_4, fieldT_39_5, fieldT_39_6, fieldT_39_7, fieldT_39_8, placesT_39, zeroT_39, aggT_33, sizeT_33, bytesT_33, fieldT_33_0, fieldT_33_1, fieldT_33_2, fieldT_33_3, fieldT_33_4, placesT_33, zeroT_33, aggT_30, sizeT_30, bytesT_30, und_30, elemT_30, isSliceT_30, zero1_30, zeroT_30, aggT_27, sizeT_27, bytesT_27, und_27, zero1_27, zeroT_27, aggT_9, sizeT_9, bytesT_9, und_9, zero1_9, zeroT_9, aggT_3, sizeT_3, bytesT_3, und_3, zero1_3, zeroT_3, ht, callOut_vd, c]
      (refine Eq.trans ?_ rfl; kernel_rfl)
theorem body35 (hx : ext 35 = none) (f : Lev → Lev × Int) (x : Tb) (s : ByteArray) (z : Bool) (l : List Lev) (ht : run Go.Proofs.Tryz.prog ext (.call 80 [tbV x, sV s] []) = some (.ret [dcV (thing x s).1, bV (thing x s).2] []))
    (hr : run Go.Proofs.Tryz.prog ext (.call 81 [tmV (thing x s).1.body, dV (listD z 2 (l.map levD))] []) = some (.ret [tmV (setL f (thing x s).1.body).1, iV (setL f (thing x s).1.body).2] [])) :
    run Go.Proofs.Tryz.prog ext (.call 35 [tbV x, sV s, dV (listD z 2 (l.map levD))] []) = some (.ret [tmV (bodyOf f x s l.length).1, bV (bodyOf f x s l.length).2.1, iV (bodyOf f x s l.length).2.2] []) := by
  unfold bodyOf
  generalize thing x s = p at ht hr ⊢
  obtain ⟨d, b⟩ := p
  cases b with
  | false =>
    (rw [run_eq]; simp only [stepA, hx, Go.Proofs.Tryz.func35, Go.Proofs.Tryz.f35, show retF 35 = false from rfl]; simp only [List.length_cons, List.length_nil, Nat.reduceAdd, Nat.reduceLeDiff, Nat.zero_le, ↓reduceIte, List.zipIdx_cons, List.zipIdx_nil, List.map_cons, List.map_nil])
    simp only [dcV, dcC, tbV, tbC, tmV, tmC_z, tmC, sV, iV, bV, dV] at ht ⊢
    simp only [zS, nilEq, wantedA, opA, eff, boxA, cells, ev, gt, pt, putO, updO, setO, okC, loadA, cutC, fieldAddrA, fieldA, indexAddrA, indexA, builtinA, callOpA, callV, target, ptrV, lenS, binA, intOp, strOp, unA, num, lk, over, allocA, pickA, buildA, fillA, convertA, extractA, ofComp, nilCheckA, makeFuncA, ptrs, ofValue, cellB, Nat.reduceAdd, Nat.reduceSub, Nat.reduceMul, Nat.reduceLT, Nat.reduceLeDiff, Nat.reduceGT, ↓reduceIte, Nat.reduceEqDiff, Nat.reduceBEq, reduceCtorEq, Int.reduceBEq, Int.reduceBNe, Int.reduceLT, Int.reduceLE, Int.reduceGT, Int.reduceGE, aggT_24, sizeT_24, bytesT_24, fieldT_24_0, placesT_24, zeroT_24, aggT_39, sizeT_39, bytesT_39, fieldT_39_0, fieldT_39_1, fieldT_39_2, fieldT_39_3, fieldT_39_4, fieldT_39_5, fieldT_39_6, fieldT_39_7, fieldT_39_8, placesT_39, zeroT_39, aggT_33, sizeT_33, bytesT_33, fieldT_33_0, fieldT_33_1, fieldT_33_2, fieldT_33_3, fieldT_33_4, placesT_33, zeroT_33, aggT_30, sizeT_30, bytesT_30, und_30, elemT_30, isSliceT_30, zero1_30, zeroT_30, aggT_27, sizeT_27, bytesT_27, und_27, zero1_27, zeroT_27, aggT_9, sizeT_9, bytesT_9, und_9, zero1_9, zeroT_9, aggT_3, sizeT_3, bytesT_3, und_3, zero1_3, zeroT_3, ht, callOut_vd]
    (refine Eq.trans ?_ rfl; kernel_rfl)
  | true =>
    rw [if_pos rfl]
    by_cases c : (l.length : Int) = d.levels
    · rw [if_pos c]
      by_cases e : d.kind = 1
      · rw [if_pos e]
        generalize setL f d.body = q at hr ⊢
        (rw [run_eq]; simp only [stepA, hx, Go.Proofs.Tryz.func35, Go.Proofs.Tryz.f35, show retF 35 = false from rfl]; simp only [List.length_cons, List.length_nil, Nat.reduceAdd, Nat.reduceLeDiff, Nat.zero_le, ↓reduceIte, List.zipIdx_cons, List.zipIdx_nil, List.map_cons, List.map_nil])
        simp only [dcV, dcC, tbV, tbC, tmV, tmC, sV, iV, bV, dV] at ht hr ⊢
        simp only [zS, nilEq, wantedA, opA, eff, boxA, cells, ev, gt, pt, putO, updO, setO, okC, loadA, cutC, fieldAddrA, fieldA, indexAddrA, indexA, builtinA, callOpA, callV, target, ptrV, lenS, binA, intOp, strOp, unA, num, lk, over, allocA, pickA, buildA, fillA, convertA, extractA, ofComp, nilCheckA, makeFuncA, ptrs, ofValue, cellB, Nat.reduceAdd, Nat.reduceSub, Nat.reduceMul, Nat.reduceLT, Nat.reduceLeDiff, Nat.reduceGT, ↓reduceIte, Nat.reduceEqDiff, Nat.reduceBEq, reduceCtorEq, Int.reduceBEq, Int.reduceBNe, Int.reduceLT, Int.reduceLE, Int.reduceGT, Int.reduceGE, aggT_24, sizeT_24, bytesT_24, fieldT_24_0, placesT_24, zeroT_24, aggT_39, sizeT_39, bytesT_39, fieldT_39_0, fieldT_39_1, fieldT_39_2, fieldT_39_3, fieldT_39_4, fieldT_39_5, fieldT_39_6, fieldT_39_7, fieldT_39_8, placesT_39, zeroT_39, aggT_33, sizeT_33, bytesT_33, fieldT_33_0, fieldT_33_1, fieldT_33_2, fieldT_33_3, fieldT_33_4, placesT_33, zeroT_33, aggT_30, sizeT_30, bytesT_30, und_30, elemT_30, isSliceT_30, zero1_30, zeroT_30, aggT_27, sizeT_27, bytesT_27, und_27, zero1_27, zeroT_27, aggT_9, sizeT_9, bytesT_9, und_9, zero1_9, zeroT_9, aggT_3, sizeT_3, bytesT_3, und_3, zero1_3, zeroT_3, ht, callOut_vd, c, e, hr]
        (refine Eq.trans ?_ rfl; kernel_rfl)
      · rw [if_neg e]
        (rw [run_eq]; simp only [stepA, hx, Go.Proofs.Tryz.func35, Go.Proofs.Tryz.f35, show retF 35 = false from rfl]; simp only [List.length_cons, List.length_nil, Nat.reduceAdd, Nat.reduceLeDiff, Nat.zero_le, ↓reduceIte, List.zipIdx_cons, List.zipIdx_nil, List.map_cons, List.map_nil])
        simp only [dcV, dcC, tbV, tbC, tmV, tmC_z, tmC, sV, iV, bV, dV] at ht ⊢
        simp only [zS, nilEq, wantedA, opA, eff, boxA, cells, ev, gt, pt, putO, updO, setO, okC, loadA, cutC, fieldAddrA, fieldA, indexAddrA, indexA, builtinA, callOpA, callV, target, ptrV, lenS, binA, intOp, strOp, unA, num, lk, over, allocA, pickA, buildA, fillA, convertA, extractA, ofComp, nilCheckA, makeFuncA, ptrs, ofValue, cellB, Nat.reduceAdd, Nat.reduceSub, Nat.reduceMul, Nat.reduceLT, Nat.reduceLeDiff, Nat.reduceGT, ↓reduceIte, Nat.reduceEqDiff, Nat.reduceBEq, reduceCtorEq, Int.reduceBEq, Int.reduceBNe, Int.reduceLT, Int.reduceLE, Int.reduceGT, Int.reduceGE, aggT_24, sizeT_24, bytesT_24, fieldT_24_0, placesT_24, zeroT_24, aggT_39, sizeT_39, bytesT_39, fieldT_39_0, fieldT_39_1, fieldT_39_2, fieldT_39_3, fieldT_39_4, fieldT_39_5, fieldT_39_6, fieldT_39_7, fieldT_39_8, placesT_39, zeroT_39, aggT_33, sizeT_33, bytesT_33, fieldT_33_0, fieldT_33_1, fieldT_33_2, fieldT_33_3, fieldT_33_4, placesT_33, zeroT_33, aggT_30, sizeT_30, bytesT_30, und_30, elemT_30, isSliceT_30, zero1_30, zeroT_30, aggT_27, sizeT_27, bytesT_27, und_27, zero1_27, zeroT_27, aggT_9, sizeT_9, bytesT_9, und_9, zero1_9, zeroT_9, aggT_3, sizeT_3, bytesT_3, und_3, zero1_3, zeroT_3, ht, callOut_vd, c, e]
        (refine Eq.trans ?_ rfl; kernel_rfl)
    · rw [if_neg c]
      (rw [run_eq]; simp only [stepA, hx, Go.Proofs.Tryz.func35, Go.Proofs.Tryz.f35, show retF 35 = false from rfl]; simp only [List.length_cons, List.length_nil, Nat.reduceAdd, Nat.reduceLeDiff, Nat.zero_le, ↓reduceIte, List.zipIdx_cons, List.zipIdx_nil, List.map_cons, List.map_nil])
      simp only [dcV, dcC, tbV, tbC, tmV, tmC_z, tmC, sV, iV, bV, dV] at ht ⊢
      simp only [zS, nilEq, wantedA, opA, eff, boxA, cells, ev, gt, pt, putO, updO, setO, okC, loadA, cutC, fieldAddrA, fieldA, indexAddrA, indexA, builtinA, callOpA, callV, target, ptrV, lenS, binA, intOp, strOp, unA, num, lk, over, allocA, pickA, buildA, fillA, convertA, extractA, ofComp, nilCheckA, makeFuncA, ptrs, ofValue, cellB, Nat.reduceAdd, Nat.reduceSub, Nat.reduceMul, Nat.reduceLT, Nat.reduceLeDiff, Nat.reduceGT, ↓reduceIte, Nat.reduceEqDiff, Nat.reduceBEq, reduceCtorEq, Int.reduceBEq, Int.reduceBNe, Int.reduceLT, Int.reduceLE, Int.reduceGT, Int.reduceGE, aggT_24, sizeT_24, bytesT_24, fieldT_24_0, placesT_24, zeroT_24, aggT_39, sizeT_39, bytesT_39, fieldT_39_0, fieldT_39_1, fieldT_39_2, fieldT_39_3, fieldT_39_4, fieldT_39_5, fieldT_39_6, fieldT_39_7, fieldT_39_8, placesT_39, zeroT_39, aggT_33, sizeT_33, bytesT_33, fieldT_33_0, fieldT_33_1, fieldT_33_2, fieldT_33_3, fieldT_33_4, placesT_33, zeroT_33, aggT_30, sizeT_30, bytesT_30, und_30, elemT_30, isSliceT_30, zero1_30, zeroT_30, aggT_27, sizeT_27, bytesT_27, und_27, zero1_27, zeroT_27, aggT_9, sizeT_9, bytesT_9, und_9, zero1_9, zeroT_9, aggT_3, sizeT_3, bytesT_3, und_3, zero1_3, zeroT_3, ht, callOut_vd, c]
      (refine Eq.trans ?_ rfl; kernel_rfl)
end Go.Proofs.YteenjodhmppgjaaGreatDoor.Am
end
section
/- TableTypes: the walk. -/
namespace Go.Proofs.YteenjodhmppgjaaGreatDoor.Am
open Go
variable (ext : Ext)
set_option maxHeartbeats 8000000
set_option maxRecDepth 4000
/-! ### a statement whose order is open, step by step -/
def dC (P : Program) (rec : Rec) (nt : Nat) (all : Array Oper) (base : Nat) (l : List Oper) (i : Nat) (env : Env) (loc : List O) (acc : List (List Nat × List Nat)) (k : Env → List O → List (List Nat × List Nat) → Option Out) : Option Out :=
  match drawA P rec nt all base l i env loc with
  | some r => k r.1 r.2.1 (acc.reverseAux r.2.2)
  | none => none
def dcV1 (P : Program) (rec : Rec) (nt : Nat) (all : Array Oper) (base : Nat) (o : Oper) (l : List Oper) (i : Nat) (env : Env) (loc : List O) (acc : List (List Nat × List Nat)) (k : Env → List O → List (List Nat × List Nat) → Option Out) (e : Option Eff) : Option Out :=
  match e with
  | some { res := .val v, upd, rd } => if upd.all (fun p => decide (p.1 ≤ base + i)) = true then dC P rec nt all base l (i + 1) (putO env o.dst v) (updO loc upd) ((rd, (base + i) :: upd.map (·.1)) :: acc) k else none
  | _ => none
def dcW (P : Program) (rec : Rec) (nt : Nat) (all : Array Oper) (base : Nat) (o : Oper) (l : List Oper) (i : Nat) (env : Env) (loc : List O) (acc : List (List Nat × List Nat)) (k : Env → List O → List (List Nat × List Nat) → Option Out) (w : Option Bool) : Option Out :=
  match w with
  | some true => dcV1 P rec nt all base o l i env loc acc k (opA P rec (lk loc) (base + i) (ev env) o.op)
  | some false => dC P rec nt all base l (i + 1) (putO env o.dst (.tup [])) loc (([], [base + i]) :: acc) k
  | none => none
theorem dC_nil (P : Program) (rec : Rec) (nt : Nat) (all : Array Oper) (base i : Nat) (env : Env) (loc : List O) (acc : List (List Nat × List Nat)) (k : Env → List O → List (List Nat × List Nat) → Option Out) : dC P rec nt all base [] i env loc acc k = k env loc (acc.reverseAux []) := rfl
theorem dC_cons (P : Program) (rec : Rec) (nt : Nat) (all : Array Oper) (base : Nat) (o : Oper) (l : List Oper) (i : Nat) (env : Env) (loc : List O) (acc : List (List Nat × List Nat)) (k : Env → List O → List (List Nat × List Nat) → Option Out) :
    dC P rec nt all base (o :: l) i env loc acc k = if dstOk nt o.dst = true then dcW P rec nt all base o l i env loc acc k (wantedA all env o.guard) else none := by
  unfold dC
  rw [drawA]
  by_cases hd : dstOk nt o.dst = true
  · rw [if_pos hd, if_pos hd]
    cases hw : wantedA all env o.guard with
    | none => rfl
    | some b =>
      cases b with
      | false =>
        simp only [dcW, dC]
        cases drawA P rec nt all base l (i + 1) (putO env o.dst (.tup [])) loc with
        | none => rfl
        | some r => rfl
      | true =>
        simp only [dcW]
        cases opA P rec (lk loc) (base + i) (ev env) o.op with
        | none => rfl
        | some e =>
          obtain ⟨r, upd, rd⟩ := e
          cases r with
          | val v =>
            simp only [dcV1, dC]
            by_cases hu : upd.all (fun p => decide (p.1 ≤ base + i)) = true
            · rw [if_pos hu, if_pos hu]
              cases drawA P rec nt all base l (i + 1) (putO env o.dst v) (updO loc upd) with
              | none => rfl
              | some r => rfl
            · rw [if_neg hu, if_neg hu]
          | _ => rfl
  · rw [if_neg hd, if_neg hd]
theorem dcW_true (P : Program) (rec : Rec) (nt : Nat) (all : Array Oper) (base : Nat) (o : Oper) (l : List Oper) (i : Nat) (env : Env) (loc : List O) (acc : List (List Nat × List Nat)) (k : Env → List O → List (List Nat × List Nat) → Option Out) :
    dcW P rec nt all base o l i env loc acc k (some true) = dcV1 P rec nt all base o l i env loc acc k (opA P rec (lk loc) (base + i) (ev env) o.op) := rfl
theorem dcW_false (P : Program) (rec : Rec) (nt : Nat) (all : Array Oper) (base : Nat) (o : Oper) (l : List Oper) (i : Nat) (env : Env) (loc : List O) (acc : List (List Nat × List Nat)) (k : Env → List O → List (List Nat × List Nat) → Option Out) :
    dcW P rec nt all base o l i env loc acc k (some false) = dC P rec nt all base l (i + 1) (putO env o.dst (.tup [])) loc (([], [base + i]) :: acc) k := rfl
theorem dcV1_val (P : Program) (rec : Rec) (nt : Nat) (all : Array Oper) (base : Nat) (o : Oper) (l : List Oper) (i : Nat) (env : Env) (loc : List O) (acc : List (List Nat × List Nat)) (k : Env → List O → List (List Nat × List Nat) → Option Out) (v : V) (upd : List (Nat × O)) (rd : List Nat) :
    dcV1 P rec nt all base o l i env loc acc k (some ⟨.val v, upd, rd⟩) = if upd.all (fun p => decide (p.1 ≤ base + i)) = true then dC P rec nt all base l (i + 1) (putO env o.dst v) (updO loc upd) ((rd, (base + i) :: upd.map (·.1)) :: acc) k else none := rfl
theorem draw_of {P : Program} {rec : Rec} {cf : Cf} {ops : Array Oper} {K : List It} {env env' : Env} {loc loc' : List O} {nt : Nat} {base : Nat} {l : List Oper} {i : Nat} {o : Out}
    (h : dC P rec nt ops base l i env' loc' [] (fun e lo fps => afterDraw rec cf ops K (some (e, lo, fps))) = some o) : drawK P rec cf ops K env loc (drawA P rec nt ops base l i env' loc') = some o := by
  unfold dC at h
  cases hd : drawA P rec nt ops base l i env' loc' with
  | none => rw [hd] at h; cases h
  | some r => rw [hd] at h; exact h
theorem heavy8 (hx : ext 8 = none) (x : Tb) (s : ByteArray) (D : D) (b1 b2 : Bool) (r13 : run Go.Proofs.Tryz.prog ext (.call 13 [tbV x] []) = some (.ret [bV b1] [])) (r31 : run Go.Proofs.Tryz.prog ext (.call 31 [dV D] []) = some (.ret [bV b2] []))
    (r14 : run Go.Proofs.Tryz.prog ext (.call 14 [] []) = some (.ret [bV true] [])) (h : b1 = true ∨ (s.size : Int) > 200 ∨ b2 = true) : run Go.Proofs.Tryz.prog ext (.call 8 [tbV x, sV s, dV D] []) = some (.ret [bV true] []) := by
  cases b1 with
  | true =>
    (rw [run_eq]; simp only [stepA, hx, Go.Proofs.Tryz.func8, Go.Proofs.Tryz.f8, show retF 8 = false from rfl]; simp only [List.length_cons, List.length_nil, Nat.reduceAdd, Nat.reduceLeDiff, Nat.zero_le, ↓reduceIte, List.zipIdx_cons, List.zipIdx_nil, List.map_cons, List.map_nil])
    simp only [tbV, tbC, sV, bV, dV] at r13 r31 r14 ⊢
    simp only [zS, nilEq, wantedA, opA, eff, boxA, cells, ev, gt, pt, putO, updO, setO, okC, loadA, cutC, fieldAddrA, fieldA, indexAddrA, indexA, builtinA, callOpA, callV, target, ptrV, lenS, binA, intOp, strOp, unA, num, lk, over, allocA, pickA, buildA, fillA, convertA, extractA, ofComp, nilCheckA, makeFuncA, ptrs, ofValue, cellB, Nat.reduceAdd, Nat.reduceSub, Nat.reduceMul, Nat.reduceLT, Nat.reduceLeDiff, Nat.reduceGT, ↓reduceIte, Nat.reduceEqDiff, Nat.reduceBEq, reduceCtorEq, Int.reduceBEq, Int.reduceBNe, Int.reduceLT, Int.reduceLE, Int.reduceGT, Int.reduceGE, aggT_24, sizeT_24, bytesT_24, fieldT_24_0, placesT_24, zeroT_24, aggT_9, sizeT_9, bytesT_9, und_9, zero1_9, zeroT_9, aggT_30, sizeT_30, bytesT_30, und_30, elemT_30, isSliceT_30, zero1_30, zeroT_30, aggT_3, sizeT_3, bytesT_3, und_3, zero1_3, zeroT_3, r13, r14]
    (refine Eq.trans ?_ rfl; kernel_rfl)
  | false =>
  by_cases c : (s.size : Int) > 200
  · (rw [run_eq]; simp only [stepA, hx, Go.Proofs.Tryz.func8, Go.Proofs.Tryz.f8, show retF 8 = false from rfl]; simp only [List.length_cons, List.length_nil, Nat.reduceAdd, Nat.reduceLeDiff, Nat.zero_le, ↓reduceIte, List.zipIdx_cons, List.zipIdx_nil, List.map_cons, List.map_nil])
    simp only [tbV, tbC, sV, bV, dV] at r13 r31 r14 ⊢
    simp only [zS, nilEq, wantedA, opA, eff, boxA, cells, ev, gt, pt, putO, updO, setO, okC, loadA, cutC, fieldAddrA, fieldA, indexAddrA, indexA, builtinA, callOpA, callV, target, ptrV, lenS, binA, intOp, strOp, unA, num, lk, over, allocA, pickA, buildA, fillA, convertA, extractA, ofComp, nilCheckA, makeFuncA, ptrs, ofValue, cellB, Nat.reduceAdd, Nat.reduceSub, Nat.reduceMul, Nat.reduceLT, Nat.reduceLeDiff, Nat.reduceGT, ↓reduceIte, Nat.reduceEqDiff, Nat.reduceBEq, reduceCtorEq, Int.reduceBEq, Int.reduceBNe, Int.reduceLT, Int.reduceLE, Int.reduceGT, Int.reduceGE, aggT_24, sizeT_24, bytesT_24, fieldT_24_0, placesT_24, zeroT_24, aggT_9, sizeT_9, bytesT_9, und_9, zero1_9, zeroT_9, aggT_30, sizeT_30, bytesT_30, und_30, elemT_30, isSliceT_30, zero1_30, zeroT_30, aggT_3, sizeT_3, bytesT_3, und_3, zero1_3, zeroT_3, r13, r14, c]
    (refine Eq.trans ?_ rfl; kernel_rfl)
  · have h2 : b2 = true := by rcases h with h | h | h; (· cases h); (· contradiction); (· exact h)
    rw [h2] at r31
    (rw [run_eq]; simp only [stepA, hx, Go.Proofs.Tryz.func8, Go.Proofs.Tryz.f8, show retF 8 = false from rfl]; simp only [List.length_cons, List.length_nil, Nat.reduceAdd, Nat.reduceLeDiff, Nat.zero_le, ↓reduceIte, List.zipIdx_cons, List.zipIdx_nil, List.map_cons, List.map_nil])
    simp only [tbV, tbC, sV, bV, dV] at r13 r31 r14 ⊢
    simp only [zS, nilEq, wantedA, opA, eff, boxA, cells, ev, gt, pt, putO, updO, setO, okC, loadA, cutC, fieldAddrA, fieldA, indexAddrA, indexA, builtinA, callOpA, callV, target, ptrV, lenS, binA, intOp, strOp, unA, num, lk, over, allocA, pickA, buildA, fillA, convertA, extractA, ofComp, nilCheckA, makeFuncA, ptrs, ofValue, cellB, Nat.reduceAdd, Nat.reduceSub, Nat.reduceMul, Nat.reduceLT, Nat.reduceLeDiff, Nat.reduceGT, ↓reduceIte, Nat.reduceEqDiff, Nat.reduceBEq, reduceCtorEq, Int.reduceBEq, Int.reduceBNe, Int.reduceLT, Int.reduceLE, Int.reduceGT, Int.reduceGE, aggT_24, sizeT_24, bytesT_24, fieldT_24_0, placesT_24, zeroT_24, aggT_9, sizeT_9, bytesT_9, und_9, zero1_9, zeroT_9, aggT_30, sizeT_30, bytesT_30, und_30, elemT_30, isSliceT_30, zero1_30, zeroT_30, aggT_3, sizeT_3, bytesT_3, und_3, zero1_3, zeroT_3, r13, r14, c, r31]
    (refine Eq.trans ?_ rfl; kernel_rfl)
theorem light8 (hx : ext 8 = none) (x : Tb) (s : ByteArray) (D : D) (p q p' q' : Tm) (e e' n : Int) (b : Bool) (r13 : run Go.Proofs.Tryz.prog ext (.call 13 [tbV x] []) = some (.ret [bV false] [])) (r31 : run Go.Proofs.Tryz.prog ext (.call 31 [dV D] []) = some (.ret [bV false] []))
    (r14 : run Go.Proofs.Tryz.prog ext (.call 14 [] []) = some (.ret [bV true] [])) (c : ¬ (s.size : Int) > 200)
    (r32 : run Go.Proofs.Tryz.prog ext (.call 32 [tbV x, sV s, dV D] []) = some (.ret [tmV p, iV e] [])) (r33 : run Go.Proofs.Tryz.prog ext (.call 33 [tbV x, sV s, dV D] []) = some (.ret [tmV q, iV e] []))
    (r34 : run Go.Proofs.Tryz.prog ext (.call 34 [tbV x, sV s, dV D] []) = some (.ret [tmV p', bV b, iV e'] [])) (r35 : run Go.Proofs.Tryz.prog ext (.call 35 [tbV x, sV s, dV D] []) = some (.ret [tmV q', bV b, iV e'] []))
    (r36 : run Go.Proofs.Tryz.prog ext (.call 36 [tmV p, tmV q] []) = some (.ret [bV true] [])) (r36' : run Go.Proofs.Tryz.prog ext (.call 36 [tmV p', tmV q'] []) = some (.ret [bV true] []))
    (r22 : run Go.Proofs.Tryz.prog ext (.call 22 [tbV x, sV s] []) = some (.ret [iV n] [])) (r37 : run Go.Proofs.Tryz.prog ext (.call 37 [tbV x, sV s] []) = some (.ret [iV n] [])) :
    run Go.Proofs.Tryz.prog ext (.call 8 [tbV x, sV s, dV D] []) = some (.ret [bV true] []) := by
  have ebb : (b == b) = true := by cases b <;> rfl
  (rw [run_eq]; simp only [stepA, hx, Go.Proofs.Tryz.func8, Go.Proofs.Tryz.f8, show retF 8 = false from rfl]; simp only [List.length_cons, List.length_nil, Nat.reduceAdd, Nat.reduceLeDiff, Nat.zero_le, ↓reduceIte, List.zipIdx_cons, List.zipIdx_nil, List.map_cons, List.map_nil])
  simp only [tbV, tbC, sV, iV, bV, dV, tmV, tmC] at r13 r31 r14 r32 r33 r34 r35 r36 r36' r22 r37 ⊢
  simp only [zS, nilEq, wantedA, opA, eff, boxA, cells, ev, gt, pt, putO, updO, setO, okC, loadA, cutC, fieldAddrA, fieldA, indexAddrA, indexA, builtinA, callOpA, callV, target, ptrV, lenS, binA, intOp, strOp, unA, num, lk, over, allocA, pickA, buildA, fillA, convertA, extractA, ofComp, nilCheckA, makeFuncA, ptrs, ofValue, cellB, Nat.reduceAdd, Nat.reduceSub, Nat.reduceMul, Nat.reduceLT, Nat.reduceLeDiff, Nat.reduceGT, ↓reduceIte, Nat.reduceEqDiff, Nat.reduceBEq, reduceCtorEq, Int.reduceBEq, Int.reduceBNe, Int.reduceLT, Int.reduceLE, Int.reduceGT, Int.reduceGE, aggT_24, sizeT_24, bytesT_24, fieldT_24_0, placesT_24, zeroT_24, aggT_9, sizeT_9, bytesT_9, und_9, zero1_9, zeroT_9, aggT_30, sizeT_30, bytesT_30, und_30, elemT_30, isSliceT_30, zero1_30, zeroT_30, aggT_33, sizeT_33, bytesT_33, fieldT_33_0, fieldT_33_1, fieldT_33_2, fieldT_33_3, fieldT_33_4, placesT_33, zeroT_33, aggT_27, sizeT_27, bytesT_27, und_27, zero1_27, zeroT_27, aggT_3, sizeT_3, bytesT_3, und_3, zero1_3, zeroT_3, r13, c]
  simp only [zS, nilEq, wantedA, opA, eff, boxA, cells, ev, gt, pt, putO, updO, setO, okC, loadA, cutC, fieldAddrA, fieldA, indexAddrA, indexA, builtinA, callOpA, callV, target, ptrV, lenS, binA, intOp, strOp, unA, num, lk, over, allocA, pickA, buildA, fillA, convertA, extractA, ofComp, nilCheckA, makeFuncA, ptrs, ofValue, cellB, Nat.reduceAdd, Nat.reduceSub, Nat.reduceMul, Nat.reduceLT, Nat.reduceLeDiff, Nat.reduceGT, ↓reduceIte, Nat.reduceEqDiff, Nat.reduceBEq, reduceCtorEq, Int.reduceBEq, Int.reduceBNe, Int.reduceLT, Int.reduceLE, Int.reduceGT, Int.reduceGE, aggT_24, sizeT_24, bytesT_24, fieldT_24_0, placesT_24, zeroT_24, aggT_9, sizeT_9, bytesT_9, und_9, zero1_9, zeroT_9, aggT_30, sizeT_30, bytesT_30, und_30, elemT_30, isSliceT_30, zero1_30, zeroT_30, aggT_33, sizeT_33, bytesT_33, fieldT_33_0, fieldT_33_1, fieldT_33_2, fieldT_33_3, fieldT_33_4, placesT_33, zeroT_33, aggT_27, sizeT_27, bytesT_27, und_27, zero1_27, zeroT_27, aggT_3, sizeT_3, bytesT_3, und_3, zero1_3, zeroT_3, r31]
  simp only [zS, nilEq, wantedA, opA, eff, boxA, cells, ev, gt, pt, putO, updO, setO, okC, loadA, cutC, fieldAddrA, fieldA, indexAddrA, indexA, builtinA, callOpA, callV, target, ptrV, lenS, binA, intOp, strOp, unA, num, lk, over, allocA, pickA, buildA, fillA, convertA, extractA, ofComp, nilCheckA, makeFuncA, ptrs, ofValue, cellB, Nat.reduceAdd, Nat.reduceSub, Nat.reduceMul, Nat.reduceLT, Nat.reduceLeDiff, Nat.reduceGT, ↓reduceIte, Nat.reduceEqDiff, Nat.reduceBEq, reduceCtorEq, Int.reduceBEq, Int.reduceBNe, Int.reduceLT, Int.reduceLE, Int.reduceGT, Int.reduceGE, aggT_24, sizeT_24, bytesT_24, fieldT_24_0, placesT_24, zeroT_24, aggT_9, sizeT_9, bytesT_9, und_9, zero1_9, zeroT_9, aggT_30, sizeT_30, bytesT_30, und_30, elemT_30, isSliceT_30, zero1_30, zeroT_30, aggT_33, sizeT_33, bytesT_33, fieldT_33_0, fieldT_33_1, fieldT_33_2, fieldT_33_3, fieldT_33_4, placesT_33, zeroT_33, aggT_27, sizeT_27, bytesT_27, und_27, zero1_27, zeroT_27, aggT_3, sizeT_3, bytesT_3, und_3, zero1_3, zeroT_3, r32, callOut_vd]
  simp only [zS, nilEq, wantedA, opA, eff, boxA, cells, ev, gt, pt, putO, updO, setO, okC, loadA, cutC, fieldAddrA, fieldA, indexAddrA, indexA, builtinA, callOpA, callV, target, ptrV, lenS, binA, intOp, strOp, unA, num, lk, over, allocA, pickA, buildA, fillA, convertA, extractA, ofComp, nilCheckA, makeFuncA, ptrs, ofValue, cellB, Nat.reduceAdd, Nat.reduceSub, Nat.reduceMul, Nat.reduceLT, Nat.reduceLeDiff, Nat.reduceGT, ↓reduceIte, Nat.reduceEqDiff, Nat.reduceBEq, reduceCtorEq, Int.reduceBEq, Int.reduceBNe, Int.reduceLT, Int.reduceLE, Int.reduceGT, Int.reduceGE, aggT_24, sizeT_24, bytesT_24, fieldT_24_0, placesT_24, zeroT_24, aggT_9, sizeT_9, bytesT_9, und_9, zero1_9, zeroT_9, aggT_30, sizeT_30, bytesT_30, und_30, elemT_30, isSliceT_30, zero1_30, zeroT_30, aggT_33, sizeT_33, bytesT_33, fieldT_33_0, fieldT_33_1, fieldT_33_2, fieldT_33_3, fieldT_33_4, placesT_33, zeroT_33, aggT_27, sizeT_27, bytesT_27, und_27, zero1_27, zeroT_27, aggT_3, sizeT_3, bytesT_3, und_3, zero1_3, zeroT_3, r33, callOut_vd]
  simp only [zS, nilEq, wantedA, opA, eff, boxA, cells, ev, gt, pt, putO, updO, setO, okC, loadA, cutC, fieldAddrA, fieldA, indexAddrA, indexA, builtinA, callOpA, callV, target, ptrV, lenS, binA, intOp, strOp, unA, num, lk, over, allocA, pickA, buildA, fillA, convertA, extractA, ofComp, nilCheckA, makeFuncA, ptrs, ofValue, cellB, Nat.reduceAdd, Nat.reduceSub, Nat.reduceMul, Nat.reduceLT, Nat.reduceLeDiff, Nat.reduceGT, ↓reduceIte, Nat.reduceEqDiff, Nat.reduceBEq, reduceCtorEq, Int.reduceBEq, Int.reduceBNe, Int.reduceLT, Int.reduceLE, Int.reduceGT, Int.reduceGE, aggT_24, sizeT_24, bytesT_24, fieldT_24_0, placesT_24, zeroT_24, aggT_9, sizeT_9, bytesT_9, und_9, zero1_9, zeroT_9, aggT_30, sizeT_30, bytesT_30, und_30, elemT_30, isSliceT_30, zero1_30, zeroT_30, aggT_33, sizeT_33, bytesT_33, fieldT_33_0, fieldT_33_1, fieldT_33_2, fieldT_33_3, fieldT_33_4, placesT_33, zeroT_33, aggT_27, sizeT_27, bytesT_27, und_27, zero1_27, zeroT_27, aggT_3, sizeT_3, bytesT_3, und_3, zero1_3, zeroT_3, r34, callOut_vdd]
  simp only [zS, nilEq, wantedA, opA, eff, boxA, cells, ev, gt, pt, putO, updO, setO, okC, loadA, cutC, fieldAddrA, fieldA, indexAddrA, indexA, builtinA, callOpA, callV, target, ptrV, lenS, binA, intOp, strOp, unA, num, lk, over, allocA, pickA, buildA, fillA, convertA, extractA, ofComp, nilCheckA, makeFuncA, ptrs, ofValue, cellB, Nat.reduceAdd, Nat.reduceSub, Nat.reduceMul, Nat.reduceLT, Nat.reduceLeDiff, Nat.reduceGT, ↓reduceIte, Nat.reduceEqDiff, Nat.reduceBEq, reduceCtorEq, Int.reduceBEq, Int.reduceBNe, Int.reduceLT, Int.reduceLE, Int.reduceGT, Int.reduceGE, aggT_24, sizeT_24, bytesT_24, fieldT_24_0, placesT_24, zeroT_24, aggT_9, sizeT_9, bytesT_9, und_9, zero1_9, zeroT_9, aggT_30, sizeT_30, bytesT_30, und_30, elemT_30, isSliceT_30, zero1_30, zeroT_30, aggT_33, sizeT_33, bytesT_33, fieldT_33_0, fieldT_33_1, fieldT_33_2, fieldT_33_3, fieldT_33_4, placesT_33, zeroT_33, aggT_27, sizeT_27, bytesT_27, und_27, zero1_27, zeroT_27, aggT_3, sizeT_3, bytesT_3, und_3, zero1_3, zeroT_3, r35, callOut_vdd]
  refine draw_of ?_
  simp only [zS, nilEq, wantedA, opA, eff, boxA, cells, ev, gt, pt, putO, updO, setO, okC, loadA, cutC, fieldAddrA, fieldA, indexAddrA, indexA, builtinA, callOpA, callV, target, ptrV, lenS, binA, intOp, strOp, unA, num, lk, over, allocA, pickA, buildA, fillA, convertA, extractA, ofComp, nilCheckA, makeFuncA, ptrs, ofValue, cellB, Nat.reduceAdd, Nat.reduceSub, Nat.reduceMul, Nat.reduceLT, Nat.reduceLeDiff, Nat.reduceGT, ↓reduceIte, Nat.reduceEqDiff, Nat.reduceBEq, reduceCtorEq, Int.reduceBEq, Int.reduceBNe, Int.reduceLT, Int.reduceLE, Int.reduceGT, Int.reduceGE, aggT_24, sizeT_24, bytesT_24, fieldT_24_0, placesT_24, zeroT_24, aggT_9, sizeT_9, bytesT_9, und_9, zero1_9, zeroT_9, aggT_30, sizeT_30, bytesT_30, und_30, elemT_30, isSliceT_30, zero1_30, zeroT_30, aggT_33, sizeT_33, bytesT_33, fieldT_33_0, fieldT_33_1, fieldT_33_2, fieldT_33_3, fieldT_33_4, placesT_33, zeroT_33, aggT_27, sizeT_27, bytesT_27, und_27, zero1_27, zeroT_27, aggT_4, sizeT_4, bytesT_4, und_4, zero1_4, zeroT_4, aggT_3, sizeT_3, bytesT_3, und_3, zero1_3, zeroT_3, dC_nil, dC_cons, dcW_true, dcW_false, dcV1_val, holes_succ, holes_zero, Array.size, List.length, r36]
  simp only [zS, nilEq, wantedA, opA, eff, boxA, cells, ev, gt, pt, putO, updO, setO, okC, loadA, cutC, fieldAddrA, fieldA, indexAddrA, indexA, builtinA, callOpA, callV, target, ptrV, lenS, binA, intOp, strOp, unA, num, lk, over, allocA, pickA, buildA, fillA, convertA, extractA, ofComp, nilCheckA, makeFuncA, ptrs, ofValue, cellB, Nat.reduceAdd, Nat.reduceSub, Nat.reduceMul, Nat.reduceLT, Nat.reduceLeDiff, Nat.reduceGT, ↓reduceIte, Nat.reduceEqDiff, Nat.reduceBEq, reduceCtorEq, Int.reduceBEq, Int.reduceBNe, Int.reduceLT, Int.reduceLE, Int.reduceGT, Int.reduceGE, aggT_24, sizeT_24, bytesT_24, fieldT_24_0, placesT_24, zeroT_24, aggT_9, sizeT_9, bytesT_9, und_9, zero1_9, zeroT_9, aggT_30, sizeT_30, bytesT_30, und_30, elemT_30, isSliceT_30, zero1_30, zeroT_30, aggT_33, sizeT_33, bytesT_33, fieldT_33_0, fieldT_33_1, fieldT_33_2, fieldT_33_3, fieldT_33_4, placesT_33, zeroT_33, aggT_27, sizeT_27, bytesT_27, und_27, zero1_27, zeroT_27, aggT_4, sizeT_4, bytesT_4, und_4, zero1_4, zeroT_4, aggT_3, sizeT_3, bytesT_3, und_3, zero1_3, zeroT_3, dC_nil, dC_cons, dcW_true, dcW_false, dcV1_val, holes_succ, holes_zero, Array.size, List.length, ebb, r36']
  simp only [zS, nilEq, wantedA, opA, eff, boxA, cells, ev, gt, pt, putO, updO, setO, okC, loadA, cutC, fieldAddrA, fieldA, indexAddrA, indexA, builtinA, callOpA, callV, target, ptrV, lenS, binA, intOp, strOp, unA, num, lk, over, allocA, pickA, buildA, fillA, convertA, extractA, ofComp, nilCheckA, makeFuncA, ptrs, ofValue, cellB, Nat.reduceAdd, Nat.reduceSub, Nat.reduceMul, Nat.reduceLT, Nat.reduceLeDiff, Nat.reduceGT, ↓reduceIte, Nat.reduceEqDiff, Nat.reduceBEq, reduceCtorEq, Int.reduceBEq, Int.reduceBNe, Int.reduceLT, Int.reduceLE, Int.reduceGT, Int.reduceGE, aggT_24, sizeT_24, bytesT_24, fieldT_24_0, placesT_24, zeroT_24, aggT_9, sizeT_9, bytesT_9, und_9, zero1_9, zeroT_9, aggT_30, sizeT_30, bytesT_30, und_30, elemT_30, isSliceT_30, zero1_30, zeroT_30, aggT_33, sizeT_33, bytesT_33, fieldT_33_0, fieldT_33_1, fieldT_33_2, fieldT_33_3, fieldT_33_4, placesT_33, zeroT_33, aggT_27, sizeT_27, bytesT_27, und_27, zero1_27, zeroT_27, aggT_4, sizeT_4, bytesT_4, und_4, zero1_4, zeroT_4, aggT_3, sizeT_3, bytesT_3, und_3, zero1_3, zeroT_3, dC_nil, dC_cons, dcW_true, dcW_false, dcV1_val, holes_succ, holes_zero, Array.size, List.length, r22]
  simp only [zS, nilEq, wantedA, opA, eff, boxA, cells, ev, gt, pt, putO, updO, setO, okC, loadA, cutC, fieldAddrA, fieldA, indexAddrA, indexA, builtinA, callOpA, callV, target, ptrV, lenS, binA, intOp, strOp, unA, num, lk, over, allocA, pickA, buildA, fillA, convertA, extractA, ofComp, nilCheckA, makeFuncA, ptrs, ofValue, cellB, Nat.reduceAdd, Nat.reduceSub, Nat.reduceMul, Nat.reduceLT, Nat.reduceLeDiff, Nat.reduceGT, ↓reduceIte, Nat.reduceEqDiff, Nat.reduceBEq, reduceCtorEq, Int.reduceBEq, Int.reduceBNe, Int.reduceLT, Int.reduceLE, Int.reduceGT, Int.reduceGE, aggT_24, sizeT_24, bytesT_24, fieldT_24_0, placesT_24, zeroT_24, aggT_9, sizeT_9, bytesT_9, und_9, zero1_9, zeroT_9, aggT_30, sizeT_30, bytesT_30, und_30, elemT_30, isSliceT_30, zero1_30, zeroT_30, aggT_33, sizeT_33, bytesT_33, fieldT_33_0, fieldT_33_1, fieldT_33_2, fieldT_33_3, fieldT_33_4, placesT_33, zeroT_33, aggT_27, sizeT_27, bytesT_27, und_27, zero1_27, zeroT_27, aggT_4, sizeT_4, bytesT_4, und_4, zero1_4, zeroT_4, aggT_3, sizeT_3, bytesT_3, und_3, zero1_3, zeroT_3, dC_nil, dC_cons, dcW_true, dcW_false, dcV1_val, holes_succ, holes_zero, Array.size, List.length, r37]
  simp only [zS, nilEq, wantedA, opA, eff, boxA, cells, ev, gt, pt, putO, updO, setO, okC, loadA, cutC, fieldAddrA, fieldA, indexAddrA, indexA, builtinA, callOpA, callV, target, ptrV, lenS, binA, intOp, strOp, unA, num, lk, over, allocA, pickA, buildA, fillA, convertA, extractA, ofComp, nilCheckA, makeFuncA, ptrs, ofValue, cellB, Nat.reduceAdd, Nat.reduceSub, Nat.reduceMul, Nat.reduceLT, Nat.reduceLeDiff, Nat.reduceGT, ↓reduceIte, Nat.reduceEqDiff, Nat.reduceBEq, reduceCtorEq, Int.reduceBEq, Int.reduceBNe, Int.reduceLT, Int.reduceLE, Int.reduceGT, Int.reduceGE, aggT_24, sizeT_24, bytesT_24, fieldT_24_0, placesT_24, zeroT_24, aggT_9, sizeT_9, bytesT_9, und_9, zero1_9, zeroT_9, aggT_30, sizeT_30, bytesT_30, und_30, elemT_30, isSliceT_30, zero1_30, zeroT_30, aggT_33, sizeT_33, bytesT_33, fieldT_33_0, fieldT_33_1, fieldT_33_2, fieldT_33_3, fieldT_33_4, placesT_33, zeroT_33, aggT_27, sizeT_27, bytesT_27, und_27, zero1_27, zeroT_27, aggT_4, sizeT_4, bytesT_4, und_4, zero1_4, zeroT_4, aggT_3, sizeT_3, bytesT_3, und_3, zero1_3, zeroT_3, dC_nil, dC_cons, dcW_true, dcW_false, dcV1_val, holes_succ, holes_zero, Array.size, List.length, r14]
  rw [afterDraw_some _ _ _ _ (by kernel_rfl)]
  simp only [zS, nilEq, wantedA, opA, eff, boxA, cells, ev, gt, pt, putO, updO, setO, okC, loadA, cutC, fieldAddrA, fieldA, indexAddrA, indexA, builtinA, callOpA, callV, target, ptrV, lenS, binA, intOp, strOp, unA, num, lk, over, allocA, pickA, buildA, fillA, convertA, extractA, ofComp, nilCheckA, makeFuncA, ptrs, ofValue, cellB, Nat.reduceAdd, Nat.reduceSub, Nat.reduceMul, Nat.reduceLT, Nat.reduceLeDiff, Nat.reduceGT, ↓reduceIte, Nat.reduceEqDiff, Nat.reduceBEq, reduceCtorEq, Int.reduceBEq, Int.reduceBNe, Int.reduceLT, Int.reduceLE, Int.reduceGT, Int.reduceGE]
  (refine Eq.trans ?_ rfl; kernel_rfl)
end Go.Proofs.YteenjodhmppgjaaGreatDoor.Am
end
section
/- Subst: the program's answer and the reference's say the same. -/
namespace Go.Proofs.YteenjodhmppgjaaGreatDoor.Am
open Go
theorem mx_max (a b : Int) : mx a b = max a b := by unfold mx; split <;> omega
/-! ### the most that a list has for a variable -/
def lkp (v : Int) : List LV → Int
  | [] => -1
  | y :: l => if y.v = v then max y.p (lkp v l) else lkp v l
def Srt (l : List LV) : Prop := l.Pairwise (fun a b => a.v < b.v)
def NN (l : List LV) : Prop := ∀ y ∈ l, 0 ≤ y.p
theorem lkp_ge (v : Int) : ∀ l, -1 ≤ lkp v l
  | [] => by simp [lkp]
  | y :: l => by have := lkp_ge v l; unfold lkp; split <;> omega
theorem lkp_le (v n : Int) : ∀ l, lkp v l ≤ n ↔ -1 ≤ n ∧ ∀ y ∈ l, y.v = v → y.p ≤ n
  | [] => by simp [lkp]
  | y :: l => by
    have ih := lkp_le v n l
    unfold lkp
    simp only [List.mem_cons, forall_eq_or_imp]
    split
    · rename_i h
      rw [Int.max_le, ih]
      constructor
      · rintro ⟨a, b, c⟩; exact ⟨b, fun _ => a, c⟩
      · rintro ⟨a, b, c⟩; exact ⟨b h, a, c⟩
    · rename_i h
      rw [ih]
      constructor
      · rintro ⟨b, c⟩; exact ⟨b, fun e => absurd e h, c⟩
      · rintro ⟨a, b, c⟩; exact ⟨a, c⟩
theorem le_lkp {v : Int} {l : List LV} {y : LV} (h : y ∈ l) (hv : y.v = v) : y.p ≤ lkp v l := ((lkp_le v (lkp v l) l).1 (Int.le_refl _)).2 y h hv
theorem lkp_sub {v : Int} {l m : List LV} (h : ∀ y ∈ l, y ∈ m) : lkp v l ≤ lkp v m := (lkp_le v _ l).2 ⟨lkp_ge v m, fun y hy hv => le_lkp (h y hy) hv⟩
theorem lkp_congr {v : Int} {l m : List LV} (h : ∀ y, y ∈ l ↔ y ∈ m) : lkp v l = lkp v m := Int.le_antisymm (lkp_sub fun y hy => (h y).1 hy) (lkp_sub fun y hy => (h y).2 hy)
theorem lkp_append (v : Int) : ∀ l m, lkp v (l ++ m) = max (lkp v l) (lkp v m)
  | [], m => by have := lkp_ge v m; simp only [List.nil_append, lkp]; omega
  | y :: l, m => by
    have := lkp_append v l m
    simp only [List.cons_append, lkp]
    split <;> omega
theorem lkp_none {v : Int} {l : List LV} (h : ∀ y ∈ l, y.v ≠ v) : lkp v l = -1 :=
  Int.le_antisymm ((lkp_le v _ l).2 ⟨by omega, fun y hy hv => absurd hv (h y hy)⟩) (lkp_ge v l)
theorem uniq : ∀ {l m : List LV}, Srt l → Srt m → NN l → NN m → (∀ v, lkp v l = lkp v m) → l = m
  | [], [], _, _, _, _, _ => rfl
  | [], y :: m, _, _, _, n2, h => by
    have := le_lkp (v := y.v) (List.mem_cons_self : y ∈ y :: m) rfl
    rw [← h, lkp] at this
    have := n2 y List.mem_cons_self; omega
  | x :: l, [], _, _, n1, _, h => by
    have := le_lkp (v := x.v) (List.mem_cons_self : x ∈ x :: l) rfl
    rw [h, lkp] at this
    have := n1 x List.mem_cons_self; omega
  | x :: l, y :: m, s1, s2, n1, n2, h => by
    obtain ⟨a1, b1⟩ := List.pairwise_cons.1 s1
    obtain ⟨a2, b2⟩ := List.pairwise_cons.1 s2
    have hx := n1 x List.mem_cons_self
    have hy := n2 y List.mem_cons_self
    have lx : lkp x.v l = -1 := lkp_none fun e he => by have := a1 e he; omega
    have ly : lkp y.v m = -1 := lkp_none fun e he => by have := a2 e he; omega
    have hvv : x.v = y.v := by
      rcases Int.lt_trichotomy x.v y.v with hlt | heq | hgt
      · have h1 := h x.v
        rw [lkp_none (l := y :: m) (v := x.v) (by
          intro e he
          rcases List.mem_cons.1 he with rfl | he
          · omega
          · have := a2 e he; omega)] at h1
        simp only [lkp, if_true] at h1
        omega
      · exact heq
      · have h1 := h y.v
        rw [lkp_none (l := x :: l) (v := y.v) (by
          intro e he
          rcases List.mem_cons.1 he with rfl | he
          · omega
          · have := a1 e he; omega)] at h1
        simp only [lkp, if_true] at h1
        omega
    have h1 := h x.v
    rw [← hvv] at ly
    simp only [lkp, hvv, if_true] at h1
    rw [hvv] at lx ly
    have hp : x.p = y.p := by omega
    have e : x = y := by cases x; cases y; simp_all
    subst e
    rw [uniq b1 b2 (fun z hz => n1 z (List.mem_cons_of_mem _ hz)) (fun z hz => n2 z (List.mem_cons_of_mem _ hz)) (fun v => by
      have := h v
      simp only [lkp] at this
      by_cases hv : x.v = v
      · subst hv; rw [lx, ly]
      · simpa [hv] using this)]
/-! ### put -/
def ins (x : LV) : List LV → List LV
  | [] => [x]
  | y :: l => if x.v < y.v then x :: y :: l else if x.v = y.v then ⟨y.v, mx x.p y.p⟩ :: l else y :: ins x l
theorem put_done (x : LV) : ∀ (l a : List LV), (∀ y ∈ l, x.v ≠ y.v) → l.foldl (putStep x) (a, true) = (a ++ l, true)
  | [], a, _ => by simp
  | y :: l, a, h => by
    have h1 := h y List.mem_cons_self
    rw [List.foldl_cons]
    have e : putStep x (a, true) y = (a ++ [y], true) := by simp [putStep, h1]
    rw [e, put_done x l _ fun z hz => h z (List.mem_cons_of_mem _ hz)]
    simp
theorem put_fold (x : LV) : ∀ (l a : List LV), Srt l → (let s := l.foldl (putStep x) (a, false); if s.2 then s.1 else s.1 ++ [x]) = a ++ ins x l
  | [], a, _ => by simp [ins]
  | y :: l, a, h => by
    obtain ⟨h1, h2⟩ := List.pairwise_cons.1 h
    rw [List.foldl_cons]
    unfold ins
    by_cases c : x.v < y.v
    · have e : putStep x (a, false) y = (a ++ [x] ++ [y], true) := by
        have : ¬ x.v = y.v := by omega
        simp [putStep, c, this]
      rw [e, put_done x l _ fun z hz => by have := h1 z hz; omega]
      simp [c]
    · by_cases d : x.v = y.v
      · have e : putStep x (a, false) y = (a ++ [⟨y.v, mx x.p y.p⟩], true) := by
          simp [putStep, d]
        rw [e, put_done x l _ fun z hz => by have := h1 z hz; omega]
        simp [d]
      · have e : putStep x (a, false) y = (a ++ [y], false) := by
          simp [putStep, c, d]
        rw [e]
        have := put_fold x l (a ++ [y]) h2
        rw [this]
        simp [c, d]
theorem putL_ins {l : List LV} (x : LV) (h : Srt l) : putL l x = ins x l := by simpa [putL] using put_fold x l [] h
theorem ins_mem {x y : LV} : ∀ {l : List LV}, y ∈ ins x l → y.v = x.v ∨ y ∈ l
  | [], h => by simp [ins] at h; exact .inl (by rw [h])
  | z :: l, h => by
    unfold ins at h
    split at h
    · rcases List.mem_cons.1 h with rfl | h
      · exact .inl rfl
      · exact .inr h
    · split at h
      · rename_i e
        rcases List.mem_cons.1 h with rfl | h
        · exact .inl e.symm
        · exact .inr (List.mem_cons_of_mem _ h)
      · rcases List.mem_cons.1 h with rfl | h
        · exact .inr List.mem_cons_self
        · rcases ins_mem h with h | h
          · exact .inl h
          · exact .inr (List.mem_cons_of_mem _ h)
theorem ins_srt (x : LV) : ∀ {l : List LV}, Srt l → Srt (ins x l)
  | [], _ => by simp [ins, Srt]
  | y :: l, h => by
    obtain ⟨h1, h2⟩ := List.pairwise_cons.1 h
    unfold ins
    split
    · rename_i c
      refine List.pairwise_cons.2 ⟨fun z hz => ?_, h⟩
      rcases List.mem_cons.1 hz with rfl | hz
      · exact c
      · have := h1 z hz; omega
    · split
      · exact List.pairwise_cons.2 ⟨fun z hz => h1 z hz, h2⟩
      · refine List.pairwise_cons.2 ⟨fun z hz => ?_, ins_srt x h2⟩
        rcases ins_mem hz with hz | hz
        · omega
        · exact h1 z hz
theorem ins_nn {x : LV} (hx : 0 ≤ x.p) : ∀ {l : List LV}, NN l → NN (ins x l)
  | [], _ => by intro y hy; simp [ins] at hy; rw [hy]; exact hx
  | z :: l, h => by
    have hz := h z List.mem_cons_self
    have ih := ins_nn hx (l := l) fun e he => h e (List.mem_cons_of_mem _ he)
    unfold ins
    intro y hy
    split at hy
    · rcases List.mem_cons.1 hy with rfl | hy
      · exact hx
      · exact h y hy
    · split at hy
      · rcases List.mem_cons.1 hy with rfl | hy
        · show 0 ≤ mx x.p z.p
          rw [mx_max]; omega
        · exact h y (List.mem_cons_of_mem _ hy)
      · rcases List.mem_cons.1 hy with rfl | hy
        · exact hz
        · exact ih y hy
theorem ins_lkp (x : LV) (v : Int) : ∀ (l : List LV), lkp v (ins x l) = max (if x.v = v then x.p else -1) (lkp v l)
  | [] => by
    simp only [ins, lkp]
    split <;> omega
  | y :: l => by
    have ih := ins_lkp x v l
    have g := lkp_ge v l
    unfold ins
    split
    · simp only [lkp]
      split <;> split <;> omega
    · split
      · rename_i e
        simp only [lkp, mx_max, e]
        split <;> omega
      · simp only [lkp, ih]
        split <;> split <;> omega
theorem put_all : ∀ (l acc : List LV), Srt acc → NN acc → NN l → Srt (l.foldl putL acc) ∧ NN (l.foldl putL acc) ∧ ∀ v, lkp v (l.foldl putL acc) = max (lkp v acc) (lkp v l)
  | [], acc, h1, h2, _ => ⟨h1, h2, fun v => by have := lkp_ge v acc; simp only [List.foldl_nil, lkp]; omega⟩
  | x :: l, acc, h1, h2, h3 => by
    have hx := h3 x List.mem_cons_self
    rw [List.foldl_cons, putL_ins x h1]
    obtain ⟨a, b, c⟩ := put_all l (ins x acc) (ins_srt x h1) (ins_nn hx h2) fun e he => h3 e (List.mem_cons_of_mem _ he)
    refine ⟨a, b, fun v => ?_⟩
    have := lkp_ge v acc
    have := lkp_ge v l
    rw [c, ins_lkp]
    simp only [lkp]
    split <;> omega
/-! ### join -/
theorem join_mem : ∀ {a b : List LV} {y : LV}, y ∈ joinL a b → (∃ z ∈ a, z.v = y.v ∧ z.p ≤ y.p) ∨ ∃ z ∈ b, z.v = y.v ∧ z.p ≤ y.p
  | [], b, y, h => by rw [joinL] at h; exact .inr ⟨y, h, rfl, Int.le_refl _⟩
  | x :: a, [], y, h => by rw [joinL] at h; exact .inl ⟨y, h, rfl, Int.le_refl _⟩
  | x :: a, z :: b, y, h => by
    rw [joinL] at h
    split at h
    · rcases List.mem_cons.1 h with rfl | h
      · exact .inl ⟨_, List.mem_cons_self, rfl, Int.le_refl _⟩
      · rcases join_mem h with ⟨w, hw, e⟩ | ⟨w, hw, e⟩
        · exact .inl ⟨w, List.mem_cons_of_mem _ hw, e⟩
        · exact .inr ⟨w, hw, e⟩
    · split at h
      · rcases List.mem_cons.1 h with rfl | h
        · exact .inr ⟨_, List.mem_cons_self, rfl, Int.le_refl _⟩
        · rcases join_mem h with ⟨w, hw, e⟩ | ⟨w, hw, e⟩
          · exact .inl ⟨w, hw, e⟩
          · exact .inr ⟨w, List.mem_cons_of_mem _ hw, e⟩
      · rcases List.mem_cons.1 h with rfl | h
        · exact .inl ⟨x, List.mem_cons_self, rfl, by show x.p ≤ mx x.p z.p; rw [mx_max]; omega⟩
        · rcases join_mem h with ⟨w, hw, e⟩ | ⟨w, hw, e⟩
          · exact .inl ⟨w, List.mem_cons_of_mem _ hw, e⟩
          · exact .inr ⟨w, List.mem_cons_of_mem _ hw, e⟩
termination_by a b => a.length + b.length
theorem join_nn {a b : List LV} (h1 : NN a) (h2 : NN b) : NN (joinL a b) := by
  intro y hy
  rcases join_mem hy with ⟨z, hz, e, f⟩ | ⟨z, hz, e, f⟩
  · have := h1 z hz; omega
  · have := h2 z hz; omega
theorem join_srt : ∀ {a b : List LV}, Srt a → Srt b → Srt (joinL a b)
  | [], b, _, h => by rw [joinL]; exact h
  | x :: a, [], h, _ => by rw [joinL]; exact h
  | x :: a, z :: b, h, h' => by
    obtain ⟨h1, h2⟩ := List.pairwise_cons.1 h
    obtain ⟨g1, g2⟩ := List.pairwise_cons.1 h'
    rw [joinL]
    split
    · rename_i c
      refine List.pairwise_cons.2 ⟨fun y hy => ?_, join_srt h2 h'⟩
      rcases join_mem hy with ⟨w, hw, e, _⟩ | ⟨w, hw, e, _⟩
      · have := h1 w hw; omega
      · rcases List.mem_cons.1 hw with rfl | hw
        · omega
        · have := g1 w hw; omega
    · split
      · rename_i c
        refine List.pairwise_cons.2 ⟨fun y hy => ?_, join_srt h g2⟩
        rcases join_mem hy with ⟨w, hw, e, _⟩ | ⟨w, hw, e, _⟩
        · rcases List.mem_cons.1 hw with rfl | hw
          · omega
          · have := h1 w hw; omega
        · have := g1 w hw; omega
      · refine List.pairwise_cons.2 ⟨fun y hy => ?_, join_srt h2 g2⟩
        show x.v < y.v
        rcases join_mem hy with ⟨w, hw, e, _⟩ | ⟨w, hw, e, _⟩
        · have := h1 w hw; omega
        · have := g1 w hw; omega
termination_by a b => a.length + b.length
theorem join_lkp (v : Int) : ∀ (a b : List LV), lkp v (joinL a b) = max (lkp v a) (lkp v b)
  | [], b => by have := lkp_ge v b; rw [joinL]; simp only [lkp]; omega
  | x :: a, [] => by have := lkp_ge v (x :: a); rw [joinL]; simp only [lkp] at this ⊢; omega
  | x :: a, z :: b => by
    rw [joinL]
    split
    · have := join_lkp v a (z :: b)
      simp only [lkp] at this ⊢
      rw [this]
      split <;> split <;> omega
    · split
      · have := join_lkp v (x :: a) b
        simp only [lkp] at this ⊢
        rw [this]
        split <;> split <;> omega
      · have := join_lkp v a b
        have e : x.v = z.v := by omega
        simp only [lkp, mx_max, e, this]
        split <;> omega
termination_by a b => a.length + b.length
/-! ### sorting -/
theorem insR_srt (x : LV) : ∀ (r s : List LV), Srt (r.reverse ++ s) → (∀ y ∈ s, x.v < y.v) → (∀ y ∈ r, y.v ≠ x.v) → Srt (insR x r s)
  | [], s, h, h1, _ => by
    rw [insR]
    exact List.pairwise_cons.2 ⟨h1, by simpa [Srt] using h⟩
  | y :: r, s, h, h1, h2 => by
    have hy := h2 y List.mem_cons_self
    rw [List.reverse_cons, List.append_assoc, List.singleton_append] at h
    unfold insR
    split
    · rename_i c
      refine insR_srt x r (y :: s) h ?_ fun z hz => h2 z (List.mem_cons_of_mem _ hz)
      intro z hz
      rcases List.mem_cons.1 hz with rfl | hz
      · exact c
      · exact h1 z hz
    · rename_i c
      rw [List.reverse_cons, List.append_assoc, List.singleton_append]
      unfold Srt at h ⊢
      rw [List.pairwise_append] at h ⊢
      obtain ⟨p1, p2, p3⟩ := h
      obtain ⟨q1, q2⟩ := List.pairwise_cons.1 p2
      refine ⟨p1, List.pairwise_cons.2 ⟨?_, List.pairwise_cons.2 ⟨h1, q2⟩⟩, ?_⟩
      · intro z hz
        rcases List.mem_cons.1 hz with rfl | hz
        · omega
        · exact q1 z hz
      · intro w hw z hz
        have hwy := p3 w hw y List.mem_cons_self
        rcases List.mem_cons.1 hz with rfl | hz
        · exact hwy
        · rcases List.mem_cons.1 hz with rfl | hz
          · omega
          · have := q1 z hz; omega
theorem isort_srt : ∀ (r acc : List LV), Srt acc → (acc ++ r).Pairwise (fun a b => a.v ≠ b.v) → Srt (isort acc r)
  | [], acc, h, _ => by rw [isort]; exact h
  | x :: r, acc, h, h1 => by
    rw [isort]
    have hx : ∀ y ∈ acc, y.v ≠ x.v := fun y hy => (List.pairwise_append.1 h1).2.2 y hy x List.mem_cons_self
    have hs : Srt (insR x acc.reverse []) := insR_srt x acc.reverse [] (by simpa using h) (by simp) fun y hy => hx y (by simpa using hy)
    refine isort_srt r _ hs ?_
    have hp : ∀ {a b : LV}, a.v ≠ b.v → b.v ≠ a.v := fun h e => h e.symm
    have hs' : (insR x acc.reverse []).Pairwise (fun a b => a.v ≠ b.v) := hs.imp fun {a b} h => by omega
    obtain ⟨p1, p2, p3⟩ := List.pairwise_append.1 h1
    obtain ⟨q1, q2⟩ := List.pairwise_cons.1 p2
    refine List.pairwise_append.2 ⟨hs', q2, fun a ha b hb => ?_⟩
    rcases (insR_mem x acc.reverse [] a).1 ha with rfl | ha | ha
    · exact q1 b hb
    · exact p3 a (by simpa using ha) b (List.mem_cons_of_mem _ hb)
    · cases ha
theorem sortL_srt {l : List LV} (h : l.Pairwise (fun a b => a.v ≠ b.v)) : Srt (sortL l) := by
  cases l with
  | nil => exact List.Pairwise.nil
  | cons a r => unfold sortL; exact isort_srt r [a] (by simp [Srt]) (by simpa using h)
end Go.Proofs.YteenjodhmppgjaaGreatDoor.Am
end
