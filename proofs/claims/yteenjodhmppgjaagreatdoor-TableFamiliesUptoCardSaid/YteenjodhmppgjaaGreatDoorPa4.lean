/- Part 4 of the proof of the card of TableFamilies, second form: no statement of its own; no conditions. -/
import Derived.Test.YteenjodhmppgjaaGreatDoorPa3
set_option linter.unusedSimpArgs false
set_option linter.unusedVariables false
set_option linter.defProp false
set_option linter.unusedSectionVars false
section
/- Levels: what the reference puts in for variables. -/
namespace Go.Proofs.YteenjodhmppgjaaGreatDoor.Am
open Go
variable (ext : Ext)
set_option maxHeartbeats 4000000
noncomputable def B85 : Code := (Tryz.f85.body.getD .skip)
noncomputable def L85a : Code := sub B85 [1, 1, 1, 1, 0, 1, 0, 0]
noncomputable def K85a : List It := [.inBlock 0, .code (sub B85 [1, 1, 1, 1, 1])]
noncomputable def H85a (ext : Ext) (m : Nat) (env : Env) (loc : List O) : Option Out := run Tryz.prog ext (.k ⟨72, m, [.cell 4 36, .tmp 5], false⟩ (.code L85a :: .inLoop L85a :: K85a) env loc)
theorem callOut_cs (slot : Nat) (cs : List C) (x : D) (h : cs.all dataC = true) : callOut [] [] slot (some (.ret [.agg cs, .c (.d x)] [])) = some ⟨.val (.tup [(true, cs), (false, [.d x])]), [], []⟩ := by
  obtain ⟨_, _, h3⟩ := argCs_data (look := fun _ => none) h
  simp only [callOut, answer, mapO, renV, h3, renC, results1, comp, List.length_nil, Nat.lt_irrefl, if_false]
  split <;> rfl
def substStep (bys : List Lev) (s : Int × List LV) (y : LV) : (Int × List LV) ⊕ Unit :=
  if y.v ≥ bys.length then .inl (s.1, s.2 ++ [y]) else match bys[y.v.toNat]? with
  | some b => if b.valid then .inl (mx s.1 (wr (b.c + y.p)), s.2 ++ b.vs.map (moreLV y.p)) else .inr ()
  | none => .inr ()
def substR (x : Lev) (bys : List Lev) : Lev × Int :=
  if x.valid then match foldE (substStep bys) (x.c, []) x.vs with
    | .inr _ => (zLev, 4)
    | .inl s => fitsR (canonR s.1 s.2)
  else (zLev, 4)
def E85 (z : Bool) (bys : List Lev) (c : Int) (els : List LV) (k : Int) : Env := [(1, dV (listD z 2 (bys.map levD))), (2, .c (.ptr 0 0)), (4, .c (.ptr 1 0)), (6, iV c), (7, mkV 2 (els.map lvD)), (8, iV k)]
def O85 (x : Lev) (els : List LV) : List O := .box (levC x) :: .box (levC zLev) :: mkO 2 (els.map lvD)
theorem enter85 (hx : ext 85 = none) (x : Lev) (z : Bool) (bys : List Lev) (hr : run Tryz.prog ext (.call 126 [levV x] []) = some (.ret [bV true] [])) (out : Option Out) (h : H85a ext 0 (E85 z bys x.c [] 0) (O85 x []) = out) : run Tryz.prog ext (.call 85 [levV x, dV (listD z 2 (bys.map levD))] []) = out := by
  unfold H85a at h
  (rw [run_eq]; simp only [stepA, hx, Tryz.func85, Tryz.f85, show retF 85 = false from rfl]; simp only [List.length_cons, List.length_nil, Nat.reduceAdd, Nat.reduceLeDiff, Nat.zero_le, ↓reduceIte, List.zipIdx_cons, List.zipIdx_nil, List.map_cons, List.map_nil])
  simp only [levV, levC_z, levC, Lev.d, dV, iV, bV, E85, O85, List.map_nil, mkV_nil, mkO_nil] at h hr ⊢
  simp only [zS, nilEq, wantedA, opA, eff, boxA, cells, ev, gt, pt, putO, updO, setO, okC, loadA, cutC, fieldAddrA, fieldA, indexAddrA, indexA, builtinA, callOpA, callV, target, ptrV, lenS, binA, intOp, strOp, unA, num, lk, over, allocA, pickA, buildA, fillA, convertA, extractA, ofComp, nilCheckA, makeFuncA, ptrs, ofValue, cellB, Nat.reduceAdd, Nat.reduceSub, Nat.reduceMul, Nat.reduceLT, Nat.reduceLeDiff, Nat.reduceGT, ↓reduceIte, Nat.reduceEqDiff, Nat.reduceBEq, reduceCtorEq, Int.reduceBEq, Int.reduceBNe, Int.reduceLT, Int.reduceLE, Int.reduceGT, Int.reduceGE, aggT_36, sizeT_36, bytesT_36, fieldT_36_0, fieldT_36_1, placesT_36, zeroT_36, aggT_34, sizeT_34, bytesT_34, und_34, elemT_34, isSliceT_34, zero1_34, zeroT_34, aggT_110, sizeT_110, bytesT_110, fieldT_110_0, fieldT_110_1, placesT_110, zeroT_110, aggT_3, sizeT_3, bytesT_3, und_3, zero1_3, zeroT_3, hr]
  (refine (r_inLoop_some ?_).trans h; kernel_rfl)
theorem bad85 (hx : ext 85 = none) (x : Lev) (z : Bool) (bys : List Lev) (hr : run Tryz.prog ext (.call 126 [levV x] []) = some (.ret [bV false] [])) : run Tryz.prog ext (.call 85 [levV x, dV (listD z 2 (bys.map levD))] []) = some (.ret [levV zLev, iV 4] []) := by
  (rw [run_eq]; simp only [stepA, hx, Tryz.func85, Tryz.f85, show retF 85 = false from rfl]; simp only [List.length_cons, List.length_nil, Nat.reduceAdd, Nat.reduceLeDiff, Nat.zero_le, ↓reduceIte, List.zipIdx_cons, List.zipIdx_nil, List.map_cons, List.map_nil])
  simp only [levV, levC_z, levC, Lev.d, dV, iV, bV] at hr ⊢
  simp only [zS, nilEq, wantedA, opA, eff, boxA, cells, ev, gt, pt, putO, updO, setO, okC, loadA, cutC, fieldAddrA, fieldA, indexAddrA, indexA, builtinA, callOpA, callV, target, ptrV, lenS, binA, intOp, strOp, unA, num, lk, over, allocA, pickA, buildA, fillA, convertA, extractA, ofComp, nilCheckA, makeFuncA, ptrs, ofValue, cellB, Nat.reduceAdd, Nat.reduceSub, Nat.reduceMul, Nat.reduceLT, Nat.reduceLeDiff, Nat.reduceGT, ↓reduceIte, Nat.reduceEqDiff, Nat.reduceBEq, reduceCtorEq, Int.reduceBEq, Int.reduceBNe, Int.reduceLT, Int.reduceLE, Int.reduceGT, Int.reduceGE, aggT_36, sizeT_36, bytesT_36, fieldT_36_0, fieldT_36_1, placesT_36, zeroT_36, aggT_34, sizeT_34, bytesT_34, und_34, elemT_34, isSliceT_34, zero1_34, zeroT_34, aggT_110, sizeT_110, bytesT_110, fieldT_110_0, fieldT_110_1, placesT_110, zeroT_110, aggT_3, sizeT_3, bytesT_3, und_3, zero1_3, zeroT_3, hr]
  (refine Eq.trans ?_ rfl; kernel_rfl)
theorem lev_at {bys : List Lev} {y : LV} {b : Lev} (hb : bys[y.v.toNat]? = some b) : (bys.map levD)[y.v.toNat]? = some [.v (.int .i64 b.c), b.d] := by rw [List.getElem?_map, hb]; rfl
theorem stepA85 (x : Lev) (z : Bool) (bys : List Lev) (y : LV) (c : Int) (els : List LV) (k : Nat) (hk : x.vs[k]? = some y) (hl : (k : Int) < x.vs.length) (hlen : els.length < 1000000) (h1 : y.v ≥ bys.length) (out : Option Out)
    (h : H85a ext 0 (E85 z bys c (els ++ [y]) (wr ((k : Int) + 1))) (O85 x (els ++ [y])) = out) : H85a ext 0 (E85 z bys c els k) (O85 x els) = out := by
  have h0 : (0 : Int) ≤ k := by omega
  have hd : listD x.z 2 (x.vs.map lvD) = .s 2 (x.vs.map lvD) := listD_of_lt h0 (by simpa using hl)
  unfold H85a at h ⊢
  simp only [dV, iV, E85, O85, levC_z, levC, Lev.d, hd, List.map_append, List.map_cons, List.map_nil, mkV_snoc, mkO_snoc, lvD_eq y] at h ⊢
  cases els with
  | nil =>
    simp only [List.map_nil, mkV_nil, mkO_nil, List.nil_append] at h ⊢
    (rw [show (It.code L85a) = It.code (sub B85 [1, 1, 1, 1, 0, 1, 0, 0]) from rfl]; simp only [B85, K85a, sub, Option.getD_some, Tryz.f85, ↓reduceIte, Nat.one_ne_zero])
    simp only [zS, nilEq, wantedA, opA, eff, boxA, cells, ev, gt, pt, putO, updO, setO, okC, loadA, cutC, fieldAddrA, fieldA, indexAddrA, indexA, builtinA, callOpA, callV, target, ptrV, lenS, binA, intOp, strOp, unA, num, lk, over, allocA, pickA, buildA, fillA, convertA, extractA, ofComp, nilCheckA, makeFuncA, ptrs, ofValue, cellB, Nat.reduceAdd, Nat.reduceSub, Nat.reduceMul, Nat.reduceLT, Nat.reduceLeDiff, Nat.reduceGT, ↓reduceIte, Nat.reduceEqDiff, Nat.reduceBEq, reduceCtorEq, Int.reduceBEq, Int.reduceBNe, Int.reduceLT, Int.reduceLE, Int.reduceGT, Int.reduceGE, aggT_30, sizeT_30, bytesT_30, und_30, elemT_30, isSliceT_30, zero1_30, zeroT_30, aggT_36, sizeT_36, bytesT_36, fieldT_36_0, fieldT_36_1, placesT_36, zeroT_36, aggT_34, sizeT_34, bytesT_34, und_34, elemT_34, isSliceT_34, zero1_34, zeroT_34, aggT_110, sizeT_110, bytesT_110, fieldT_110_0, fieldT_110_1, placesT_110, zeroT_110, aggT_3, sizeT_3, bytesT_3, und_3, zero1_3, zeroT_3, h0, hl, Int.toNat_natCast, hk, h1, lvD, bsLV, no34, apH_arr, Nat.zero_le]
    (refine (r_inLoop_some ?_).trans h; kernel_rfl)
  | cons a r =>
    have hb' : r.length + 1 ≤ 1000000000 := by simp only [List.length_cons] at hlen; omega
    simp only [List.map_cons, mkV_cons, mkO_cons, List.cons_append, List.nil_append] at h ⊢
    (rw [show (It.code L85a) = It.code (sub B85 [1, 1, 1, 1, 0, 1, 0, 0]) from rfl]; simp only [B85, K85a, sub, Option.getD_some, Tryz.f85, ↓reduceIte, Nat.one_ne_zero])
    simp only [zS, nilEq, wantedA, opA, eff, boxA, cells, ev, gt, pt, putO, updO, setO, okC, loadA, cutC, fieldAddrA, fieldA, indexAddrA, indexA, builtinA, callOpA, callV, target, ptrV, lenS, binA, intOp, strOp, unA, num, lk, over, allocA, pickA, buildA, fillA, convertA, extractA, ofComp, nilCheckA, makeFuncA, ptrs, ofValue, cellB, Nat.reduceAdd, Nat.reduceSub, Nat.reduceMul, Nat.reduceLT, Nat.reduceLeDiff, Nat.reduceGT, ↓reduceIte, Nat.reduceEqDiff, Nat.reduceBEq, reduceCtorEq, Int.reduceBEq, Int.reduceBNe, Int.reduceLT, Int.reduceLE, Int.reduceGT, Int.reduceGE, aggT_30, sizeT_30, bytesT_30, und_30, elemT_30, isSliceT_30, zero1_30, zeroT_30, aggT_36, sizeT_36, bytesT_36, fieldT_36_0, fieldT_36_1, placesT_36, zeroT_36, aggT_34, sizeT_34, bytesT_34, und_34, elemT_34, isSliceT_34, zero1_34, zeroT_34, aggT_110, sizeT_110, bytesT_110, fieldT_110_0, fieldT_110_1, placesT_110, zeroT_110, aggT_3, sizeT_3, bytesT_3, und_3, zero1_3, zeroT_3, h0, hl, Int.toNat_natCast, hk, h1, lvD, bsLV, oo34, apG_arr, hb']
    (refine (r_inLoop_some ?_).trans h; kernel_rfl)
theorem stepB85 (x : Lev) (z : Bool) (bys : List Lev) (y : LV) (b : Lev) (c : Int) (els : List LV) (k : Nat) (hk : x.vs[k]? = some y) (hl : (k : Int) < x.vs.length) (h1 : ¬ y.v ≥ bys.length) (h2 : y.v < bys.length) (h3 : 0 ≤ y.v) (hb : bys[y.v.toNat]? = some b)
    (hr : run Tryz.prog ext (.call 126 [levV b] []) = some (.ret [bV false] [])) : H85a ext 0 (E85 z bys c els k) (O85 x els) = some (.ret [levV zLev, iV 4] []) := by
  have h0 : (0 : Int) ≤ k := by omega
  have hd : listD x.z 2 (x.vs.map lvD) = .s 2 (x.vs.map lvD) := listD_of_lt h0 (by simpa using hl)
  have hd2 : listD z 2 (bys.map levD) = .s 2 (bys.map levD) := listD_of_lt h3 (by simpa using h2)
  have hbb := lev_at hb
  unfold H85a
  cases els with
  | nil =>
    simp only [levV, dV, iV, bV, E85, O85, levC_z, levC, Lev.d, hd, hd2, List.map_nil, mkV_nil, mkO_nil] at hr hbb ⊢
    (rw [show (It.code L85a) = It.code (sub B85 [1, 1, 1, 1, 0, 1, 0, 0]) from rfl]; simp only [B85, K85a, sub, Option.getD_some, Tryz.f85, ↓reduceIte, Nat.one_ne_zero])
    simp only [zS, nilEq, wantedA, opA, eff, boxA, cells, ev, gt, pt, putO, updO, setO, okC, loadA, cutC, fieldAddrA, fieldA, indexAddrA, indexA, builtinA, callOpA, callV, target, ptrV, lenS, binA, intOp, strOp, unA, num, lk, over, allocA, pickA, buildA, fillA, convertA, extractA, ofComp, nilCheckA, makeFuncA, ptrs, ofValue, cellB, Nat.reduceAdd, Nat.reduceSub, Nat.reduceMul, Nat.reduceLT, Nat.reduceLeDiff, Nat.reduceGT, ↓reduceIte, Nat.reduceEqDiff, Nat.reduceBEq, reduceCtorEq, Int.reduceBEq, Int.reduceBNe, Int.reduceLT, Int.reduceLE, Int.reduceGT, Int.reduceGE, aggT_30, sizeT_30, bytesT_30, und_30, elemT_30, isSliceT_30, zero1_30, zeroT_30, aggT_36, sizeT_36, bytesT_36, fieldT_36_0, fieldT_36_1, placesT_36, zeroT_36, aggT_34, sizeT_34, bytesT_34, und_34, elemT_34, isSliceT_34, zero1_34, zeroT_34, aggT_110, sizeT_110, bytesT_110, fieldT_110_0, fieldT_110_1, placesT_110, zeroT_110, aggT_3, sizeT_3, bytesT_3, und_3, zero1_3, zeroT_3, h0, hl, Int.toNat_natCast, hk, h1, h2, h3, hb, levD, Lev.d, lvD, hr]
    (refine Eq.trans ?_ rfl; kernel_rfl)
  | cons a r =>
    simp only [levV, dV, iV, bV, E85, O85, levC_z, levC, Lev.d, hd, hd2, List.map_cons, mkV_cons, mkO_cons] at hr hbb ⊢
    (rw [show (It.code L85a) = It.code (sub B85 [1, 1, 1, 1, 0, 1, 0, 0]) from rfl]; simp only [B85, K85a, sub, Option.getD_some, Tryz.f85, ↓reduceIte, Nat.one_ne_zero])
    simp only [zS, nilEq, wantedA, opA, eff, boxA, cells, ev, gt, pt, putO, updO, setO, okC, loadA, cutC, fieldAddrA, fieldA, indexAddrA, indexA, builtinA, callOpA, callV, target, ptrV, lenS, binA, intOp, strOp, unA, num, lk, over, allocA, pickA, buildA, fillA, convertA, extractA, ofComp, nilCheckA, makeFuncA, ptrs, ofValue, cellB, Nat.reduceAdd, Nat.reduceSub, Nat.reduceMul, Nat.reduceLT, Nat.reduceLeDiff, Nat.reduceGT, ↓reduceIte, Nat.reduceEqDiff, Nat.reduceBEq, reduceCtorEq, Int.reduceBEq, Int.reduceBNe, Int.reduceLT, Int.reduceLE, Int.reduceGT, Int.reduceGE, aggT_30, sizeT_30, bytesT_30, und_30, elemT_30, isSliceT_30, zero1_30, zeroT_30, aggT_36, sizeT_36, bytesT_36, fieldT_36_0, fieldT_36_1, placesT_36, zeroT_36, aggT_34, sizeT_34, bytesT_34, und_34, elemT_34, isSliceT_34, zero1_34, zeroT_34, aggT_110, sizeT_110, bytesT_110, fieldT_110_0, fieldT_110_1, placesT_110, zeroT_110, aggT_3, sizeT_3, bytesT_3, und_3, zero1_3, zeroT_3, h0, hl, Int.toNat_natCast, hk, h1, h2, h3, hb, levD, Lev.d, lvD, hr]
    (refine Eq.trans ?_ rfl; kernel_rfl)
theorem stepC85 (h127 : ext 127 = none) (x : Lev) (z : Bool) (bys : List Lev) (y : LV) (b : Lev) (c : Int) (els : List LV) (k : Nat) (hk : x.vs[k]? = some y) (hl : (k : Int) < x.vs.length) (hlen : els.length < 1000000) (hbl : b.vs.length < 1000000) (h1 : ¬ y.v ≥ bys.length) (h2 : y.v < bys.length) (h3 : 0 ≤ y.v) (hb : bys[y.v.toNat]? = some b)
    (hr : run Tryz.prog ext (.call 126 [levV b] []) = some (.ret [bV true] [])) (out : Option Out)
    (h : H85a ext 0 (E85 z bys (mx c (wr (b.c + y.p))) (els ++ b.vs.map (moreLV y.p)) (wr ((k : Int) + 1))) (O85 x (els ++ b.vs.map (moreLV y.p))) = out) : H85a ext 0 (E85 z bys c els k) (O85 x els) = out := by
  have h0 : (0 : Int) ≤ k := by omega
  have hd : listD x.z 2 (x.vs.map lvD) = .s 2 (x.vs.map lvD) := listD_of_lt h0 (by simpa using hl)
  have hd2 : listD z 2 (bys.map levD) = .s 2 (bys.map levD) := listD_of_lt h3 (by simpa using h2)
  have hm := more127 ext h127 b y.p hbl
  have hml : (b.vs.map (moreLV y.p)).length < 1000000 := by simpa using hbl
  generalize b.vs.map (moreLV y.p) = new at hm h hml
  unfold H85a at h ⊢
  cases els with
  | nil =>
    cases new with
    | nil =>
      simp only [levV, dV, iV, bV, E85, O85, levC_z, levC, Lev.d, hd, hd2, List.append_nil, List.map_nil, mkV_nil, mkO_nil, listD_true, mx] at hr hm h ⊢
      (rw [show (It.code L85a) = It.code (sub B85 [1, 1, 1, 1, 0, 1, 0, 0]) from rfl]; simp only [B85, K85a, sub, Option.getD_some, Tryz.f85, ↓reduceIte, Nat.one_ne_zero])
      simp only [zS, nilEq, wantedA, opA, eff, boxA, cells, ev, gt, pt, putO, updO, setO, okC, loadA, cutC, fieldAddrA, fieldA, indexAddrA, indexA, builtinA, callOpA, callV, target, ptrV, lenS, binA, intOp, strOp, unA, num, lk, over, allocA, pickA, buildA, fillA, convertA, extractA, ofComp, nilCheckA, makeFuncA, ptrs, ofValue, cellB, Nat.reduceAdd, Nat.reduceSub, Nat.reduceMul, Nat.reduceLT, Nat.reduceLeDiff, Nat.reduceGT, ↓reduceIte, Nat.reduceEqDiff, Nat.reduceBEq, reduceCtorEq, Int.reduceBEq, Int.reduceBNe, Int.reduceLT, Int.reduceLE, Int.reduceGT, Int.reduceGE, aggT_30, sizeT_30, bytesT_30, und_30, elemT_30, isSliceT_30, zero1_30, zeroT_30, aggT_36, sizeT_36, bytesT_36, fieldT_36_0, fieldT_36_1, placesT_36, zeroT_36, aggT_34, sizeT_34, bytesT_34, und_34, elemT_34, isSliceT_34, zero1_34, zeroT_34, aggT_110, sizeT_110, bytesT_110, fieldT_110_0, fieldT_110_1, placesT_110, zeroT_110, aggT_3, sizeT_3, bytesT_3, und_3, zero1_3, zeroT_3, drawA, holes_succ, holes_zero, Array.size, List.length, maxA, h0, hl, Int.toNat_natCast, hk, h1, h2, h3, hb, levD, Lev.d, lvD, hr]
      rw [afterDraw_some _ _ _ _ (by kernel_rfl)]
      simp only [zS, nilEq, wantedA, opA, eff, boxA, cells, ev, gt, pt, putO, updO, setO, okC, loadA, cutC, fieldAddrA, fieldA, indexAddrA, indexA, builtinA, callOpA, callV, target, ptrV, lenS, binA, intOp, strOp, unA, num, lk, over, allocA, pickA, buildA, fillA, convertA, extractA, ofComp, nilCheckA, makeFuncA, ptrs, ofValue, cellB, Nat.reduceAdd, Nat.reduceSub, Nat.reduceMul, Nat.reduceLT, Nat.reduceLeDiff, Nat.reduceGT, ↓reduceIte, Nat.reduceEqDiff, Nat.reduceBEq, reduceCtorEq, Int.reduceBEq, Int.reduceBNe, Int.reduceLT, Int.reduceLE, Int.reduceGT, Int.reduceGE, aggT_30, sizeT_30, bytesT_30, und_30, elemT_30, isSliceT_30, zero1_30, zeroT_30, aggT_36, sizeT_36, bytesT_36, fieldT_36_0, fieldT_36_1, placesT_36, zeroT_36, aggT_34, sizeT_34, bytesT_34, und_34, elemT_34, isSliceT_34, zero1_34, zeroT_34, aggT_110, sizeT_110, bytesT_110, fieldT_110_0, fieldT_110_1, placesT_110, zeroT_110, aggT_3, sizeT_3, bytesT_3, und_3, zero1_3, zeroT_3, drawA, holes_succ, holes_zero, Array.size, List.length, h0, hl, Int.toNat_natCast, hk, h2, h3, hb, levD, Lev.d, lvD, hm, nn34]
      rw [afterDraw_some _ _ _ _ (by kernel_rfl)]
      simp only [zS, nilEq, wantedA, opA, eff, boxA, cells, ev, gt, pt, putO, updO, setO, okC, loadA, cutC, fieldAddrA, fieldA, indexAddrA, indexA, builtinA, callOpA, callV, target, ptrV, lenS, binA, intOp, strOp, unA, num, lk, over, allocA, pickA, buildA, fillA, convertA, extractA, ofComp, nilCheckA, makeFuncA, ptrs, ofValue, cellB, Nat.reduceAdd, Nat.reduceSub, Nat.reduceMul, Nat.reduceLT, Nat.reduceLeDiff, Nat.reduceGT, ↓reduceIte, Nat.reduceEqDiff, Nat.reduceBEq, reduceCtorEq, Int.reduceBEq, Int.reduceBNe, Int.reduceLT, Int.reduceLE, Int.reduceGT, Int.reduceGE]
      (refine (r_inLoop_some ?_).trans h; kernel_rfl)
    | cons n ns =>
      have hb2 : ns.length < 1000000000 := by simp only [List.length_cons] at hml; omega
      simp only [levV, dV, iV, bV, E85, O85, levC_z, levC, Lev.d, hd, hd2, List.nil_append, List.map_nil, List.map_cons, mkV_nil, mkO_nil, mkV_cons, mkO_cons, listD_true, mx] at hr hm h ⊢
      (rw [show (It.code L85a) = It.code (sub B85 [1, 1, 1, 1, 0, 1, 0, 0]) from rfl]; simp only [B85, K85a, sub, Option.getD_some, Tryz.f85, ↓reduceIte, Nat.one_ne_zero])
      simp only [zS, nilEq, wantedA, opA, eff, boxA, cells, ev, gt, pt, putO, updO, setO, okC, loadA, cutC, fieldAddrA, fieldA, indexAddrA, indexA, builtinA, callOpA, callV, target, ptrV, lenS, binA, intOp, strOp, unA, num, lk, over, allocA, pickA, buildA, fillA, convertA, extractA, ofComp, nilCheckA, makeFuncA, ptrs, ofValue, cellB, Nat.reduceAdd, Nat.reduceSub, Nat.reduceMul, Nat.reduceLT, Nat.reduceLeDiff, Nat.reduceGT, ↓reduceIte, Nat.reduceEqDiff, Nat.reduceBEq, reduceCtorEq, Int.reduceBEq, Int.reduceBNe, Int.reduceLT, Int.reduceLE, Int.reduceGT, Int.reduceGE, aggT_30, sizeT_30, bytesT_30, und_30, elemT_30, isSliceT_30, zero1_30, zeroT_30, aggT_36, sizeT_36, bytesT_36, fieldT_36_0, fieldT_36_1, placesT_36, zeroT_36, aggT_34, sizeT_34, bytesT_34, und_34, elemT_34, isSliceT_34, zero1_34, zeroT_34, aggT_110, sizeT_110, bytesT_110, fieldT_110_0, fieldT_110_1, placesT_110, zeroT_110, aggT_3, sizeT_3, bytesT_3, und_3, zero1_3, zeroT_3, drawA, holes_succ, holes_zero, Array.size, List.length, maxA, h0, hl, Int.toNat_natCast, hk, h1, h2, h3, hb, levD, Lev.d, lvD, hr]
      rw [afterDraw_some _ _ _ _ (by kernel_rfl)]
      simp only [zS, nilEq, wantedA, opA, eff, boxA, cells, ev, gt, pt, putO, updO, setO, okC, loadA, cutC, fieldAddrA, fieldA, indexAddrA, indexA, builtinA, callOpA, callV, target, ptrV, lenS, binA, intOp, strOp, unA, num, lk, over, allocA, pickA, buildA, fillA, convertA, extractA, ofComp, nilCheckA, makeFuncA, ptrs, ofValue, cellB, Nat.reduceAdd, Nat.reduceSub, Nat.reduceMul, Nat.reduceLT, Nat.reduceLeDiff, Nat.reduceGT, ↓reduceIte, Nat.reduceEqDiff, Nat.reduceBEq, reduceCtorEq, Int.reduceBEq, Int.reduceBNe, Int.reduceLT, Int.reduceLE, Int.reduceGT, Int.reduceGE, aggT_30, sizeT_30, bytesT_30, und_30, elemT_30, isSliceT_30, zero1_30, zeroT_30, aggT_36, sizeT_36, bytesT_36, fieldT_36_0, fieldT_36_1, placesT_36, zeroT_36, aggT_34, sizeT_34, bytesT_34, und_34, elemT_34, isSliceT_34, zero1_34, zeroT_34, aggT_110, sizeT_110, bytesT_110, fieldT_110_0, fieldT_110_1, placesT_110, zeroT_110, aggT_3, sizeT_3, bytesT_3, und_3, zero1_3, zeroT_3, drawA, holes_succ, holes_zero, Array.size, List.length, h0, hl, Int.toNat_natCast, hk, h2, h3, hb, levD, Lev.d, lvD_eq y, hm, ns34, hb2]
      rw [afterDraw_some _ _ _ _ (by kernel_rfl)]
      simp only [zS, nilEq, wantedA, opA, eff, boxA, cells, ev, gt, pt, putO, updO, setO, okC, loadA, cutC, fieldAddrA, fieldA, indexAddrA, indexA, builtinA, callOpA, callV, target, ptrV, lenS, binA, intOp, strOp, unA, num, lk, over, allocA, pickA, buildA, fillA, convertA, extractA, ofComp, nilCheckA, makeFuncA, ptrs, ofValue, cellB, Nat.reduceAdd, Nat.reduceSub, Nat.reduceMul, Nat.reduceLT, Nat.reduceLeDiff, Nat.reduceGT, ↓reduceIte, Nat.reduceEqDiff, Nat.reduceBEq, reduceCtorEq, Int.reduceBEq, Int.reduceBNe, Int.reduceLT, Int.reduceLE, Int.reduceGT, Int.reduceGE]
      (refine (r_inLoop_some ?_).trans h; kernel_rfl)
  | cons a r =>
    have hb' : r.length + 1 ≤ 1000000000 := by simp only [List.length_cons] at hlen; omega
    cases new with
    | nil =>
      simp only [levV, dV, iV, bV, E85, O85, levC_z, levC, Lev.d, hd, hd2, List.append_nil, List.map_nil, List.map_cons, mkV_cons, mkO_cons, listD_true, mx] at hr hm h ⊢
      (rw [show (It.code L85a) = It.code (sub B85 [1, 1, 1, 1, 0, 1, 0, 0]) from rfl]; simp only [B85, K85a, sub, Option.getD_some, Tryz.f85, ↓reduceIte, Nat.one_ne_zero])
      simp only [zS, nilEq, wantedA, opA, eff, boxA, cells, ev, gt, pt, putO, updO, setO, okC, loadA, cutC, fieldAddrA, fieldA, indexAddrA, indexA, builtinA, callOpA, callV, target, ptrV, lenS, binA, intOp, strOp, unA, num, lk, over, allocA, pickA, buildA, fillA, convertA, extractA, ofComp, nilCheckA, makeFuncA, ptrs, ofValue, cellB, Nat.reduceAdd, Nat.reduceSub, Nat.reduceMul, Nat.reduceLT, Nat.reduceLeDiff, Nat.reduceGT, ↓reduceIte, Nat.reduceEqDiff, Nat.reduceBEq, reduceCtorEq, Int.reduceBEq, Int.reduceBNe, Int.reduceLT, Int.reduceLE, Int.reduceGT, Int.reduceGE, aggT_30, sizeT_30, bytesT_30, und_30, elemT_30, isSliceT_30, zero1_30, zeroT_30, aggT_36, sizeT_36, bytesT_36, fieldT_36_0, fieldT_36_1, placesT_36, zeroT_36, aggT_34, sizeT_34, bytesT_34, und_34, elemT_34, isSliceT_34, zero1_34, zeroT_34, aggT_110, sizeT_110, bytesT_110, fieldT_110_0, fieldT_110_1, placesT_110, zeroT_110, aggT_3, sizeT_3, bytesT_3, und_3, zero1_3, zeroT_3, drawA, holes_succ, holes_zero, Array.size, List.length, maxA, h0, hl, Int.toNat_natCast, hk, h1, h2, h3, hb, levD, Lev.d, lvD_eq y, hr]
      rw [afterDraw_some _ _ _ _ (by kernel_rfl)]
      simp only [zS, nilEq, wantedA, opA, eff, boxA, cells, ev, gt, pt, putO, updO, setO, okC, loadA, cutC, fieldAddrA, fieldA, indexAddrA, indexA, builtinA, callOpA, callV, target, ptrV, lenS, binA, intOp, strOp, unA, num, lk, over, allocA, pickA, buildA, fillA, convertA, extractA, ofComp, nilCheckA, makeFuncA, ptrs, ofValue, cellB, Nat.reduceAdd, Nat.reduceSub, Nat.reduceMul, Nat.reduceLT, Nat.reduceLeDiff, Nat.reduceGT, ↓reduceIte, Nat.reduceEqDiff, Nat.reduceBEq, reduceCtorEq, Int.reduceBEq, Int.reduceBNe, Int.reduceLT, Int.reduceLE, Int.reduceGT, Int.reduceGE, aggT_30, sizeT_30, bytesT_30, und_30, elemT_30, isSliceT_30, zero1_30, zeroT_30, aggT_36, sizeT_36, bytesT_36, fieldT_36_0, fieldT_36_1, placesT_36, zeroT_36, aggT_34, sizeT_34, bytesT_34, und_34, elemT_34, isSliceT_34, zero1_34, zeroT_34, aggT_110, sizeT_110, bytesT_110, fieldT_110_0, fieldT_110_1, placesT_110, zeroT_110, aggT_3, sizeT_3, bytesT_3, und_3, zero1_3, zeroT_3, drawA, holes_succ, holes_zero, Array.size, List.length, h0, hl, Int.toNat_natCast, hk, h2, h3, hb, levD, Lev.d, lvD_eq y, hm, on34, apI_arr, hb', Nat.zero_le]
      rw [afterDraw_some _ _ _ _ (by kernel_rfl)]
      simp only [zS, nilEq, wantedA, opA, eff, boxA, cells, ev, gt, pt, putO, updO, setO, okC, loadA, cutC, fieldAddrA, fieldA, indexAddrA, indexA, builtinA, callOpA, callV, target, ptrV, lenS, binA, intOp, strOp, unA, num, lk, over, allocA, pickA, buildA, fillA, convertA, extractA, ofComp, nilCheckA, makeFuncA, ptrs, ofValue, cellB, Nat.reduceAdd, Nat.reduceSub, Nat.reduceMul, Nat.reduceLT, Nat.reduceLeDiff, Nat.reduceGT, ↓reduceIte, Nat.reduceEqDiff, Nat.reduceBEq, reduceCtorEq, Int.reduceBEq, Int.reduceBNe, Int.reduceLT, Int.reduceLE, Int.reduceGT, Int.reduceGE]
      (refine (r_inLoop_some ?_).trans h; kernel_rfl)
    | cons n ns =>
      have hb2 : ns.length + 1 ≤ 1000000000 := by simp only [List.length_cons] at hml; omega
      simp only [levV, dV, iV, bV, E85, O85, levC_z, levC, Lev.d, hd, hd2, List.cons_append, List.map_append, List.map_cons, mkV_cons, mkO_cons, listD_true, mx] at hr hm h ⊢
      (rw [show (It.code L85a) = It.code (sub B85 [1, 1, 1, 1, 0, 1, 0, 0]) from rfl]; simp only [B85, K85a, sub, Option.getD_some, Tryz.f85, ↓reduceIte, Nat.one_ne_zero])
      simp only [zS, nilEq, wantedA, opA, eff, boxA, cells, ev, gt, pt, putO, updO, setO, okC, loadA, cutC, fieldAddrA, fieldA, indexAddrA, indexA, builtinA, callOpA, callV, target, ptrV, lenS, binA, intOp, strOp, unA, num, lk, over, allocA, pickA, buildA, fillA, convertA, extractA, ofComp, nilCheckA, makeFuncA, ptrs, ofValue, cellB, Nat.reduceAdd, Nat.reduceSub, Nat.reduceMul, Nat.reduceLT, Nat.reduceLeDiff, Nat.reduceGT, ↓reduceIte, Nat.reduceEqDiff, Nat.reduceBEq, reduceCtorEq, Int.reduceBEq, Int.reduceBNe, Int.reduceLT, Int.reduceLE, Int.reduceGT, Int.reduceGE, aggT_30, sizeT_30, bytesT_30, und_30, elemT_30, isSliceT_30, zero1_30, zeroT_30, aggT_36, sizeT_36, bytesT_36, fieldT_36_0, fieldT_36_1, placesT_36, zeroT_36, aggT_34, sizeT_34, bytesT_34, und_34, elemT_34, isSliceT_34, zero1_34, zeroT_34, aggT_110, sizeT_110, bytesT_110, fieldT_110_0, fieldT_110_1, placesT_110, zeroT_110, aggT_3, sizeT_3, bytesT_3, und_3, zero1_3, zeroT_3, drawA, holes_succ, holes_zero, Array.size, List.length, maxA, h0, hl, Int.toNat_natCast, hk, h1, h2, h3, hb, levD, Lev.d, lvD_eq y, hr]
      rw [afterDraw_some _ _ _ _ (by kernel_rfl)]
      simp only [zS, nilEq, wantedA, opA, eff, boxA, cells, ev, gt, pt, putO, updO, setO, okC, loadA, cutC, fieldAddrA, fieldA, indexAddrA, indexA, builtinA, callOpA, callV, target, ptrV, lenS, binA, intOp, strOp, unA, num, lk, over, allocA, pickA, buildA, fillA, convertA, extractA, ofComp, nilCheckA, makeFuncA, ptrs, ofValue, cellB, Nat.reduceAdd, Nat.reduceSub, Nat.reduceMul, Nat.reduceLT, Nat.reduceLeDiff, Nat.reduceGT, ↓reduceIte, Nat.reduceEqDiff, Nat.reduceBEq, reduceCtorEq, Int.reduceBEq, Int.reduceBNe, Int.reduceLT, Int.reduceLE, Int.reduceGT, Int.reduceGE, aggT_30, sizeT_30, bytesT_30, und_30, elemT_30, isSliceT_30, zero1_30, zeroT_30, aggT_36, sizeT_36, bytesT_36, fieldT_36_0, fieldT_36_1, placesT_36, zeroT_36, aggT_34, sizeT_34, bytesT_34, und_34, elemT_34, isSliceT_34, zero1_34, zeroT_34, aggT_110, sizeT_110, bytesT_110, fieldT_110_0, fieldT_110_1, placesT_110, zeroT_110, aggT_3, sizeT_3, bytesT_3, und_3, zero1_3, zeroT_3, drawA, holes_succ, holes_zero, Array.size, List.length, h0, hl, Int.toNat_natCast, hk, h2, h3, hb, levD, Lev.d, lvD_eq y, hm, os34, apI_arr, hb', hb2]
      rw [afterDraw_some _ _ _ _ (by kernel_rfl)]
      simp only [zS, nilEq, wantedA, opA, eff, boxA, cells, ev, gt, pt, putO, updO, setO, okC, loadA, cutC, fieldAddrA, fieldA, indexAddrA, indexA, builtinA, callOpA, callV, target, ptrV, lenS, binA, intOp, strOp, unA, num, lk, over, allocA, pickA, buildA, fillA, convertA, extractA, ofComp, nilCheckA, makeFuncA, ptrs, ofValue, cellB, Nat.reduceAdd, Nat.reduceSub, Nat.reduceMul, Nat.reduceLT, Nat.reduceLeDiff, Nat.reduceGT, ↓reduceIte, Nat.reduceEqDiff, Nat.reduceBEq, reduceCtorEq, Int.reduceBEq, Int.reduceBNe, Int.reduceLT, Int.reduceLE, Int.reduceGT, Int.reduceGE]
      (refine (r_inLoop_some ?_).trans h; kernel_rfl)
theorem done85 (x : Lev) (z : Bool) (bys : List Lev) (c : Int) (els : List LV) (r : Lev) (hr : ∀ z, run Tryz.prog ext (.call 129 [iV c, dV (listD z 2 (els.map lvD))] []) = some (.ret [levV r] [])) (q : Lev) (e : Int) (hq : run Tryz.prog ext (.call 128 [levV r] []) = some (.ret [levV q, iV e] [])) :
    H85a ext 0 (E85 z bys c els x.vs.length) (O85 x els) = some (.ret [levV q, iV e] []) := by
  unfold H85a
  cases els with
  | nil =>
    have hr := hr true
    simp only [levV, dV, iV, bV, E85, O85, levC_z, levC, Lev.d, List.map_nil, mkV_nil, mkO_nil, listD_true] at hr hq ⊢
    (rw [show (It.code L85a) = It.code (sub B85 [1, 1, 1, 1, 0, 1, 0, 0]) from rfl]; simp only [B85, K85a, sub, Option.getD_some, Tryz.f85, ↓reduceIte, Nat.one_ne_zero])
    simp only [zS, nilEq, wantedA, opA, eff, boxA, cells, ev, gt, pt, putO, updO, setO, okC, loadA, cutC, fieldAddrA, fieldA, indexAddrA, indexA, builtinA, callOpA, callV, target, ptrV, lenS, binA, intOp, strOp, unA, num, lk, over, allocA, pickA, buildA, fillA, convertA, extractA, ofComp, nilCheckA, makeFuncA, ptrs, ofValue, cellB, Nat.reduceAdd, Nat.reduceSub, Nat.reduceMul, Nat.reduceLT, Nat.reduceLeDiff, Nat.reduceGT, ↓reduceIte, Nat.reduceEqDiff, Nat.reduceBEq, reduceCtorEq, Int.reduceBEq, Int.reduceBNe, Int.reduceLT, Int.reduceLE, Int.reduceGT, Int.reduceGE, aggT_30, sizeT_30, bytesT_30, und_30, elemT_30, isSliceT_30, zero1_30, zeroT_30, aggT_36, sizeT_36, bytesT_36, fieldT_36_0, fieldT_36_1, placesT_36, zeroT_36, aggT_34, sizeT_34, bytesT_34, und_34, elemT_34, isSliceT_34, zero1_34, zeroT_34, aggT_110, sizeT_110, bytesT_110, fieldT_110_0, fieldT_110_1, placesT_110, zeroT_110, aggT_3, sizeT_3, bytesT_3, und_3, zero1_3, zeroT_3, Int.lt_irrefl, hr, hq, callOut_cs]
    (refine Eq.trans ?_ rfl; kernel_rfl)
  | cons a l =>
    have hr := hr true
    cases hsc : scalarV (levV r) with
    | true =>
      simp only [levV, dV, iV, bV, E85, O85, levC_z, levC, Lev.d, List.map_cons, mkV_cons, mkO_cons, listD_true] at hr hq hsc ⊢
      (rw [show (It.code L85a) = It.code (sub B85 [1, 1, 1, 1, 0, 1, 0, 0]) from rfl]; simp only [B85, K85a, sub, Option.getD_some, Tryz.f85, ↓reduceIte, Nat.one_ne_zero])
      simp only [zS, nilEq, wantedA, opA, eff, boxA, cells, ev, gt, pt, putO, updO, setO, okC, loadA, cutC, fieldAddrA, fieldA, indexAddrA, indexA, builtinA, callOpA, callV, target, ptrV, lenS, binA, intOp, strOp, unA, num, lk, over, allocA, pickA, buildA, fillA, convertA, extractA, ofComp, nilCheckA, makeFuncA, ptrs, ofValue, cellB, Nat.reduceAdd, Nat.reduceSub, Nat.reduceMul, Nat.reduceLT, Nat.reduceLeDiff, Nat.reduceGT, ↓reduceIte, Nat.reduceEqDiff, Nat.reduceBEq, reduceCtorEq, Int.reduceBEq, Int.reduceBNe, Int.reduceLT, Int.reduceLE, Int.reduceGT, Int.reduceGE, aggT_30, sizeT_30, bytesT_30, und_30, elemT_30, isSliceT_30, zero1_30, zeroT_30, aggT_36, sizeT_36, bytesT_36, fieldT_36_0, fieldT_36_1, placesT_36, zeroT_36, aggT_34, sizeT_34, bytesT_34, und_34, elemT_34, isSliceT_34, zero1_34, zeroT_34, aggT_110, sizeT_110, bytesT_110, fieldT_110_0, fieldT_110_1, placesT_110, zeroT_110, aggT_3, sizeT_3, bytesT_3, und_3, zero1_3, zeroT_3, Int.lt_irrefl, callA_o1, coK_arr, (id rfl : ownF 129 = false), hr, callOut_bor, hsc, kills, hq, callOut_cs]
      (refine Eq.trans ?_ rfl; kernel_rfl)
    | false =>
      simp only [levV, dV, iV, bV, E85, O85, levC_z, levC, Lev.d, List.map_cons, mkV_cons, mkO_cons, listD_true] at hr hq hsc ⊢
      (rw [show (It.code L85a) = It.code (sub B85 [1, 1, 1, 1, 0, 1, 0, 0]) from rfl]; simp only [B85, K85a, sub, Option.getD_some, Tryz.f85, ↓reduceIte, Nat.one_ne_zero])
      simp only [zS, nilEq, wantedA, opA, eff, boxA, cells, ev, gt, pt, putO, updO, setO, okC, loadA, cutC, fieldAddrA, fieldA, indexAddrA, indexA, builtinA, callOpA, callV, target, ptrV, lenS, binA, intOp, strOp, unA, num, lk, over, allocA, pickA, buildA, fillA, convertA, extractA, ofComp, nilCheckA, makeFuncA, ptrs, ofValue, cellB, Nat.reduceAdd, Nat.reduceSub, Nat.reduceMul, Nat.reduceLT, Nat.reduceLeDiff, Nat.reduceGT, ↓reduceIte, Nat.reduceEqDiff, Nat.reduceBEq, reduceCtorEq, Int.reduceBEq, Int.reduceBNe, Int.reduceLT, Int.reduceLE, Int.reduceGT, Int.reduceGE, aggT_30, sizeT_30, bytesT_30, und_30, elemT_30, isSliceT_30, zero1_30, zeroT_30, aggT_36, sizeT_36, bytesT_36, fieldT_36_0, fieldT_36_1, placesT_36, zeroT_36, aggT_34, sizeT_34, bytesT_34, und_34, elemT_34, isSliceT_34, zero1_34, zeroT_34, aggT_110, sizeT_110, bytesT_110, fieldT_110_0, fieldT_110_1, placesT_110, zeroT_110, aggT_3, sizeT_3, bytesT_3, und_3, zero1_3, zeroT_3, Int.lt_irrefl, callA_o1, coK_arr, (id rfl : ownF 129 = false), hr, callOut_bor, hsc, kills, hq, callOut_cs]
      (refine Eq.trans ?_ rfl; kernel_rfl)
theorem okLV_of_valid {x : Lev} (h : x.valid = true) {k : Nat} {y : LV} (hk : x.vs[k]? = some y) : okLV y = true := by
  unfold Lev.valid at h
  simp only [Bool.and_eq_true, Option.isNone_iff_eq_none] at h
  have := none_iff.1 h.2 k y hk
  simp [badLV] at this
  exact this.1
theorem valid_len {x : Lev} (h : x.valid = true) : x.vs.length ≤ 8 := by
  unfold Lev.valid at h
  simp only [Bool.and_eq_true, decide_eq_true_eq] at h
  exact h.1.2
theorem wr_succ {k : Nat} (h : k < 2 ^ 62) : wr ((k : Int) + 1) = ((k + 1 : Nat) : Int) := by rw [wr_id (by omega) (by omega)]; rfl
theorem subst85 (hx : ext 85 = none) (h126 : ext 126 = none) (h127 : ext 127 = none) (h128 : ext 128 = none) (h129 : ext 129 = none) (h196 : ext 196 = none) (x : Lev) (z : Bool) (bys : List Lev) :
    run Tryz.prog ext (.call 85 [levV x, dV (listD z 2 (bys.map levD))] []) = some (.ret [levV (substR x bys).1, iV (substR x bys).2] []) := by
  have hv := valid126 ext h126 x
  unfold substR
  cases hval : x.valid with
  | false =>
    rw [hval] at hv
    rw [bad85 ext hx x z bys hv]; rfl
  | true =>
    rw [hval] at hv
    have hlen := valid_len hval
    refine enter85 ext hx x z bys hv _ ?_
    have key : ∀ (m k : Nat), k + m = x.vs.length → ∀ (s : Int × List LV), s.2.length ≤ 8 * k →
        H85a ext 0 (E85 z bys s.1 s.2 k) (O85 x s.2) = match foldE (substStep bys) s (x.vs.drop k) with | .inr _ => some (.ret [levV zLev, iV 4] []) | .inl s => some (.ret [levV (fitsR (canonR s.1 s.2)).1, iV (fitsR (canonR s.1 s.2)).2] []) := by
      intro m
      induction m with
      | zero =>
        intro k hk s hs
        rw [List.drop_eq_nil_of_le (by omega)]
        have : k = x.vs.length := by omega
        subst this
        exact done85 ext x z bys s.1 s.2 _ (fun z => canon129 ext h129 h196 z s.2 s.1 (by omega)) _ _ (fits128 ext h128 _)
      | succ m ih =>
        intro k hk s hs
        have hlt : k < x.vs.length := by omega
        have hget : x.vs[k]? = some x.vs[k] := by simp [hlt]
        have hok := okLV_of_valid hval hget
        have hnn : 0 ≤ x.vs[k].v := by simp [okLV] at hok; omega
        rw [List.drop_eq_getElem_cons hlt, foldE]
        generalize hy : x.vs[k] = y at hget hok hnn
        by_cases h1 : y.v ≥ bys.length
        · have he : substStep bys s y = .inl (s.1, s.2 ++ [y]) := by unfold substStep; rw [if_pos h1]
          rw [he]
          refine stepA85 ext x z bys y s.1 s.2 k hget (by omega) (by omega) h1 _ ?_
          rw [wr_id (by omega) (by omega)]
          have := ih (k + 1) (by omega) (s.1, s.2 ++ [y]) (by simp; omega)
          exact_mod_cast this
        · have hb : y.v.toNat < bys.length := by omega
          have hgb : bys[y.v.toNat]? = some bys[y.v.toNat] := by simp [hb]
          have hvb := valid126 ext h126 bys[y.v.toNat]
          generalize hbb : bys[y.v.toNat] = b at hgb hvb
          cases hbv : b.valid with
          | false =>
            rw [hbv] at hvb
            have he : substStep bys s y = .inr () := by unfold substStep; rw [if_neg h1, hgb]; simp [hbv]
            rw [he]
            exact stepB85 ext x z bys y b s.1 s.2 k hget (by omega) h1 (by omega) hnn hgb hvb
          | true =>
            rw [hbv] at hvb
            have hbl := valid_len hbv
            have he : substStep bys s y = .inl (mx s.1 (wr (b.c + y.p)), s.2 ++ b.vs.map (moreLV y.p)) := by unfold substStep; rw [if_neg h1, hgb]; simp [hbv]
            rw [he]
            refine stepC85 ext h127 x z bys y b s.1 s.2 k hget (by omega) (by omega) (by omega) h1 (by omega) hnn hgb hvb _ ?_
            rw [wr_succ (by omega)]
            have := ih (k + 1) (by omega) (mx s.1 (wr (b.c + y.p)), s.2 ++ b.vs.map (moreLV y.p)) (by simp; omega)
            exact_mod_cast this
    have := key x.vs.length 0 (by omega) (x.c, []) (by simp)
    simp only [List.drop_zero] at this
    rw [show ((0 : Nat) : Int) = 0 from rfl] at this
    rw [this]
    simp only [if_true]
    cases foldE (substStep bys) (x.c, []) x.vs <;> rfl
end Go.Proofs.YteenjodhmppgjaaGreatDoor.Am
end
section
/- Levels: sorting. -/
namespace Go.Proofs.YteenjodhmppgjaaGreatDoor.Am
open Go
variable (ext : Ext)
set_option maxHeartbeats 4000000
noncomputable def B254 : Code := (Tryz.f254.body.getD .skip)
noncomputable def L254a : Code := sub B254 [1, 0, 0]
noncomputable def K254a : List It := [.inBlock 0]
noncomputable def H254a (ext : Ext) (m : Nat) (env : Env) (loc : List O) : Option Out := run Tryz.prog ext (.k ⟨53, m, [], false⟩ (.code L254a :: .inLoop L254a :: K254a) env loc)
noncomputable def L254b : Code := sub B254 [1, 0, 0, 1, 0, 0, 1, 0, 0]
noncomputable def K254b : List It := [.inBlock 2, .inBlock 1, .code (sub B254 [1, 0, 0, 1, 1]), .inLoop L254a, .inBlock 0]
noncomputable def H254b (ext : Ext) (m : Nat) (env : Env) (loc : List O) : Option Out := run Tryz.prog ext (.k ⟨53, m, [], false⟩ (.code L254b :: .inLoop L254b :: K254b) env loc)
noncomputable def B236 : Code := (Tryz.f236.body.getD .skip)
noncomputable def L236a : Code := sub B236 [1, 1, 0, 0]
noncomputable def K236a : List It := [.inBlock 0]
noncomputable def H236a (ext : Ext) (m : Nat) (env : Env) (loc : List O) : Option Out := run Tryz.prog ext (.k ⟨148, m, [], false⟩ (.code L236a :: .inLoop L236a :: K236a) env loc)
def cmpI (a b : Int) : Int := if a < b then -1 else if b < a then 1 else 0
theorem nan238 (hx : ext 238 = none) (a : Int) : run Tryz.prog ext (.call 238 [iV a] []) = some (.ret [bV false] []) := by
  (rw [run_eq]; simp only [stepA, hx, Tryz.func238, Tryz.f238, show retF 238 = false from rfl]; simp only [List.length_cons, List.length_nil, Nat.reduceAdd, Nat.reduceLeDiff, Nat.zero_le, ↓reduceIte, List.zipIdx_cons, List.zipIdx_nil, List.map_cons, List.map_nil])
  simp only [iV, bV]
  simp only [zS, nilEq, wantedA, opA, eff, boxA, cells, ev, gt, pt, putO, updO, setO, okC, loadA, cutC, fieldAddrA, fieldA, indexAddrA, indexA, builtinA, callOpA, callV, target, ptrV, lenS, binA, intOp, strOp, unA, num, lk, over, allocA, pickA, buildA, fillA, convertA, extractA, ofComp, nilCheckA, makeFuncA, ptrs, ofValue, cellB, Nat.reduceAdd, Nat.reduceSub, Nat.reduceMul, Nat.reduceLT, Nat.reduceLeDiff, Nat.reduceGT, ↓reduceIte, Nat.reduceEqDiff, Nat.reduceBEq, reduceCtorEq, Int.reduceBEq, Int.reduceBNe, Int.reduceLT, Int.reduceLE, Int.reduceGT, Int.reduceGE, aggT_3, sizeT_3, bytesT_3, und_3, zero1_3, zeroT_3]
  (refine Eq.trans ?_ rfl; kernel_rfl)
theorem cmp194 (hx : ext 194 = none) (h238 : ext 238 = none) (a b : Int) : run Tryz.prog ext (.call 194 [iV a, iV b] []) = some (.ret [iV (cmpI a b)] []) := by
  have h1 := nan238 ext h238 a
  have h2 := nan238 ext h238 b
  unfold cmpI
  by_cases c1 : a < b
  · rw [if_pos c1]
    (rw [run_eq]; simp only [stepA, hx, Tryz.func194, Tryz.f194, show retF 194 = false from rfl]; simp only [List.length_cons, List.length_nil, Nat.reduceAdd, Nat.reduceLeDiff, Nat.zero_le, ↓reduceIte, List.zipIdx_cons, List.zipIdx_nil, List.map_cons, List.map_nil])
    simp only [iV, bV] at h1 h2 ⊢
    simp only [zS, nilEq, wantedA, opA, eff, boxA, cells, ev, gt, pt, putO, updO, setO, okC, loadA, cutC, fieldAddrA, fieldA, indexAddrA, indexA, builtinA, callOpA, callV, target, ptrV, lenS, binA, intOp, strOp, unA, num, lk, over, allocA, pickA, buildA, fillA, convertA, extractA, ofComp, nilCheckA, makeFuncA, ptrs, ofValue, cellB, Nat.reduceAdd, Nat.reduceSub, Nat.reduceMul, Nat.reduceLT, Nat.reduceLeDiff, Nat.reduceGT, ↓reduceIte, Nat.reduceEqDiff, Nat.reduceBEq, reduceCtorEq, Int.reduceBEq, Int.reduceBNe, Int.reduceLT, Int.reduceLE, Int.reduceGT, Int.reduceGE, aggT_3, sizeT_3, bytesT_3, und_3, zero1_3, zeroT_3, h1, h2, c1]
    (refine Eq.trans ?_ rfl; kernel_rfl)
  by_cases c2 : a > b
  · rw [if_neg c1, if_pos c2]
    (rw [run_eq]; simp only [stepA, hx, Tryz.func194, Tryz.f194, show retF 194 = false from rfl]; simp only [List.length_cons, List.length_nil, Nat.reduceAdd, Nat.reduceLeDiff, Nat.zero_le, ↓reduceIte, List.zipIdx_cons, List.zipIdx_nil, List.map_cons, List.map_nil])
    simp only [iV, bV] at h1 h2 ⊢
    simp only [zS, nilEq, wantedA, opA, eff, boxA, cells, ev, gt, pt, putO, updO, setO, okC, loadA, cutC, fieldAddrA, fieldA, indexAddrA, indexA, builtinA, callOpA, callV, target, ptrV, lenS, binA, intOp, strOp, unA, num, lk, over, allocA, pickA, buildA, fillA, convertA, extractA, ofComp, nilCheckA, makeFuncA, ptrs, ofValue, cellB, Nat.reduceAdd, Nat.reduceSub, Nat.reduceMul, Nat.reduceLT, Nat.reduceLeDiff, Nat.reduceGT, ↓reduceIte, Nat.reduceEqDiff, Nat.reduceBEq, reduceCtorEq, Int.reduceBEq, Int.reduceBNe, Int.reduceLT, Int.reduceLE, Int.reduceGT, Int.reduceGE, aggT_3, sizeT_3, bytesT_3, und_3, zero1_3, zeroT_3, h1, h2, c1, c2]
    (refine Eq.trans ?_ rfl; kernel_rfl)
  rw [if_neg c1, if_neg c2]
  (rw [run_eq]; simp only [stepA, hx, Tryz.func194, Tryz.f194, show retF 194 = false from rfl]; simp only [List.length_cons, List.length_nil, Nat.reduceAdd, Nat.reduceLeDiff, Nat.zero_le, ↓reduceIte, List.zipIdx_cons, List.zipIdx_nil, List.map_cons, List.map_nil])
  simp only [iV, bV] at h1 h2 ⊢
  simp only [zS, nilEq, wantedA, opA, eff, boxA, cells, ev, gt, pt, putO, updO, setO, okC, loadA, cutC, fieldAddrA, fieldA, indexAddrA, indexA, builtinA, callOpA, callV, target, ptrV, lenS, binA, intOp, strOp, unA, num, lk, over, allocA, pickA, buildA, fillA, convertA, extractA, ofComp, nilCheckA, makeFuncA, ptrs, ofValue, cellB, Nat.reduceAdd, Nat.reduceSub, Nat.reduceMul, Nat.reduceLT, Nat.reduceLeDiff, Nat.reduceGT, ↓reduceIte, Nat.reduceEqDiff, Nat.reduceBEq, reduceCtorEq, Int.reduceBEq, Int.reduceBNe, Int.reduceLT, Int.reduceLE, Int.reduceGT, Int.reduceGE, aggT_3, sizeT_3, bytesT_3, und_3, zero1_3, zeroT_3, h1, h2, c1, c2]
  (refine Eq.trans ?_ rfl; kernel_rfl)
theorem cmp193 (hx : ext 193 = none) (h194 : ext 194 = none) (h238 : ext 238 = none) (x y : LV) : run Tryz.prog ext (.call 193 [lvV x, lvV y] []) = some (.ret [iV (cmpI x.v y.v)] []) := by
  have h := cmp194 ext h194 h238 x.v y.v
  (rw [run_eq]; simp only [stepA, hx, Tryz.func193, Tryz.f193, show retF 193 = false from rfl]; simp only [List.length_cons, List.length_nil, Nat.reduceAdd, Nat.reduceLeDiff, Nat.zero_le, ↓reduceIte, List.zipIdx_cons, List.zipIdx_nil, List.map_cons, List.map_nil])
  simp only [iV, lvV, lvC] at h ⊢
  simp only [zS, nilEq, wantedA, opA, eff, boxA, cells, ev, gt, pt, putO, updO, setO, okC, loadA, cutC, fieldAddrA, fieldA, indexAddrA, indexA, builtinA, callOpA, callV, target, ptrV, lenS, binA, intOp, strOp, unA, num, lk, over, allocA, pickA, buildA, fillA, convertA, extractA, ofComp, nilCheckA, makeFuncA, ptrs, ofValue, cellB, Nat.reduceAdd, Nat.reduceSub, Nat.reduceMul, Nat.reduceLT, Nat.reduceLeDiff, Nat.reduceGT, ↓reduceIte, Nat.reduceEqDiff, Nat.reduceBEq, reduceCtorEq, Int.reduceBEq, Int.reduceBNe, Int.reduceLT, Int.reduceLE, Int.reduceGT, Int.reduceGE, aggT_110, sizeT_110, bytesT_110, fieldT_110_0, fieldT_110_1, placesT_110, zeroT_110, aggT_3, sizeT_3, bytesT_3, und_3, zero1_3, zeroT_3, h]
  (refine Eq.trans ?_ rfl; kernel_rfl)
def E254 (n i : Int) : Env := [(0, .c (.own 0)), (1, iV 0), (2, iV n), (3, .c (.fn 193 [] [])), (8, iV i)]
def O254 (l : List LV) : List O := [.arr 2 (l.map lvD)]
def E254b (n i j : Int) : Env := [(0, .c (.own 0)), (1, iV 0), (2, iV n), (3, .c (.fn 193 [] [])), (8, iV i), (9, iV j)]
theorem enter254 (hx : ext 254 = none) (l : List LV) (n : Int) (out : Option Out) (h : H254a ext 1 (E254 n 1) (O254 l) = out) : run Tryz.prog ext (.call 254 [.c (.own 0), iV 0, iV n, .c (.fn 193 [] [])] (O254 l)) = out := by
  unfold H254a at h
  have e : wr (0 + 1) = 1 := by rw [wr_id (by omega) (by omega)]; rfl
  (rw [run_eq]; simp only [stepA, hx, Tryz.func254, Tryz.f254, show retF 254 = false from rfl]; simp only [List.length_cons, List.length_nil, Nat.reduceAdd, Nat.reduceLeDiff, Nat.zero_le, ↓reduceIte, List.zipIdx_cons, List.zipIdx_nil, List.map_cons, List.map_nil])
  simp only [dV, iV, bV, E254, O254] at h ⊢
  simp only [zS, nilEq, wantedA, opA, eff, boxA, cells, ev, gt, pt, putO, updO, setO, okC, loadA, cutC, fieldAddrA, fieldA, indexAddrA, indexA, builtinA, callOpA, callV, target, ptrV, lenS, binA, intOp, strOp, unA, num, lk, over, allocA, pickA, buildA, fillA, convertA, extractA, ofComp, nilCheckA, makeFuncA, ptrs, ofValue, cellB, Nat.reduceAdd, Nat.reduceSub, Nat.reduceMul, Nat.reduceLT, Nat.reduceLeDiff, Nat.reduceGT, ↓reduceIte, Nat.reduceEqDiff, Nat.reduceBEq, reduceCtorEq, Int.reduceBEq, Int.reduceBNe, Int.reduceLT, Int.reduceLE, Int.reduceGT, Int.reduceGE, aggT_36, sizeT_36, bytesT_36, fieldT_36_0, fieldT_36_1, placesT_36, zeroT_36, aggT_34, sizeT_34, bytesT_34, und_34, elemT_34, isSliceT_34, zero1_34, zeroT_34, aggT_110, sizeT_110, bytesT_110, fieldT_110_0, fieldT_110_1, placesT_110, zeroT_110, aggT_3, sizeT_3, bytesT_3, und_3, zero1_3, zeroT_3, e]
  (refine (r_inLoop_some ?_).trans h; kernel_rfl)
theorem in254 (l : List LV) (n i : Int) (h1 : i < n) (out : Option Out) (h : H254b ext 1 (E254b n i i) (O254 l) = out) : H254a ext 1 (E254 n i) (O254 l) = out := by
  unfold H254b at h
  unfold H254a
  simp only [dV, iV, bV, E254, E254b, O254] at h ⊢
  (rw [show (It.code L254a) = It.code (sub B254 [1, 0, 0]) from rfl]; simp only [B254, K254a, sub, Option.getD_some, Tryz.f254, ↓reduceIte, Nat.one_ne_zero])
  simp only [zS, nilEq, wantedA, opA, eff, boxA, cells, ev, gt, pt, putO, updO, setO, okC, loadA, cutC, fieldAddrA, fieldA, indexAddrA, indexA, builtinA, callOpA, callV, target, ptrV, lenS, binA, intOp, strOp, unA, num, lk, over, allocA, pickA, buildA, fillA, convertA, extractA, ofComp, nilCheckA, makeFuncA, ptrs, ofValue, cellB, Nat.reduceAdd, Nat.reduceSub, Nat.reduceMul, Nat.reduceLT, Nat.reduceLeDiff, Nat.reduceGT, ↓reduceIte, Nat.reduceEqDiff, Nat.reduceBEq, reduceCtorEq, Int.reduceBEq, Int.reduceBNe, Int.reduceLT, Int.reduceLE, Int.reduceGT, Int.reduceGE, aggT_36, sizeT_36, bytesT_36, fieldT_36_0, fieldT_36_1, placesT_36, zeroT_36, aggT_34, sizeT_34, bytesT_34, und_34, elemT_34, isSliceT_34, zero1_34, zeroT_34, aggT_110, sizeT_110, bytesT_110, fieldT_110_0, fieldT_110_1, placesT_110, zeroT_110, aggT_3, sizeT_3, bytesT_3, und_3, zero1_3, zeroT_3, h1]
  (refine (r_inLoop_some ?_).trans h; kernel_rfl)
theorem out254 (l : List LV) (n i : Int) (h1 : ¬ i < n) : H254a ext 1 (E254 n i) (O254 l) = some (.ret [] (O254 l)) := by
  unfold H254a
  simp only [dV, iV, bV, E254, O254]
  (rw [show (It.code L254a) = It.code (sub B254 [1, 0, 0]) from rfl]; simp only [B254, K254a, sub, Option.getD_some, Tryz.f254, ↓reduceIte, Nat.one_ne_zero])
  simp only [zS, nilEq, wantedA, opA, eff, boxA, cells, ev, gt, pt, putO, updO, setO, okC, loadA, cutC, fieldAddrA, fieldA, indexAddrA, indexA, builtinA, callOpA, callV, target, ptrV, lenS, binA, intOp, strOp, unA, num, lk, over, allocA, pickA, buildA, fillA, convertA, extractA, ofComp, nilCheckA, makeFuncA, ptrs, ofValue, cellB, Nat.reduceAdd, Nat.reduceSub, Nat.reduceMul, Nat.reduceLT, Nat.reduceLeDiff, Nat.reduceGT, ↓reduceIte, Nat.reduceEqDiff, Nat.reduceBEq, reduceCtorEq, Int.reduceBEq, Int.reduceBNe, Int.reduceLT, Int.reduceLE, Int.reduceGT, Int.reduceGE, aggT_36, sizeT_36, bytesT_36, fieldT_36_0, fieldT_36_1, placesT_36, zeroT_36, aggT_34, sizeT_34, bytesT_34, und_34, elemT_34, isSliceT_34, zero1_34, zeroT_34, aggT_110, sizeT_110, bytesT_110, fieldT_110_0, fieldT_110_1, placesT_110, zeroT_110, aggT_3, sizeT_3, bytesT_3, und_3, zero1_3, zeroT_3, h1]
  (refine Eq.trans ?_ rfl; kernel_rfl)
theorem swap254 (l : List LV) (x y : LV) (n i : Int) (j : Nat) (hx : l[j + 1]? = some x) (hy : l[j]? = some y) (hc : run Tryz.prog ext (.call 193 [lvV x, lvV y] []) = some (.ret [iV (-1)] [])) (hl : j < 2 ^ 60) (out : Option Out)
    (h : H254b ext 1 (E254b n i j) (O254 ((l.set (j + 1) y).set j x)) = out) : H254b ext 1 (E254b n i (j + 1 : Nat)) (O254 l) = out := by
  have hlt := lt_of_get hx
  have h1 : ((j + 1 : Nat) : Int) > 0 := by omega
  have h0 : (0 : Int) ≤ (j + 1 : Nat) := by omega
  have hk : ((j + 1 : Nat) : Int) < l.length := by omega
  have e : wr (((j + 1 : Nat) : Int) - 1) = (j : Int) := by rw [wr_id (by omega) (by omega)]; omega
  have h0' : (0 : Int) ≤ (j : Int) := by omega
  have hk' : (j : Int) < l.length := by omega
  have hm : (1 : Int) > 0 := by decide
  have hx' : (l.map lvD)[j + 1]? = some [.v (.int .i64 x.v), .v (.int .i64 x.p)] := by rw [List.getElem?_map, hx]; rfl
  have hy' : (l.map lvD)[j]? = some [.v (.int .i64 y.v), .v (.int .i64 y.p)] := by rw [List.getElem?_map, hy]; rfl
  have hs : ((l.set (j + 1) y).set j x).map lvD = ((l.map lvD).set (j + 1) [.v (.int .i64 y.v), .v (.int .i64 y.p)]).set j [.v (.int .i64 x.v), .v (.int .i64 x.p)] := by rw [List.map_set, List.map_set]; rfl
  have hy2 : ((l.map lvD).set (j + 1) [.v (.int .i64 y.v), .v (.int .i64 y.p)])[j]? = some [.v (.int .i64 y.v), .v (.int .i64 y.p)] := by rw [List.getElem?_set_ne (by omega), hy']
  unfold H254b at h ⊢
  simp only [dV, iV, bV, E254b, O254, lvV, lvC, hs] at h hc ⊢
  (rw [show (It.code L254b) = It.code (sub B254 [1, 0, 0, 1, 0, 0, 1, 0, 0]) from rfl]; simp only [B254, K254b, sub, Option.getD_some, Tryz.f254, ↓reduceIte, Nat.one_ne_zero])
  simp only [zS, nilEq, wantedA, opA, eff, boxA, cells, ev, gt, pt, putO, updO, setO, okC, loadA, cutC, fieldAddrA, fieldA, indexAddrA, indexA, builtinA, callOpA, callV, target, ptrV, lenS, binA, intOp, strOp, unA, num, lk, over, allocA, pickA, buildA, fillA, convertA, extractA, ofComp, nilCheckA, makeFuncA, ptrs, ofValue, cellB, Nat.reduceAdd, Nat.reduceSub, Nat.reduceMul, Nat.reduceLT, Nat.reduceLeDiff, Nat.reduceGT, ↓reduceIte, Nat.reduceEqDiff, Nat.reduceBEq, reduceCtorEq, Int.reduceBEq, Int.reduceBNe, Int.reduceLT, Int.reduceLE, Int.reduceGT, Int.reduceGE, aggT_34, sizeT_34, bytesT_34, und_34, elemT_34, isSliceT_34, zero1_34, zeroT_34, aggT_110, sizeT_110, bytesT_110, fieldT_110_0, fieldT_110_1, placesT_110, zeroT_110, aggT_3, sizeT_3, bytesT_3, und_3, zero1_3, zeroT_3, drawA, holes_succ, holes_zero, Array.size, List.length, h0, h1, hk, h0', hk', e, Int.toNat_natCast, hx, hy, lvD, hc]
  rw [afterDraw_some _ _ _ _ (by kernel_rfl)]
  simp only [zS, nilEq, wantedA, opA, eff, boxA, cells, ev, gt, pt, putO, updO, setO, okC, loadA, cutC, fieldAddrA, fieldA, indexAddrA, indexA, builtinA, callOpA, callV, target, ptrV, lenS, binA, intOp, strOp, unA, num, lk, over, allocA, pickA, buildA, fillA, convertA, extractA, ofComp, nilCheckA, makeFuncA, ptrs, ofValue, cellB, Nat.reduceAdd, Nat.reduceSub, Nat.reduceMul, Nat.reduceLT, Nat.reduceLeDiff, Nat.reduceGT, ↓reduceIte, Nat.reduceEqDiff, Nat.reduceBEq, reduceCtorEq, Int.reduceBEq, Int.reduceBNe, Int.reduceLT, Int.reduceLE, Int.reduceGT, Int.reduceGE, aggT_34, sizeT_34, bytesT_34, und_34, elemT_34, isSliceT_34, zero1_34, zeroT_34, aggT_110, sizeT_110, bytesT_110, fieldT_110_0, fieldT_110_1, placesT_110, zeroT_110, aggT_3, sizeT_3, bytesT_3, und_3, zero1_3, zeroT_3, drawA, holes_succ, holes_zero, Array.size, List.length, h0, h1, hk, h0', hk', e, Int.toNat_natCast, hx, hy, hx', hy', hy2, lvD, stK, toDs, toD, kills, List.length_set, List.contains_nil]
  rw [afterDraw_some _ _ _ _ (by kernel_rfl)]
  simp only [zS, nilEq, wantedA, opA, eff, boxA, cells, ev, gt, pt, putO, updO, setO, okC, loadA, cutC, fieldAddrA, fieldA, indexAddrA, indexA, builtinA, callOpA, callV, target, ptrV, lenS, binA, intOp, strOp, unA, num, lk, over, allocA, pickA, buildA, fillA, convertA, extractA, ofComp, nilCheckA, makeFuncA, ptrs, ofValue, cellB, Nat.reduceAdd, Nat.reduceSub, Nat.reduceMul, Nat.reduceLT, Nat.reduceLeDiff, Nat.reduceGT, ↓reduceIte, Nat.reduceEqDiff, Nat.reduceBEq, reduceCtorEq, Int.reduceBEq, Int.reduceBNe, Int.reduceLT, Int.reduceLE, Int.reduceGT, Int.reduceGE, aggT_3, sizeT_3, bytesT_3, und_3, zero1_3, zeroT_3, e]
  (refine (r_inLoop_some ?_).trans h; kernel_rfl)
theorem stop254 (l : List LV) (x y : LV) (n i c : Int) (j : Nat) (hx : l[j + 1]? = some x) (hy : l[j]? = some y) (hc : run Tryz.prog ext (.call 193 [lvV x, lvV y] []) = some (.ret [iV c] [])) (hcn : ¬ c < 0) (hl : j < 2 ^ 60) (out : Option Out)
    (h : H254a ext 1 (E254 n (wr (i + 1))) (O254 l) = out) : H254b ext 1 (E254b n i (j + 1 : Nat)) (O254 l) = out := by
  have hlt := lt_of_get hx
  have h1 : ((j + 1 : Nat) : Int) > 0 := by omega
  have h0 : (0 : Int) ≤ (j + 1 : Nat) := by omega
  have hk : ((j + 1 : Nat) : Int) < l.length := by omega
  have e : wr (((j + 1 : Nat) : Int) - 1) = (j : Int) := by rw [wr_id (by omega) (by omega)]; omega
  have h0' : (0 : Int) ≤ (j : Int) := by omega
  have hk' : (j : Int) < l.length := by omega
  unfold H254a at h
  unfold H254b
  simp only [dV, iV, bV, E254, E254b, O254, lvV, lvC] at h hc ⊢
  (rw [show (It.code L254b) = It.code (sub B254 [1, 0, 0, 1, 0, 0, 1, 0, 0]) from rfl]; simp only [B254, K254b, sub, Option.getD_some, Tryz.f254, ↓reduceIte, Nat.one_ne_zero])
  simp only [zS, nilEq, wantedA, opA, eff, boxA, cells, ev, gt, pt, putO, updO, setO, okC, loadA, cutC, fieldAddrA, fieldA, indexAddrA, indexA, builtinA, callOpA, callV, target, ptrV, lenS, binA, intOp, strOp, unA, num, lk, over, allocA, pickA, buildA, fillA, convertA, extractA, ofComp, nilCheckA, makeFuncA, ptrs, ofValue, cellB, Nat.reduceAdd, Nat.reduceSub, Nat.reduceMul, Nat.reduceLT, Nat.reduceLeDiff, Nat.reduceGT, ↓reduceIte, Nat.reduceEqDiff, Nat.reduceBEq, reduceCtorEq, Int.reduceBEq, Int.reduceBNe, Int.reduceLT, Int.reduceLE, Int.reduceGT, Int.reduceGE, aggT_34, sizeT_34, bytesT_34, und_34, elemT_34, isSliceT_34, zero1_34, zeroT_34, aggT_110, sizeT_110, bytesT_110, fieldT_110_0, fieldT_110_1, placesT_110, zeroT_110, aggT_3, sizeT_3, bytesT_3, und_3, zero1_3, zeroT_3, drawA, holes_succ, holes_zero, Array.size, List.length, h0, h1, hk, h0', hk', e, Int.toNat_natCast, hx, hy, lvD, hc, hcn]
  rw [afterDraw_some _ _ _ _ (by kernel_rfl)]
  simp only [zS, nilEq, wantedA, opA, eff, boxA, cells, ev, gt, pt, putO, updO, setO, okC, loadA, cutC, fieldAddrA, fieldA, indexAddrA, indexA, builtinA, callOpA, callV, target, ptrV, lenS, binA, intOp, strOp, unA, num, lk, over, allocA, pickA, buildA, fillA, convertA, extractA, ofComp, nilCheckA, makeFuncA, ptrs, ofValue, cellB, Nat.reduceAdd, Nat.reduceSub, Nat.reduceMul, Nat.reduceLT, Nat.reduceLeDiff, Nat.reduceGT, ↓reduceIte, Nat.reduceEqDiff, Nat.reduceBEq, reduceCtorEq, Int.reduceBEq, Int.reduceBNe, Int.reduceLT, Int.reduceLE, Int.reduceGT, Int.reduceGE, aggT_3, sizeT_3, bytesT_3, und_3, zero1_3, zeroT_3]
  (refine (r_inLoop_some ?_).trans h; kernel_rfl)
theorem stop0 (l : List LV) (n i : Int) (out : Option Out) (h : H254a ext 1 (E254 n (wr (i + 1))) (O254 l) = out) : H254b ext 1 (E254b n i 0) (O254 l) = out := by
  have h1 : ¬ ((0 : Int) > 0) := by decide
  unfold H254a at h
  unfold H254b
  simp only [dV, iV, bV, E254, E254b, O254, lvV, lvC] at h ⊢
  (rw [show (It.code L254b) = It.code (sub B254 [1, 0, 0, 1, 0, 0, 1, 0, 0]) from rfl]; simp only [B254, K254b, sub, Option.getD_some, Tryz.f254, ↓reduceIte, Nat.one_ne_zero])
  simp only [zS, nilEq, wantedA, opA, eff, boxA, cells, ev, gt, pt, putO, updO, setO, okC, loadA, cutC, fieldAddrA, fieldA, indexAddrA, indexA, builtinA, callOpA, callV, target, ptrV, lenS, binA, intOp, strOp, unA, num, lk, over, allocA, pickA, buildA, fillA, convertA, extractA, ofComp, nilCheckA, makeFuncA, ptrs, ofValue, cellB, Nat.reduceAdd, Nat.reduceSub, Nat.reduceMul, Nat.reduceLT, Nat.reduceLeDiff, Nat.reduceGT, ↓reduceIte, Nat.reduceEqDiff, Nat.reduceBEq, reduceCtorEq, Int.reduceBEq, Int.reduceBNe, Int.reduceLT, Int.reduceLE, Int.reduceGT, Int.reduceGE, aggT_34, sizeT_34, bytesT_34, und_34, elemT_34, isSliceT_34, zero1_34, zeroT_34, aggT_110, sizeT_110, bytesT_110, fieldT_110_0, fieldT_110_1, placesT_110, zeroT_110, aggT_3, sizeT_3, bytesT_3, und_3, zero1_3, zeroT_3, drawA, holes_succ, holes_zero, Array.size, List.length, h1]
  rw [afterDraw_some _ _ _ _ (by kernel_rfl)]
  simp only [zS, nilEq, wantedA, opA, eff, boxA, cells, ev, gt, pt, putO, updO, setO, okC, loadA, cutC, fieldAddrA, fieldA, indexAddrA, indexA, builtinA, callOpA, callV, target, ptrV, lenS, binA, intOp, strOp, unA, num, lk, over, allocA, pickA, buildA, fillA, convertA, extractA, ofComp, nilCheckA, makeFuncA, ptrs, ofValue, cellB, Nat.reduceAdd, Nat.reduceSub, Nat.reduceMul, Nat.reduceLT, Nat.reduceLeDiff, Nat.reduceGT, ↓reduceIte, Nat.reduceEqDiff, Nat.reduceBEq, reduceCtorEq, Int.reduceBEq, Int.reduceBNe, Int.reduceLT, Int.reduceLE, Int.reduceGT, Int.reduceGE, aggT_3, sizeT_3, bytesT_3, und_3, zero1_3, zeroT_3]
  (refine (r_inLoop_some ?_).trans h; kernel_rfl)
/-- The last of a sorted list, that goes down to its place: r: what is ahead of it, backwards; s: what has gone up. -/
def insR (x : LV) : List LV → List LV → List LV
  | [], s => x :: s
  | y :: r, s => if x.v < y.v then insR x r (y :: s) else (y :: r).reverse ++ x :: s
def isort : List LV → List LV → List LV
  | acc, [] => acc
  | acc, x :: r => isort (insR x acc.reverse []) r
def sortL : List LV → List LV
  | [] => []
  | a :: r => isort [a] r
theorem insR_len (x : LV) : ∀ (r s : List LV), (insR x r s).length = r.length + s.length + 1
  | [], s => by simp [insR]
  | y :: r, s => by
    unfold insR
    split
    · rw [insR_len x r]; simp; omega
    · simp; omega
theorem isort_len : ∀ (r acc : List LV), (isort acc r).length = acc.length + r.length
  | [], acc => by simp [isort]
  | x :: r, acc => by rw [isort, isort_len r, insR_len]; simp; omega
theorem set_swap (A : List LV) (x y : LV) (B : List LV) : ((A ++ y :: x :: B).set (A.length + 1) y).set A.length x = A ++ x :: y :: B := by
  rw [List.set_append_right _ _ (by omega), Nat.add_sub_cancel_left]
  simp
theorem inner254 (h193 : ext 193 = none) (h194 : ext 194 = none) (h238 : ext 238 = none) (n i : Int) (x : LV) (rest : List LV) (out : Option Out) : ∀ (r s : List LV), r.length < 2 ^ 60 → H254a ext 1 (E254 n (wr (i + 1))) (O254 (insR x r s ++ rest)) = out → H254b ext 1 (E254b n i r.length) (O254 (r.reverse ++ x :: (s ++ rest))) = out
  | [], s, _, h => by
    have := stop0 ext (x :: (s ++ rest)) n i out (by simpa [insR] using h)
    simpa using this
  | y :: r, s, hr, h => by
    have hrl : r.reverse.length = r.length := by simp
    have hx : ((y :: r).reverse ++ x :: (s ++ rest))[r.length + 1]? = some x := by
      rw [List.getElem?_append_right (by simp)]; simp
    have hy : ((y :: r).reverse ++ x :: (s ++ rest))[r.length]? = some y := by
      rw [List.getElem?_append_left (by simp), List.reverse_cons, List.getElem?_append_right (by simp)]; simp
    have hc := cmp193 ext h193 h194 h238 x y
    unfold insR at h
    by_cases hlt : x.v < y.v
    · rw [if_pos hlt] at h
      have e : cmpI x.v y.v = -1 := by unfold cmpI; rw [if_pos hlt]
      rw [e] at hc
      refine swap254 ext _ x y n i r.length hx hy hc (by simp at hr; omega) _ ?_
      have hsw := set_swap r.reverse x y (s ++ rest)
      rw [hrl] at hsw
      rw [List.reverse_cons, List.append_assoc, List.singleton_append, hsw]
      exact inner254 h193 h194 h238 n i x rest out r (y :: s) (by simp at hr; omega) h
    · rw [if_neg hlt] at h
      refine stop254 ext _ x y n i (cmpI x.v y.v) r.length hx hy hc (by unfold cmpI; rw [if_neg hlt]; split <;> omega) (by simp at hr; omega) _ ?_
      simpa using h
theorem outer254 (h193 : ext 193 = none) (h194 : ext 194 = none) (h238 : ext 238 = none) : ∀ (rest acc : List LV) (n : Nat), n = acc.length + rest.length → n < 2 ^ 60 → H254a ext 1 (E254 n acc.length) (O254 (acc ++ rest)) = some (.ret [] (O254 (isort acc rest)))
  | [], acc, n, hn, _ => by
    rw [List.append_nil]
    exact out254 ext acc n acc.length (by simp at hn; omega)
  | x :: r, acc, n, hn, hlt => by
    refine in254 ext _ n acc.length (by simp at hn; omega) _ ?_
    have := inner254 ext h193 h194 h238 n acc.length x r (some (.ret [] (O254 (isort acc (x :: r))))) acc.reverse [] (by simp at hn ⊢; omega) (by
      rw [wr_succ (by simp at hn; omega)]
      have := outer254 h193 h194 h238 r (insR x acc.reverse []) n (by rw [insR_len]; simp at hn ⊢; omega) hlt
      rw [insR_len] at this
      simpa [isort] using this)
    simpa using this
theorem sort254 (hx : ext 254 = none) (h193 : ext 193 = none) (h194 : ext 194 = none) (h238 : ext 238 = none) (l : List LV) (hl : l.length < 2 ^ 60) : run Tryz.prog ext (.call 254 [.c (.own 0), iV 0, iV l.length, .c (.fn 193 [] [])] (O254 l)) = some (.ret [] (O254 (sortL l))) := by
  refine enter254 ext hx l _ _ ?_
  cases l with
  | nil => exact out254 ext [] _ _ (by simp)
  | cons a r =>
    have := outer254 ext h193 h194 h238 r [a] (a :: r).length (by simp; omega) hl
    simpa [sortL] using this
def E236 (n lim : Int) : Env := [(0, .c (.own 0)), (1, iV 0), (2, iV n), (3, iV lim), (4, .c (.fn 193 [] [])), (10, bV true), (11, bV true)]
theorem enter236 (hx : ext 236 = none) (l : List LV) (n lim : Int) (out : Option Out) (h : H236a ext 1 (E236 n lim) (O254 l) = out) : run Tryz.prog ext (.call 236 [.c (.own 0), iV 0, iV n, iV lim, .c (.fn 193 [] [])] (O254 l)) = out := by
  unfold H236a at h
  (rw [run_eq]; simp only [stepA, hx, Tryz.func236, Tryz.f236, show retF 236 = false from rfl]; simp only [List.length_cons, List.length_nil, Nat.reduceAdd, Nat.reduceLeDiff, Nat.zero_le, ↓reduceIte, List.zipIdx_cons, List.zipIdx_nil, List.map_cons, List.map_nil])
  simp only [dV, iV, bV, E236, O254] at h ⊢
  simp only [zS, nilEq, wantedA, opA, eff, boxA, cells, ev, gt, pt, putO, updO, setO, okC, loadA, cutC, fieldAddrA, fieldA, indexAddrA, indexA, builtinA, callOpA, callV, target, ptrV, lenS, binA, intOp, strOp, unA, num, lk, over, allocA, pickA, buildA, fillA, convertA, extractA, ofComp, nilCheckA, makeFuncA, ptrs, ofValue, cellB, Nat.reduceAdd, Nat.reduceSub, Nat.reduceMul, Nat.reduceLT, Nat.reduceLeDiff, Nat.reduceGT, ↓reduceIte, Nat.reduceEqDiff, Nat.reduceBEq, reduceCtorEq, Int.reduceBEq, Int.reduceBNe, Int.reduceLT, Int.reduceLE, Int.reduceGT, Int.reduceGE, aggT_34, sizeT_34, bytesT_34, und_34, elemT_34, isSliceT_34, zero1_34, zeroT_34, aggT_110, sizeT_110, bytesT_110, fieldT_110_0, fieldT_110_1, placesT_110, zeroT_110, aggT_3, sizeT_3, bytesT_3, und_3, zero1_3, zeroT_3]
  (refine (r_inLoop_some ?_).trans h; kernel_rfl)
theorem pdq236 (hx : ext 236 = none) (h254 : ext 254 = none) (h193 : ext 193 = none) (h194 : ext 194 = none) (h238 : ext 238 = none) (l : List LV) (lim : Int) (hl : l.length ≤ 12) : run Tryz.prog ext (.call 236 [.c (.own 0), iV 0, iV l.length, iV lim, .c (.fn 193 [] [])] (O254 l)) = some (.ret [] (O254 (sortL l))) := by
  refine enter236 ext hx l _ _ _ ?_
  have hr := sort254 ext h254 h193 h194 h238 l (by omega)
  have e : wr ((l.length : Int) - 0) = l.length := by rw [wr_id (by omega) (by omega)]; omega
  have hle : (l.length : Int) ≤ 12 := by omega
  unfold H236a
  simp only [dV, iV, bV, E236, O254] at hr ⊢
  (rw [show (It.code L236a) = It.code (sub B236 [1, 1, 0, 0]) from rfl]; simp only [B236, K236a, sub, Option.getD_some, Tryz.f236, ↓reduceIte, Nat.one_ne_zero])
  simp only [zS, nilEq, wantedA, opA, eff, boxA, cells, ev, gt, pt, putO, updO, setO, okC, loadA, cutC, fieldAddrA, fieldA, indexAddrA, indexA, builtinA, callOpA, callV, target, ptrV, lenS, binA, intOp, strOp, unA, num, lk, over, allocA, pickA, buildA, fillA, convertA, extractA, ofComp, nilCheckA, makeFuncA, ptrs, ofValue, cellB, Nat.reduceAdd, Nat.reduceSub, Nat.reduceMul, Nat.reduceLT, Nat.reduceLeDiff, Nat.reduceGT, ↓reduceIte, Nat.reduceEqDiff, Nat.reduceBEq, reduceCtorEq, Int.reduceBEq, Int.reduceBNe, Int.reduceLT, Int.reduceLE, Int.reduceGT, Int.reduceGE, aggT_34, sizeT_34, bytesT_34, und_34, elemT_34, isSliceT_34, zero1_34, zeroT_34, aggT_110, sizeT_110, bytesT_110, fieldT_110_0, fieldT_110_1, placesT_110, zeroT_110, aggT_3, sizeT_3, bytesT_3, und_3, zero1_3, zeroT_3, e, hle, callA_keep, cwK_arr, (id rfl : ownF 254 = true), hr, callOut_kept]
  (refine Eq.trans ?_ rfl; kernel_rfl)
theorem sort192 (hx : ext 192 = none) (h236 : ext 236 = none) (h254 : ext 254 = none) (h193 : ext 193 = none) (h194 : ext 194 = none) (h238 : ext 238 = none) (l : List LV) (hl : l.length ≤ 12) (m : Int)
    (h237 : run Tryz.prog ext (.call 237 [.c (.d (.v (.int .u64 (IntKind.u64.wrap l.length))))] []) = some (.ret [iV m] [])) : run Tryz.prog ext (.call 192 [.c (.own 0), .c (.fn 193 [] [])] (O254 l)) = some (.ret [] (O254 (sortL l))) := by
  have hr := pdq236 ext h236 h254 h193 h194 h238 l m hl
  (rw [run_eq]; simp only [stepA, hx, Tryz.func192, Tryz.f192, show retF 192 = false from rfl]; simp only [List.length_cons, List.length_nil, Nat.reduceAdd, Nat.reduceLeDiff, Nat.zero_le, ↓reduceIte, List.zipIdx_cons, List.zipIdx_nil, List.map_cons, List.map_nil])
  simp only [dV, iV, bV, O254] at hr h237 ⊢
  simp only [zS, nilEq, wantedA, opA, eff, boxA, cells, ev, gt, pt, putO, updO, setO, okC, loadA, cutC, fieldAddrA, fieldA, indexAddrA, indexA, builtinA, callOpA, callV, target, ptrV, lenS, binA, intOp, strOp, unA, num, lk, over, allocA, pickA, buildA, fillA, convertA, extractA, ofComp, nilCheckA, makeFuncA, ptrs, ofValue, cellB, Nat.reduceAdd, Nat.reduceSub, Nat.reduceMul, Nat.reduceLT, Nat.reduceLeDiff, Nat.reduceGT, ↓reduceIte, Nat.reduceEqDiff, Nat.reduceBEq, reduceCtorEq, Int.reduceBEq, Int.reduceBNe, Int.reduceLT, Int.reduceLE, Int.reduceGT, Int.reduceGE, aggT_144, sizeT_144, bytesT_144, und_144, elemT_144, isSliceT_144, zero1_144, zeroT_144, aggT_34, sizeT_34, bytesT_34, und_34, elemT_34, isSliceT_34, zero1_34, zeroT_34, aggT_110, sizeT_110, bytesT_110, fieldT_110_0, fieldT_110_1, placesT_110, zeroT_110, aggT_3, sizeT_3, bytesT_3, und_3, zero1_3, zeroT_3, aggT_230, sizeT_230, bytesT_230, und_230, zero1_230, zeroT_230, convertA, h237, callA_keep, cwK_arr, (id rfl : ownF 236 = true), hr, callOut_kept]
  (refine Eq.trans ?_ rfl; kernel_rfl)
theorem clone191 (hx : ext 191 = none) (x : LV) (l : List LV) (hl : l.length ≤ 12) : run Tryz.prog ext (.call 191 [dV (.s 2 ((x :: l).map lvD))] []) = some (.ret [.c (.own 0)] (O254 (x :: l))) := by
  have hb : l.length + 1 ≤ 1000000000 := by omega
  (rw [run_eq]; simp only [stepA, hx, Tryz.func191, Tryz.f191, show retF 191 = true from rfl]; simp only [List.length_cons, List.length_nil, Nat.reduceAdd, Nat.reduceLeDiff, Nat.zero_le, ↓reduceIte, List.zipIdx_cons, List.zipIdx_nil, List.map_cons, List.map_nil])
  simp only [dV, iV, bV, O254, List.map_cons]
  simp only [zS, nilEq, wantedA, opA, eff, boxA, cells, ev, gt, pt, putO, updO, setO, okC, loadA, cutC, fieldAddrA, fieldA, indexAddrA, indexA, builtinA, callOpA, callV, target, ptrV, lenS, binA, intOp, strOp, unA, num, lk, over, allocA, pickA, buildA, fillA, convertA, extractA, ofComp, nilCheckA, makeFuncA, ptrs, ofValue, cellB, Nat.reduceAdd, Nat.reduceSub, Nat.reduceMul, Nat.reduceLT, Nat.reduceLeDiff, Nat.reduceGT, ↓reduceIte, Nat.reduceEqDiff, Nat.reduceBEq, reduceCtorEq, Int.reduceBEq, Int.reduceBNe, Int.reduceLT, Int.reduceLE, Int.reduceGT, Int.reduceGE, aggT_144, sizeT_144, bytesT_144, und_144, elemT_144, isSliceT_144, zero1_144, zeroT_144, aggT_34, sizeT_34, bytesT_34, und_34, elemT_34, isSliceT_34, zero1_34, zeroT_34, aggT_110, sizeT_110, bytesT_110, fieldT_110_0, fieldT_110_1, placesT_110, zeroT_110, aggT_3, sizeT_3, bytesT_3, und_3, zero1_3, zeroT_3, bs0, os144, apI_arr, hb, Nat.zero_le]
  (refine Eq.trans ?_ rfl; kernel_rfl)
end Go.Proofs.YteenjodhmppgjaaGreatDoor.Am
end
section
/- Levels: lists that are joined. -/
namespace Go.Proofs.YteenjodhmppgjaaGreatDoor.Am
open Go
variable (ext : Ext)
set_option maxHeartbeats 4000000
noncomputable def B122 : Code := (Tryz.f122.body.getD .skip)
noncomputable def L122a : Code := sub B122 [1, 1, 0, 0, 0]
noncomputable def K122a : List It := [.inBlock 0, .code (sub B122 [1, 1, 1])]
noncomputable def H122a (ext : Ext) (m : Nat) (env : Env) (loc : List O) : Option Out := run Tryz.prog ext (.k ⟨78, m, [.tmp 8], false⟩ (.code L122a :: .inLoop L122a :: K122a) env loc)
theorem take_map (a : List LV) : List.take a.length (a.map lvD) = a.map lvD := List.take_of_length_le (by simp)
theorem listD_cons (z : Bool) (k : Nat) (a : List D) (l : List (List D)) : listD z k (a :: l) = .s k (a :: l) := listD_ne (by simp)
theorem var123 (hx : ext 123 = none) (x : LV) : run Tryz.prog ext (.call 123 [lvV x] []) = some (.ret [iV x.v] []) := by
  (rw [run_eq]; simp only [stepA, hx, Tryz.func123, Tryz.f123, show retF 123 = false from rfl]; simp only [List.length_cons, List.length_nil, Nat.reduceAdd, Nat.reduceLeDiff, Nat.zero_le, ↓reduceIte, List.zipIdx_cons, List.zipIdx_nil, List.map_cons, List.map_nil])
  simp only [iV, lvV, lvC]
  simp only [zS, nilEq, wantedA, opA, eff, boxA, cells, ev, gt, pt, putO, updO, setO, okC, loadA, cutC, fieldAddrA, fieldA, indexAddrA, indexA, builtinA, callOpA, callV, target, ptrV, lenS, binA, intOp, strOp, unA, num, lk, over, allocA, pickA, buildA, fillA, convertA, extractA, ofComp, nilCheckA, makeFuncA, ptrs, ofValue, cellB, Nat.reduceAdd, Nat.reduceSub, Nat.reduceMul, Nat.reduceLT, Nat.reduceLeDiff, Nat.reduceGT, ↓reduceIte, Nat.reduceEqDiff, Nat.reduceBEq, reduceCtorEq, Int.reduceBEq, Int.reduceBNe, Int.reduceLT, Int.reduceLE, Int.reduceGT, Int.reduceGE, aggT_110, sizeT_110, bytesT_110, fieldT_110_0, fieldT_110_1, placesT_110, zeroT_110, aggT_3, sizeT_3, bytesT_3, und_3, zero1_3, zeroT_3]
  (refine Eq.trans ?_ rfl; kernel_rfl)
theorem gr124 (hx : ext 124 = none) (x y : LV) : run Tryz.prog ext (.call 124 [lvV x, lvV y] []) = some (.ret [lvV ⟨x.v, mx x.p y.p⟩] []) := by
  (rw [run_eq]; simp only [stepA, hx, Tryz.func124, Tryz.f124, show retF 124 = false from rfl]; simp only [List.length_cons, List.length_nil, Nat.reduceAdd, Nat.reduceLeDiff, Nat.zero_le, ↓reduceIte, List.zipIdx_cons, List.zipIdx_nil, List.map_cons, List.map_nil])
  simp only [lvV, lvC, mx]
  simp only [zS, nilEq, wantedA, opA, eff, boxA, cells, ev, gt, pt, putO, updO, setO, okC, loadA, cutC, fieldAddrA, fieldA, indexAddrA, indexA, builtinA, callOpA, callV, target, ptrV, lenS, binA, intOp, strOp, unA, num, lk, over, allocA, pickA, buildA, fillA, convertA, extractA, ofComp, nilCheckA, makeFuncA, ptrs, ofValue, cellB, Nat.reduceAdd, Nat.reduceSub, Nat.reduceMul, Nat.reduceLT, Nat.reduceLeDiff, Nat.reduceGT, ↓reduceIte, Nat.reduceEqDiff, Nat.reduceBEq, reduceCtorEq, Int.reduceBEq, Int.reduceBNe, Int.reduceLT, Int.reduceLE, Int.reduceGT, Int.reduceGE, aggT_110, sizeT_110, bytesT_110, fieldT_110_0, fieldT_110_1, placesT_110, zeroT_110, aggT_3, sizeT_3, bytesT_3, und_3, zero1_3, zeroT_3, maxA]
  (refine Eq.trans ?_ rfl; kernel_rfl)
theorem sorted121 (hx : ext 121 = none) (h191 : ext 191 = none) (h192 : ext 192 = none) (h236 : ext 236 = none) (h254 : ext 254 = none) (h193 : ext 193 = none) (h194 : ext 194 = none) (h238 : ext 238 = none) (x : LV) (l : List LV) (hl : l.length < 12) (m : Int)
    (h237 : run Tryz.prog ext (.call 237 [.c (.d (.v (.int .u64 (IntKind.u64.wrap (x :: l).length))))] []) = some (.ret [iV m] [])) : run Tryz.prog ext (.call 121 [dV (.s 2 ((x :: l).map lvD))] []) = some (.ret [.c (.own 0)] (O254 (sortL (x :: l)))) := by
  have h1 := clone191 ext h191 x l (by omega)
  have h2 := sort192 ext h192 h236 h254 h193 h194 h238 (x :: l) (by simp; omega) m h237
  (rw [run_eq]; simp only [stepA, hx, Tryz.func121, Tryz.f121, show retF 121 = true from rfl]; simp only [List.length_cons, List.length_nil, Nat.reduceAdd, Nat.reduceLeDiff, Nat.zero_le, ↓reduceIte, List.zipIdx_cons, List.zipIdx_nil, List.map_cons, List.map_nil])
  simp only [dV, iV, O254, List.map_cons] at h1 h2 ⊢
  simp only [zS, nilEq, wantedA, opA, eff, boxA, cells, ev, gt, pt, putO, updO, setO, okC, loadA, cutC, fieldAddrA, fieldA, indexAddrA, indexA, builtinA, callOpA, callV, target, ptrV, lenS, binA, intOp, strOp, unA, num, lk, over, allocA, pickA, buildA, fillA, convertA, extractA, ofComp, nilCheckA, makeFuncA, ptrs, ofValue, cellB, Nat.reduceAdd, Nat.reduceSub, Nat.reduceMul, Nat.reduceLT, Nat.reduceLeDiff, Nat.reduceGT, ↓reduceIte, Nat.reduceEqDiff, Nat.reduceBEq, reduceCtorEq, Int.reduceBEq, Int.reduceBNe, Int.reduceLT, Int.reduceLE, Int.reduceGT, Int.reduceGE, aggT_144, sizeT_144, bytesT_144, und_144, elemT_144, isSliceT_144, zero1_144, zeroT_144, aggT_34, sizeT_34, bytesT_34, und_34, elemT_34, isSliceT_34, zero1_34, zeroT_34, aggT_110, sizeT_110, bytesT_110, fieldT_110_0, fieldT_110_1, placesT_110, zeroT_110, aggT_3, sizeT_3, bytesT_3, und_3, zero1_3, zeroT_3, h1, callOut_own, callA_keep, cwK_arr, (id rfl : ownF 192 = true), h2, callOut_kept]
  (refine Eq.trans ?_ rfl; kernel_rfl)
def joinL : List LV → List LV → List LV
  | [], b => b
  | x :: a, [] => x :: a
  | x :: a, y :: b => if x.v < y.v then x :: joinL a (y :: b) else if y.v < x.v then y :: joinL (x :: a) b else ⟨x.v, mx x.p y.p⟩ :: joinL a b
termination_by a b => a.length + b.length
def E122 (z z' : Bool) (a b : List LV) : Env := [(0, dV (listD z 2 (a.map lvD))), (1, dV (listD z' 2 (b.map lvD))), (2, .c (.fn 123 [] [])), (3, .c (.fn 124 [] [])), (9, .c (.own 0))]
def O122 (out : List LV) : List O := [.arr 2 (out.map lvD)]
theorem enter122 (hx : ext 122 = none) (z z' : Bool) (a b : List LV) (hs : a.length + b.length ≤ 1000000) (out : Option Out) (h : H122a ext 0 (E122 z z' a b) (O122 []) = out) : run Tryz.prog ext (.call 122 [dV (listD z 2 (a.map lvD)), dV (listD z' 2 (b.map lvD)), .c (.fn 123 [] []), .c (.fn 124 [] [])] []) = out := by
  have e : wr ((a.length : Int) + b.length) = ((a.length : Int) + b.length) := wr_id (by omega) (by omega)
  have h0 : (0 : Int) ≤ (a.length : Int) + b.length := by omega
  have h1 : ((a.length : Int) + b.length) ≤ 1000000000 := by omega
  unfold H122a at h
  (rw [run_eq]; simp only [stepA, hx, Tryz.func122, Tryz.f122, show retF 122 = false from rfl]; simp only [List.length_cons, List.length_nil, Nat.reduceAdd, Nat.reduceLeDiff, Nat.zero_le, ↓reduceIte, List.zipIdx_cons, List.zipIdx_nil, List.map_cons, List.map_nil])
  simp only [dV, iV, bV, E122, O122, List.map_nil] at h ⊢
  simp only [zS, nilEq, wantedA, opA, eff, boxA, cells, ev, gt, pt, putO, updO, setO, okC, loadA, cutC, fieldAddrA, fieldA, indexAddrA, indexA, builtinA, callOpA, callV, target, ptrV, lenS, binA, intOp, strOp, unA, num, lk, over, allocA, pickA, buildA, fillA, convertA, extractA, ofComp, nilCheckA, makeFuncA, ptrs, ofValue, cellB, Nat.reduceAdd, Nat.reduceSub, Nat.reduceMul, Nat.reduceLT, Nat.reduceLeDiff, Nat.reduceGT, ↓reduceIte, Nat.reduceEqDiff, Nat.reduceBEq, reduceCtorEq, Int.reduceBEq, Int.reduceBNe, Int.reduceLT, Int.reduceLE, Int.reduceGT, Int.reduceGE, aggT_36, sizeT_36, bytesT_36, fieldT_36_0, fieldT_36_1, placesT_36, zeroT_36, aggT_34, sizeT_34, bytesT_34, und_34, elemT_34, isSliceT_34, zero1_34, zeroT_34, aggT_110, sizeT_110, bytesT_110, fieldT_110_0, fieldT_110_1, placesT_110, zeroT_110, aggT_3, sizeT_3, bytesT_3, und_3, zero1_3, zeroT_3, e, mk34, h0, h1]
  (refine (r_inLoop_some ?_).trans h; kernel_rfl)
theorem step122 (h123 : ext 123 = none) (h124 : ext 124 = none) (h194 : ext 194 = none) (h238 : ext 238 = none) (z z' : Bool) (x y : LV) (a b out : List LV) (ho : out.length < 1000000) (ha : a.length < 1000000) (hb : b.length < 1000000) (res : Option Out)
    (h : (if x.v < y.v then H122a ext 0 (E122 false z' a (y :: b)) (O122 (out ++ [x])) else if y.v < x.v then H122a ext 0 (E122 z false (x :: a) b) (O122 (out ++ [y])) else H122a ext 0 (E122 false false a b) (O122 (out ++ [⟨x.v, mx x.p y.p⟩]))) = res) :
    H122a ext 0 (E122 z z' (x :: a) (y :: b)) (O122 out) = res := by
  have hx := var123 ext h123 x
  have hy := var123 ext h123 y
  have hg := gr124 ext h124 x y
  have hc := cmp194 ext h194 h238 x.v y.v
  have la : ((a.length + 1 : Nat) : Int) > 0 := by omega
  have lb : ((b.length + 1 : Nat) : Int) > 0 := by omega
  have la0 : (0 : Int) < ((a.length + 1 : Nat) : Int) := by omega
  have lb0 : (0 : Int) < ((b.length + 1 : Nat) : Int) := by omega
  have la1 : (1 : Int) ≤ ((a.length + 1 : Nat) : Int) := by omega
  have lb1 : (1 : Int) ≤ ((b.length + 1 : Nat) : Int) := by omega
  have z0 : (0 : Int) ≤ 0 := by omega
  have z1 : (0 : Int) ≤ 1 := by omega
  have ho' : out.length ≤ 1000000000 := by omega
  unfold H122a at h ⊢
  by_cases c1 : x.v < y.v
  · rw [if_pos c1] at h
    have e : cmpI x.v y.v = -1 := by unfold cmpI; rw [if_pos c1]
    rw [e] at hc
    simp only [dV, iV, bV, lvV, lvC, E122, O122, List.map_cons, List.map_append, List.map_nil, listD_false, listD_cons, lvD_eq x] at h hx hy hc hg ⊢
    (rw [show (It.code L122a) = It.code (sub B122 [1, 1, 0, 0, 0]) from rfl]; simp only [B122, K122a, sub, Option.getD_some, Tryz.f122, ↓reduceIte, Nat.one_ne_zero])
    simp only [zS, nilEq, wantedA, opA, eff, boxA, cells, ev, gt, pt, putO, updO, setO, okC, loadA, cutC, fieldAddrA, fieldA, indexAddrA, indexA, builtinA, callOpA, callV, target, ptrV, lenS, binA, intOp, strOp, unA, num, lk, over, allocA, pickA, buildA, fillA, convertA, extractA, ofComp, nilCheckA, makeFuncA, ptrs, ofValue, cellB, Nat.reduceAdd, Nat.reduceSub, Nat.reduceMul, Nat.reduceLT, Nat.reduceLeDiff, Nat.reduceGT, ↓reduceIte, Nat.reduceEqDiff, Nat.reduceBEq, reduceCtorEq, Int.reduceBEq, Int.reduceBNe, Int.reduceLT, Int.reduceLE, Int.reduceGT, Int.reduceGE, aggT_34, sizeT_34, bytesT_34, und_34, elemT_34, isSliceT_34, zero1_34, zeroT_34, aggT_110, sizeT_110, bytesT_110, fieldT_110_0, fieldT_110_1, placesT_110, zeroT_110, aggT_3, sizeT_3, bytesT_3, und_3, zero1_3, zeroT_3, drawA, holes_succ, holes_zero, Array.size, List.length, la, lb, la0, lb0, z0, Int.toNat_zero, lvD, hx, hy, hc]
    rw [afterDraw_some _ _ _ _ (by kernel_rfl)]
    simp only [zS, nilEq, wantedA, opA, eff, boxA, cells, ev, gt, pt, putO, updO, setO, okC, loadA, cutC, fieldAddrA, fieldA, indexAddrA, indexA, builtinA, callOpA, callV, target, ptrV, lenS, binA, intOp, strOp, unA, num, lk, over, allocA, pickA, buildA, fillA, convertA, extractA, ofComp, nilCheckA, makeFuncA, ptrs, ofValue, cellB, Nat.reduceAdd, Nat.reduceSub, Nat.reduceMul, Nat.reduceLT, Nat.reduceLeDiff, Nat.reduceGT, ↓reduceIte, Nat.reduceEqDiff, Nat.reduceBEq, reduceCtorEq, Int.reduceBEq, Int.reduceBNe, Int.reduceLT, Int.reduceLE, Int.reduceGT, Int.reduceGE, aggT_34, sizeT_34, bytesT_34, und_34, elemT_34, isSliceT_34, zero1_34, zeroT_34, aggT_110, sizeT_110, bytesT_110, fieldT_110_0, fieldT_110_1, placesT_110, zeroT_110, aggT_3, sizeT_3, bytesT_3, und_3, zero1_3, zeroT_3, drawA, holes_succ, holes_zero, Array.size, List.length, la, lb, la0, lb0, la1, lb1, z0, z1, Int.toNat_zero, Int.toNat_one, lvD, sliceA, bound, bsLV, oo34, apG_arr, ho', take_map, (id rfl : (1 : Int).toNat = 1)]
    rw [afterDraw_some _ _ _ _ (by kernel_rfl)]
    simp only [zS, nilEq, wantedA, opA, eff, boxA, cells, ev, gt, pt, putO, updO, setO, okC, loadA, cutC, fieldAddrA, fieldA, indexAddrA, indexA, builtinA, callOpA, callV, target, ptrV, lenS, binA, intOp, strOp, unA, num, lk, over, allocA, pickA, buildA, fillA, convertA, extractA, ofComp, nilCheckA, makeFuncA, ptrs, ofValue, cellB, Nat.reduceAdd, Nat.reduceSub, Nat.reduceMul, Nat.reduceLT, Nat.reduceLeDiff, Nat.reduceGT, ↓reduceIte, Nat.reduceEqDiff, Nat.reduceBEq, reduceCtorEq, Int.reduceBEq, Int.reduceBNe, Int.reduceLT, Int.reduceLE, Int.reduceGT, Int.reduceGE]
    (refine (r_inLoop_some ?_).trans h; kernel_rfl)
  by_cases c2 : y.v < x.v
  · rw [if_neg c1, if_pos c2] at h
    have e : cmpI x.v y.v = 1 := by unfold cmpI; rw [if_neg c1, if_pos c2]
    rw [e] at hc
    simp only [dV, iV, bV, lvV, lvC, E122, O122, List.map_cons, List.map_append, List.map_nil, listD_false, listD_cons, lvD_eq y] at h hx hy hc hg ⊢
    (rw [show (It.code L122a) = It.code (sub B122 [1, 1, 0, 0, 0]) from rfl]; simp only [B122, K122a, sub, Option.getD_some, Tryz.f122, ↓reduceIte, Nat.one_ne_zero])
    simp only [zS, nilEq, wantedA, opA, eff, boxA, cells, ev, gt, pt, putO, updO, setO, okC, loadA, cutC, fieldAddrA, fieldA, indexAddrA, indexA, builtinA, callOpA, callV, target, ptrV, lenS, binA, intOp, strOp, unA, num, lk, over, allocA, pickA, buildA, fillA, convertA, extractA, ofComp, nilCheckA, makeFuncA, ptrs, ofValue, cellB, Nat.reduceAdd, Nat.reduceSub, Nat.reduceMul, Nat.reduceLT, Nat.reduceLeDiff, Nat.reduceGT, ↓reduceIte, Nat.reduceEqDiff, Nat.reduceBEq, reduceCtorEq, Int.reduceBEq, Int.reduceBNe, Int.reduceLT, Int.reduceLE, Int.reduceGT, Int.reduceGE, aggT_34, sizeT_34, bytesT_34, und_34, elemT_34, isSliceT_34, zero1_34, zeroT_34, aggT_110, sizeT_110, bytesT_110, fieldT_110_0, fieldT_110_1, placesT_110, zeroT_110, aggT_3, sizeT_3, bytesT_3, und_3, zero1_3, zeroT_3, drawA, holes_succ, holes_zero, Array.size, List.length, la, lb, la0, lb0, z0, Int.toNat_zero, lvD, hx, hy, hc]
    rw [afterDraw_some _ _ _ _ (by kernel_rfl)]
    simp only [zS, nilEq, wantedA, opA, eff, boxA, cells, ev, gt, pt, putO, updO, setO, okC, loadA, cutC, fieldAddrA, fieldA, indexAddrA, indexA, builtinA, callOpA, callV, target, ptrV, lenS, binA, intOp, strOp, unA, num, lk, over, allocA, pickA, buildA, fillA, convertA, extractA, ofComp, nilCheckA, makeFuncA, ptrs, ofValue, cellB, Nat.reduceAdd, Nat.reduceSub, Nat.reduceMul, Nat.reduceLT, Nat.reduceLeDiff, Nat.reduceGT, ↓reduceIte, Nat.reduceEqDiff, Nat.reduceBEq, reduceCtorEq, Int.reduceBEq, Int.reduceBNe, Int.reduceLT, Int.reduceLE, Int.reduceGT, Int.reduceGE, aggT_34, sizeT_34, bytesT_34, und_34, elemT_34, isSliceT_34, zero1_34, zeroT_34, aggT_110, sizeT_110, bytesT_110, fieldT_110_0, fieldT_110_1, placesT_110, zeroT_110, aggT_3, sizeT_3, bytesT_3, und_3, zero1_3, zeroT_3, drawA, holes_succ, holes_zero, Array.size, List.length, la, lb, la0, lb0, la1, lb1, z0, z1, Int.toNat_zero, Int.toNat_one, lvD, sliceA, bound, bsLV, oo34, apG_arr, ho', take_map, (id rfl : (1 : Int).toNat = 1)]
    rw [afterDraw_some _ _ _ _ (by kernel_rfl)]
    simp only [zS, nilEq, wantedA, opA, eff, boxA, cells, ev, gt, pt, putO, updO, setO, okC, loadA, cutC, fieldAddrA, fieldA, indexAddrA, indexA, builtinA, callOpA, callV, target, ptrV, lenS, binA, intOp, strOp, unA, num, lk, over, allocA, pickA, buildA, fillA, convertA, extractA, ofComp, nilCheckA, makeFuncA, ptrs, ofValue, cellB, Nat.reduceAdd, Nat.reduceSub, Nat.reduceMul, Nat.reduceLT, Nat.reduceLeDiff, Nat.reduceGT, ↓reduceIte, Nat.reduceEqDiff, Nat.reduceBEq, reduceCtorEq, Int.reduceBEq, Int.reduceBNe, Int.reduceLT, Int.reduceLE, Int.reduceGT, Int.reduceGE]
    (refine (r_inLoop_some ?_).trans h; kernel_rfl)
  · rw [if_neg c1, if_neg c2] at h
    have e : cmpI x.v y.v = 0 := by unfold cmpI; rw [if_neg c1, if_neg c2]
    rw [e] at hc
    simp only [dV, iV, bV, lvV, lvC, E122, O122, List.map_cons, List.map_append, List.map_nil, listD_false, listD_cons, lvD_eq ⟨_, _⟩] at h hx hy hc hg ⊢
    (rw [show (It.code L122a) = It.code (sub B122 [1, 1, 0, 0, 0]) from rfl]; simp only [B122, K122a, sub, Option.getD_some, Tryz.f122, ↓reduceIte, Nat.one_ne_zero])
    simp only [zS, nilEq, wantedA, opA, eff, boxA, cells, ev, gt, pt, putO, updO, setO, okC, loadA, cutC, fieldAddrA, fieldA, indexAddrA, indexA, builtinA, callOpA, callV, target, ptrV, lenS, binA, intOp, strOp, unA, num, lk, over, allocA, pickA, buildA, fillA, convertA, extractA, ofComp, nilCheckA, makeFuncA, ptrs, ofValue, cellB, Nat.reduceAdd, Nat.reduceSub, Nat.reduceMul, Nat.reduceLT, Nat.reduceLeDiff, Nat.reduceGT, ↓reduceIte, Nat.reduceEqDiff, Nat.reduceBEq, reduceCtorEq, Int.reduceBEq, Int.reduceBNe, Int.reduceLT, Int.reduceLE, Int.reduceGT, Int.reduceGE, aggT_34, sizeT_34, bytesT_34, und_34, elemT_34, isSliceT_34, zero1_34, zeroT_34, aggT_110, sizeT_110, bytesT_110, fieldT_110_0, fieldT_110_1, placesT_110, zeroT_110, aggT_3, sizeT_3, bytesT_3, und_3, zero1_3, zeroT_3, drawA, holes_succ, holes_zero, Array.size, List.length, la, lb, la0, lb0, z0, Int.toNat_zero, lvD, hx, hy, hc]
    rw [afterDraw_some _ _ _ _ (by kernel_rfl)]
    simp only [zS, nilEq, wantedA, opA, eff, boxA, cells, ev, gt, pt, putO, updO, setO, okC, loadA, cutC, fieldAddrA, fieldA, indexAddrA, indexA, builtinA, callOpA, callV, target, ptrV, lenS, binA, intOp, strOp, unA, num, lk, over, allocA, pickA, buildA, fillA, convertA, extractA, ofComp, nilCheckA, makeFuncA, ptrs, ofValue, cellB, Nat.reduceAdd, Nat.reduceSub, Nat.reduceMul, Nat.reduceLT, Nat.reduceLeDiff, Nat.reduceGT, ↓reduceIte, Nat.reduceEqDiff, Nat.reduceBEq, reduceCtorEq, Int.reduceBEq, Int.reduceBNe, Int.reduceLT, Int.reduceLE, Int.reduceGT, Int.reduceGE, aggT_34, sizeT_34, bytesT_34, und_34, elemT_34, isSliceT_34, zero1_34, zeroT_34, aggT_110, sizeT_110, bytesT_110, fieldT_110_0, fieldT_110_1, placesT_110, zeroT_110, aggT_3, sizeT_3, bytesT_3, und_3, zero1_3, zeroT_3, drawA, holes_succ, holes_zero, Array.size, List.length, la, lb, la0, lb0, la1, lb1, z0, z1, Int.toNat_zero, Int.toNat_one, lvD, hg, sliceA, bound, bsLV, oo34, apG_arr, ho', take_map, (id rfl : (1 : Int).toNat = 1)]
    rw [afterDraw_some _ _ _ _ (by kernel_rfl)]
    simp only [zS, nilEq, wantedA, opA, eff, boxA, cells, ev, gt, pt, putO, updO, setO, okC, loadA, cutC, fieldAddrA, fieldA, indexAddrA, indexA, builtinA, callOpA, callV, target, ptrV, lenS, binA, intOp, strOp, unA, num, lk, over, allocA, pickA, buildA, fillA, convertA, extractA, ofComp, nilCheckA, makeFuncA, ptrs, ofValue, cellB, Nat.reduceAdd, Nat.reduceSub, Nat.reduceMul, Nat.reduceLT, Nat.reduceLeDiff, Nat.reduceGT, ↓reduceIte, Nat.reduceEqDiff, Nat.reduceBEq, reduceCtorEq, Int.reduceBEq, Int.reduceBNe, Int.reduceLT, Int.reduceLE, Int.reduceGT, Int.reduceGE]
    (refine (r_inLoop_some ?_).trans h; kernel_rfl)
theorem done122 (z z' : Bool) (a b out : List LV) (ho : out.length < 1000000) (ha : a.length < 1000000) (hb : b.length < 1000000) (hn : a = [] ∨ b = []) : H122a ext 0 (E122 z z' a b) (O122 out) = some (.ret [dV (.s 2 ((out ++ a ++ b).map lvD))] []) := by
  have ho' : out.length ≤ 1000000000 := by omega
  have ha' : a.length ≤ 1000000000 := by omega
  have hb' : b.length ≤ 1000000000 := by omega
  have hoa : out.length + a.length ≤ 1000000000 := by omega
  unfold H122a
  by_cases c1 : (a.length : Int) > 0
  · have c2 : ¬ (b.length : Int) > 0 := by
      rcases hn with rfl | rfl
      · simp at c1
      · simp
    simp only [dV, iV, bV, E122, O122, List.map_append]
    (rw [show (It.code L122a) = It.code (sub B122 [1, 1, 0, 0, 0]) from rfl]; simp only [B122, K122a, sub, Option.getD_some, Tryz.f122, ↓reduceIte, Nat.one_ne_zero])
    simp only [zS, nilEq, wantedA, opA, eff, boxA, cells, ev, gt, pt, putO, updO, setO, okC, loadA, cutC, fieldAddrA, fieldA, indexAddrA, indexA, builtinA, callOpA, callV, target, ptrV, lenS, binA, intOp, strOp, unA, num, lk, over, allocA, pickA, buildA, fillA, convertA, extractA, ofComp, nilCheckA, makeFuncA, ptrs, ofValue, cellB, Nat.reduceAdd, Nat.reduceSub, Nat.reduceMul, Nat.reduceLT, Nat.reduceLeDiff, Nat.reduceGT, ↓reduceIte, Nat.reduceEqDiff, Nat.reduceBEq, reduceCtorEq, Int.reduceBEq, Int.reduceBNe, Int.reduceLT, Int.reduceLE, Int.reduceGT, Int.reduceGE, aggT_34, sizeT_34, bytesT_34, und_34, elemT_34, isSliceT_34, zero1_34, zeroT_34, aggT_110, sizeT_110, bytesT_110, fieldT_110_0, fieldT_110_1, placesT_110, zeroT_110, aggT_3, sizeT_3, bytesT_3, und_3, zero1_3, zeroT_3, c1, c2, ol34, apI_arr, ho', ha', hb', hoa]
    (refine Eq.trans ?_ rfl; kernel_rfl)
  · simp only [dV, iV, bV, E122, O122, List.map_append]
    (rw [show (It.code L122a) = It.code (sub B122 [1, 1, 0, 0, 0]) from rfl]; simp only [B122, K122a, sub, Option.getD_some, Tryz.f122, ↓reduceIte, Nat.one_ne_zero])
    simp only [zS, nilEq, wantedA, opA, eff, boxA, cells, ev, gt, pt, putO, updO, setO, okC, loadA, cutC, fieldAddrA, fieldA, indexAddrA, indexA, builtinA, callOpA, callV, target, ptrV, lenS, binA, intOp, strOp, unA, num, lk, over, allocA, pickA, buildA, fillA, convertA, extractA, ofComp, nilCheckA, makeFuncA, ptrs, ofValue, cellB, Nat.reduceAdd, Nat.reduceSub, Nat.reduceMul, Nat.reduceLT, Nat.reduceLeDiff, Nat.reduceGT, ↓reduceIte, Nat.reduceEqDiff, Nat.reduceBEq, reduceCtorEq, Int.reduceBEq, Int.reduceBNe, Int.reduceLT, Int.reduceLE, Int.reduceGT, Int.reduceGE, aggT_34, sizeT_34, bytesT_34, und_34, elemT_34, isSliceT_34, zero1_34, zeroT_34, aggT_110, sizeT_110, bytesT_110, fieldT_110_0, fieldT_110_1, placesT_110, zeroT_110, aggT_3, sizeT_3, bytesT_3, und_3, zero1_3, zeroT_3, c1, ol34, apI_arr, ho', ha', hb', hoa]
    (refine Eq.trans ?_ rfl; kernel_rfl)
theorem joined122 (hx : ext 122 = none) (h123 : ext 123 = none) (h124 : ext 124 = none) (h194 : ext 194 = none) (h238 : ext 238 = none) (z z' : Bool) (a b : List LV) (hs : a.length + b.length ≤ 400000) :
    run Tryz.prog ext (.call 122 [dV (listD z 2 (a.map lvD)), dV (listD z' 2 (b.map lvD)), .c (.fn 123 [] []), .c (.fn 124 [] [])] []) = some (.ret [dV (.s 2 ((joinL a b).map lvD))] []) := by
  refine enter122 ext hx z z' a b (by omega) _ ?_
  have key : ∀ (m : Nat) (z z' : Bool) (a b out : List LV), a.length + b.length ≤ m → out.length + a.length + b.length < 1000000 → H122a ext 0 (E122 z z' a b) (O122 out) = some (.ret [dV (.s 2 ((out ++ joinL a b).map lvD))] []) := by
    intro m
    induction m with
    | zero =>
      intro z z' a b out hm ho
      have ha : a = [] := List.eq_nil_of_length_eq_zero (by omega)
      have hb : b = [] := List.eq_nil_of_length_eq_zero (by omega)
      subst ha hb
      rw [done122 ext z z' [] [] out (by omega) (by simp) (by simp) (.inl rfl)]
      rw [joinL]; simp
    | succ m ih =>
      intro z z' a b out hm ho
      cases a with
      | nil =>
        rw [done122 ext z z' [] b out (by omega) (by simp) (by simp at ho; omega) (.inl rfl)]
        rw [joinL]; simp
      | cons x a =>
        cases b with
        | nil =>
          rw [done122 ext z z' (x :: a) [] out (by omega) (by simp at ho ⊢; omega) (by simp) (.inr rfl)]
          rw [joinL]; simp
        | cons y b =>
          simp only [List.length_cons] at hm ho
          refine step122 ext h123 h124 h194 h238 z z' x y a b out (by omega) (by omega) (by omega) _ ?_
          rw [joinL]
          by_cases c1 : x.v < y.v
          · rw [if_pos c1, if_pos c1, ih false z' a (y :: b) _ (by simp; omega) (by simp; omega)]
            simp
          · rw [if_neg c1, if_neg c1]
            by_cases c2 : y.v < x.v
            · rw [if_pos c2, if_pos c2, ih z false (x :: a) b _ (by simp; omega) (by simp; omega)]
              simp
            · rw [if_neg c2, if_neg c2, ih false false a b _ (by omega) (by simp; omega)]
              simp
  have := key (a.length + b.length) z z' a b [] (Nat.le_refl _) (by simp; omega)
  simpa using this
theorem joinL_len : ∀ (a b : List LV), (joinL a b).length ≤ a.length + b.length
  | [], b => by rw [joinL]; simp
  | x :: a, [] => by rw [joinL]; simp
  | x :: a, y :: b => by
    rw [joinL]
    split
    · have := joinL_len a (y :: b); simp at this ⊢; omega
    · split
      · have := joinL_len (x :: a) b; simp at this ⊢; omega
      · have := joinL_len a b; simp; omega
termination_by a b => a.length + b.length
end Go.Proofs.YteenjodhmppgjaaGreatDoor.Am
end
section
/- Levels: what the program puts in for variables. -/
namespace Go.Proofs.YteenjodhmppgjaaGreatDoor.Am
open Go
variable (ext : Ext)
set_option maxHeartbeats 8000000
noncomputable def B84 : Code := (Tryz.f84.body.getD .skip)
noncomputable def L84a : Code := sub B84 [1, 1, 0, 1, 0, 0]
noncomputable def K84a : List It := [.inBlock 0, .code (sub B84 [1, 1, 1])]
noncomputable def H84a (ext : Ext) (m : Nat) (env : Env) (loc : List O) : Option Out := run Tryz.prog ext (.k ⟨102, m, [.cell 4 36, .tmp 5], false⟩ (.code L84a :: .inLoop L84a :: K84a) env loc)
noncomputable def L84b : Code := sub B84 [1, 1, 1, 1, 0, 1, 0, 0]
noncomputable def K84b : List It := [.inBlock 2, .code (sub B84 [1, 1, 1, 1, 1])]
noncomputable def H84b (ext : Ext) (m : Nat) (env : Env) (loc : List O) : Option Out := run Tryz.prog ext (.k ⟨102, m, [.cell 4 36, .tmp 5], false⟩ (.code L84b :: .inLoop L84b :: K84b) env loc)
noncomputable def L84c : Code := sub B84 [1, 1, 1, 1, 0, 1, 0, 0, 1, 1, 0, 0, 1, 1, 1, 1, 0, 1, 0, 0]
noncomputable def K84c : List It := [.inBlock 4, .code (sub B84 [1, 1, 1, 1, 0, 1, 0, 0, 1, 1, 0, 0, 1, 1, 1, 1, 1]), .inBlock 3, .code (sub B84 [1, 1, 1, 1, 0, 1, 0, 0, 1, 1, 1]), .inLoop L84b, .inBlock 2, .code (sub B84 [1, 1, 1, 1, 1])]
noncomputable def H84c (ext : Ext) (m : Nat) (env : Env) (loc : List O) : Option Out := run Tryz.prog ext (.k ⟨102, m, [.cell 4 36, .tmp 5], false⟩ (.code L84c :: .inLoop L84c :: K84c) env loc)
/-- What the sorting of a level's variables answers. -/
def sortOut (l : List LV) : Out := match l with | [] => .ret [dV (.s 2 [])] [] | a :: r => .ret [.c (.own 0)] [.arr 2 ((sortL (a :: r)).map lvD)]
def Sorts : Prop := ∀ (z : Bool) (l : List LV), l.length ≤ 8 → run Tryz.prog ext (.call 121 [dV (listD z 2 (l.map lvD))] []) = some (sortOut l)
def E84 (z : Bool) (bys : List Lev) (x : Lev) (k : Int) : Env := [(1, dV (listD z 2 (bys.map levD))), (2, .c (.ptr 0 0)), (4, .c (.ptr 1 0)), (20, dV x.d), (21, iV x.vs.length), (22, iV k)]
def O84 (x : Lev) : List O := [.box (levC x), .box (levC zLev)]
theorem enter84 (hx : ext 84 = none) (x : Lev) (z : Bool) (bys : List Lev) (hr : run Tryz.prog ext (.call 120 [levV x] []) = some (.ret [bV true] [])) (out : Option Out) (h : H84a ext 0 (E84 z bys x 0) (O84 x) = out) : run Tryz.prog ext (.call 84 [levV x, dV (listD z 2 (bys.map levD))] []) = out := by
  unfold H84a at h
  (rw [run_eq]; simp only [stepA, hx, Tryz.func84, Tryz.f84, show retF 84 = false from rfl]; simp only [List.length_cons, List.length_nil, Nat.reduceAdd, Nat.reduceLeDiff, Nat.zero_le, ↓reduceIte, List.zipIdx_cons, List.zipIdx_nil, List.map_cons, List.map_nil])
  simp only [levV, levC_z, levC, Lev.d, dV, iV, bV, E84, O84] at h hr ⊢
  simp only [zS, nilEq, wantedA, opA, eff, boxA, cells, ev, gt, pt, putO, updO, setO, okC, loadA, cutC, fieldAddrA, fieldA, indexAddrA, indexA, builtinA, callOpA, callV, target, ptrV, lenS, binA, intOp, strOp, unA, num, lk, over, allocA, pickA, buildA, fillA, convertA, extractA, ofComp, nilCheckA, makeFuncA, ptrs, ofValue, cellB, Nat.reduceAdd, Nat.reduceSub, Nat.reduceMul, Nat.reduceLT, Nat.reduceLeDiff, Nat.reduceGT, ↓reduceIte, Nat.reduceEqDiff, Nat.reduceBEq, reduceCtorEq, Int.reduceBEq, Int.reduceBNe, Int.reduceLT, Int.reduceLE, Int.reduceGT, Int.reduceGE, aggT_36, sizeT_36, bytesT_36, fieldT_36_0, fieldT_36_1, placesT_36, zeroT_36, aggT_34, sizeT_34, bytesT_34, und_34, elemT_34, isSliceT_34, zero1_34, zeroT_34, aggT_110, sizeT_110, bytesT_110, fieldT_110_0, fieldT_110_1, placesT_110, zeroT_110, aggT_3, sizeT_3, bytesT_3, und_3, zero1_3, zeroT_3, hr]
  (refine (r_inLoop_some ?_).trans h; kernel_rfl)
theorem bad84 (hx : ext 84 = none) (x : Lev) (z : Bool) (bys : List Lev) (hr : run Tryz.prog ext (.call 120 [levV x] []) = some (.ret [bV false] [])) : run Tryz.prog ext (.call 84 [levV x, dV (listD z 2 (bys.map levD))] []) = some (.ret [levV zLev, iV 4] []) := by
  (rw [run_eq]; simp only [stepA, hx, Tryz.func84, Tryz.f84, show retF 84 = false from rfl]; simp only [List.length_cons, List.length_nil, Nat.reduceAdd, Nat.reduceLeDiff, Nat.zero_le, ↓reduceIte, List.zipIdx_cons, List.zipIdx_nil, List.map_cons, List.map_nil])
  simp only [levV, levC_z, levC, Lev.d, dV, iV, bV] at hr ⊢
  simp only [zS, nilEq, wantedA, opA, eff, boxA, cells, ev, gt, pt, putO, updO, setO, okC, loadA, cutC, fieldAddrA, fieldA, indexAddrA, indexA, builtinA, callOpA, callV, target, ptrV, lenS, binA, intOp, strOp, unA, num, lk, over, allocA, pickA, buildA, fillA, convertA, extractA, ofComp, nilCheckA, makeFuncA, ptrs, ofValue, cellB, Nat.reduceAdd, Nat.reduceSub, Nat.reduceMul, Nat.reduceLT, Nat.reduceLeDiff, Nat.reduceGT, ↓reduceIte, Nat.reduceEqDiff, Nat.reduceBEq, reduceCtorEq, Int.reduceBEq, Int.reduceBNe, Int.reduceLT, Int.reduceLE, Int.reduceGT, Int.reduceGE, aggT_36, sizeT_36, bytesT_36, fieldT_36_0, fieldT_36_1, placesT_36, zeroT_36, aggT_34, sizeT_34, bytesT_34, und_34, elemT_34, isSliceT_34, zero1_34, zeroT_34, aggT_110, sizeT_110, bytesT_110, fieldT_110_0, fieldT_110_1, placesT_110, zeroT_110, aggT_3, sizeT_3, bytesT_3, und_3, zero1_3, zeroT_3, hr]
  (refine Eq.trans ?_ rfl; kernel_rfl)
def badBy (bys : List Lev) (y : LV) : Bool := match bys[y.v.toNat]? with | some b => !b.valid | none => false
theorem step84a (x : Lev) (z : Bool) (bys : List Lev) (y : LV) (k : Nat) (hk : x.vs[k]? = some y) (hl : (k : Int) < x.vs.length) (h3 : 0 ≤ y.v) (hv : ∀ b : Lev, run Tryz.prog ext (.call 120 [levV b] []) = some (.ret [bV b.valid] [])) :
    (badBy bys y = true → H84a ext 0 (E84 z bys x k) (O84 x) = some (.ret [levV zLev, iV 4] [])) ∧ (badBy bys y = false → ∀ out, H84a ext 0 (E84 z bys x (wr ((k : Int) + 1))) (O84 x) = out → H84a ext 0 (E84 z bys x k) (O84 x) = out) := by
  have h0 : (0 : Int) ≤ k := by omega
  have hd : listD x.z 2 (x.vs.map lvD) = .s 2 (x.vs.map lvD) := listD_of_lt h0 (by simpa using hl)
  unfold H84a badBy
  by_cases h2 : y.v < bys.length
  · have hd2 : listD z 2 (bys.map levD) = .s 2 (bys.map levD) := listD_of_lt h3 (by simpa using h2)
    have hb : y.v.toNat < bys.length := by omega
    have hgb : bys[y.v.toNat]? = some bys[y.v.toNat] := by simp [hb]
    generalize bys[y.v.toNat] = b at hgb
    have hr := hv b
    rw [hgb]
    dsimp only
    refine ⟨fun hp => ?_, fun hp out h => ?_⟩
    · have hp' : b.valid = false := by simpa using hp
      rw [hp'] at hr
      simp only [levV, dV, iV, bV, E84, O84, levC_z, levC, Lev.d, hd, hd2] at hr ⊢
      (rw [show (It.code L84a) = It.code (sub B84 [1, 1, 0, 1, 0, 0]) from rfl]; simp only [B84, K84a, sub, Option.getD_some, Tryz.f84, ↓reduceIte, Nat.one_ne_zero])
      simp only [zS, nilEq, wantedA, opA, eff, boxA, cells, ev, gt, pt, putO, updO, setO, okC, loadA, cutC, fieldAddrA, fieldA, indexAddrA, indexA, builtinA, callOpA, callV, target, ptrV, lenS, binA, intOp, strOp, unA, num, lk, over, allocA, pickA, buildA, fillA, convertA, extractA, ofComp, nilCheckA, makeFuncA, ptrs, ofValue, cellB, Nat.reduceAdd, Nat.reduceSub, Nat.reduceMul, Nat.reduceLT, Nat.reduceLeDiff, Nat.reduceGT, ↓reduceIte, Nat.reduceEqDiff, Nat.reduceBEq, reduceCtorEq, Int.reduceBEq, Int.reduceBNe, Int.reduceLT, Int.reduceLE, Int.reduceGT, Int.reduceGE, aggT_30, sizeT_30, bytesT_30, und_30, elemT_30, isSliceT_30, zero1_30, zeroT_30, aggT_36, sizeT_36, bytesT_36, fieldT_36_0, fieldT_36_1, placesT_36, zeroT_36, aggT_34, sizeT_34, bytesT_34, und_34, elemT_34, isSliceT_34, zero1_34, zeroT_34, aggT_110, sizeT_110, bytesT_110, fieldT_110_0, fieldT_110_1, placesT_110, zeroT_110, aggT_3, sizeT_3, bytesT_3, und_3, zero1_3, zeroT_3, h0, hl, Int.toNat_natCast, hk, h2, h3, hgb, levD, Lev.d, lvD, hr]
      (refine Eq.trans ?_ rfl; kernel_rfl)
    · have hp' : b.valid = true := by simpa using hp
      rw [hp'] at hr
      simp only [levV, dV, iV, bV, E84, O84, levC_z, levC, Lev.d, hd, hd2] at hr h ⊢
      (rw [show (It.code L84a) = It.code (sub B84 [1, 1, 0, 1, 0, 0]) from rfl]; simp only [B84, K84a, sub, Option.getD_some, Tryz.f84, ↓reduceIte, Nat.one_ne_zero])
      simp only [zS, nilEq, wantedA, opA, eff, boxA, cells, ev, gt, pt, putO, updO, setO, okC, loadA, cutC, fieldAddrA, fieldA, indexAddrA, indexA, builtinA, callOpA, callV, target, ptrV, lenS, binA, intOp, strOp, unA, num, lk, over, allocA, pickA, buildA, fillA, convertA, extractA, ofComp, nilCheckA, makeFuncA, ptrs, ofValue, cellB, Nat.reduceAdd, Nat.reduceSub, Nat.reduceMul, Nat.reduceLT, Nat.reduceLeDiff, Nat.reduceGT, ↓reduceIte, Nat.reduceEqDiff, Nat.reduceBEq, reduceCtorEq, Int.reduceBEq, Int.reduceBNe, Int.reduceLT, Int.reduceLE, Int.reduceGT, Int.reduceGE, aggT_30, sizeT_30, bytesT_30, und_30, elemT_30, isSliceT_30, zero1_30, zeroT_30, aggT_36, sizeT_36, bytesT_36, fieldT_36_0, fieldT_36_1, placesT_36, zeroT_36, aggT_34, sizeT_34, bytesT_34, und_34, elemT_34, isSliceT_34, zero1_34, zeroT_34, aggT_110, sizeT_110, bytesT_110, fieldT_110_0, fieldT_110_1, placesT_110, zeroT_110, aggT_3, sizeT_3, bytesT_3, und_3, zero1_3, zeroT_3, h0, hl, Int.toNat_natCast, hk, h2, h3, hgb, levD, Lev.d, lvD, hr]
      (refine (r_inLoop_some ?_).trans h; kernel_rfl)
  · have hgb : bys[y.v.toNat]? = none := List.getElem?_eq_none (by omega)
    rw [hgb]
    dsimp only
    refine ⟨fun hp => (by cases hp), fun _ out h => ?_⟩
    simp only [levV, dV, iV, bV, E84, O84, levC_z, levC, Lev.d, hd] at h ⊢
    (rw [show (It.code L84a) = It.code (sub B84 [1, 1, 0, 1, 0, 0]) from rfl]; simp only [B84, K84a, sub, Option.getD_some, Tryz.f84, ↓reduceIte, Nat.one_ne_zero])
    simp only [zS, nilEq, wantedA, opA, eff, boxA, cells, ev, gt, pt, putO, updO, setO, okC, loadA, cutC, fieldAddrA, fieldA, indexAddrA, indexA, builtinA, callOpA, callV, target, ptrV, lenS, binA, intOp, strOp, unA, num, lk, over, allocA, pickA, buildA, fillA, convertA, extractA, ofComp, nilCheckA, makeFuncA, ptrs, ofValue, cellB, Nat.reduceAdd, Nat.reduceSub, Nat.reduceMul, Nat.reduceLT, Nat.reduceLeDiff, Nat.reduceGT, ↓reduceIte, Nat.reduceEqDiff, Nat.reduceBEq, reduceCtorEq, Int.reduceBEq, Int.reduceBNe, Int.reduceLT, Int.reduceLE, Int.reduceGT, Int.reduceGE, aggT_30, sizeT_30, bytesT_30, und_30, elemT_30, isSliceT_30, zero1_30, zeroT_30, aggT_36, sizeT_36, bytesT_36, fieldT_36_0, fieldT_36_1, placesT_36, zeroT_36, aggT_34, sizeT_34, bytesT_34, und_34, elemT_34, isSliceT_34, zero1_34, zeroT_34, aggT_110, sizeT_110, bytesT_110, fieldT_110_0, fieldT_110_1, placesT_110, zeroT_110, aggT_3, sizeT_3, bytesT_3, und_3, zero1_3, zeroT_3, h0, hl, Int.toNat_natCast, hk, h2, lvD]
    (refine (r_inLoop_some ?_).trans h; kernel_rfl)
theorem scal_s (k : Nat) (l : List (List D)) : scalarV (.c (.d (.s k l))) = false := id rfl
theorem callOut_bown (i slot k : Nat) (els : List (List D)) : callOut [] [i] slot (some (.ret [.c (.own 0)] [.arr k els])) = some ⟨.val (.c (.own slot)), [(slot, .arr k els), (i, .gone)], [i]⟩ := rfl
def E84b (z : Bool) (bys : List Lev) (c : Int) (zp : Bool) (p : List LV) (n k : Int) : Env := [(1, dV (listD z 2 (bys.map levD))), (4, .c (.ptr 0 0)), (8, iV c), (9, dV (listD zp 2 (p.map lvD))), (46, .c (.own 1)), (47, iV n), (48, iV k)]
def O84b (srt : List LV) : List O := [.box (levC zLev), .arr 2 (srt.map lvD)]
theorem sortL_len (l : List LV) : (sortL l).length = l.length := by
  cases l with
  | nil => rfl
  | cons a r => unfold sortL; rw [isort_len]; simp; omega
theorem in84b (hs : Sorts ext) (x : Lev) (a : LV) (r : List LV) (hx : x.vs = a :: r) (hl : x.vs.length ≤ 8) (z : Bool) (bys : List Lev) (out : Option Out) (h : H84b ext 0 (E84b z bys x.c true [] x.vs.length 0) (O84b (sortL x.vs)) = out) : H84a ext 0 (E84 z bys x x.vs.length) (O84 x) = out := by
  have hr := hs x.z x.vs hl
  rw [hx] at hr
  have hq : (sortL (a :: r)).length = r.length + 1 := by rw [sortL_len]; rfl
  unfold H84b at h
  unfold H84a
  simp only [levV, dV, iV, bV, E84, O84, E84b, O84b, levC_z, levC, Lev.d, sortOut, hx, List.map_cons, List.map_nil, listD_true] at h hr ⊢
  (rw [show (It.code L84a) = It.code (sub B84 [1, 1, 0, 1, 0, 0]) from rfl]; simp only [B84, K84a, sub, Option.getD_some, Tryz.f84, ↓reduceIte, Nat.one_ne_zero])
  simp only [zS, nilEq, wantedA, opA, eff, boxA, cells, ev, gt, pt, putO, updO, setO, okC, loadA, cutC, fieldAddrA, fieldA, indexAddrA, indexA, builtinA, callOpA, callV, target, ptrV, lenS, binA, intOp, strOp, unA, num, lk, over, allocA, pickA, buildA, fillA, convertA, extractA, ofComp, nilCheckA, makeFuncA, ptrs, ofValue, cellB, Nat.reduceAdd, Nat.reduceSub, Nat.reduceMul, Nat.reduceLT, Nat.reduceLeDiff, Nat.reduceGT, ↓reduceIte, Nat.reduceEqDiff, Nat.reduceBEq, reduceCtorEq, Int.reduceBEq, Int.reduceBNe, Int.reduceLT, Int.reduceLE, Int.reduceGT, Int.reduceGE, aggT_30, sizeT_30, bytesT_30, und_30, elemT_30, isSliceT_30, zero1_30, zeroT_30, aggT_36, sizeT_36, bytesT_36, fieldT_36_0, fieldT_36_1, placesT_36, zeroT_36, aggT_34, sizeT_34, bytesT_34, und_34, elemT_34, isSliceT_34, zero1_34, zeroT_34, aggT_144, sizeT_144, bytesT_144, und_144, elemT_144, isSliceT_144, zero1_144, zeroT_144, aggT_110, sizeT_110, bytesT_110, fieldT_110_0, fieldT_110_1, placesT_110, zeroT_110, aggT_3, sizeT_3, bytesT_3, und_3, zero1_3, zeroT_3, Int.lt_irrefl, hr, callOut_own, hq]
  (refine (r_inLoop_some ?_).trans h; kernel_rfl)
theorem none84 (hs : Sorts ext) (x : Lev) (hx : x.vs = []) (z : Bool) (bys : List Lev) (q : Lev) (e : Int) (hq : run Tryz.prog ext (.call 125 [iV x.c, dV (listD true 2 [])] []) = some (.ret [levV q, iV e] [])) : H84a ext 0 (E84 z bys x 0) (O84 x) = some (.ret [levV q, iV e] []) := by
  have hr := hs x.z x.vs (by rw [hx]; simp)
  rw [hx] at hr
  have hz : ¬ ((0 : Int) < 0) := by decide
  unfold H84a
  simp only [levV, dV, iV, bV, E84, O84, levC_z, levC, Lev.d, sortOut, hx, List.map_nil, List.length_nil, Int.natCast_zero, listD_true] at hr hq ⊢
  (rw [show (It.code L84a) = It.code (sub B84 [1, 1, 0, 1, 0, 0]) from rfl]; simp only [B84, K84a, sub, Option.getD_some, Tryz.f84, ↓reduceIte, Nat.one_ne_zero])
  simp only [zS, nilEq, wantedA, opA, eff, boxA, cells, ev, gt, pt, putO, updO, setO, okC, loadA, cutC, fieldAddrA, fieldA, indexAddrA, indexA, builtinA, callOpA, callV, target, ptrV, lenS, binA, intOp, strOp, unA, num, lk, over, allocA, pickA, buildA, fillA, convertA, extractA, ofComp, nilCheckA, makeFuncA, ptrs, ofValue, cellB, Nat.reduceAdd, Nat.reduceSub, Nat.reduceMul, Nat.reduceLT, Nat.reduceLeDiff, Nat.reduceGT, ↓reduceIte, Nat.reduceEqDiff, Nat.reduceBEq, reduceCtorEq, Int.reduceBEq, Int.reduceBNe, Int.reduceLT, Int.reduceLE, Int.reduceGT, Int.reduceGE, aggT_30, sizeT_30, bytesT_30, und_30, elemT_30, isSliceT_30, zero1_30, zeroT_30, aggT_36, sizeT_36, bytesT_36, fieldT_36_0, fieldT_36_1, placesT_36, zeroT_36, aggT_34, sizeT_34, bytesT_34, und_34, elemT_34, isSliceT_34, zero1_34, zeroT_34, aggT_144, sizeT_144, bytesT_144, und_144, elemT_144, isSliceT_144, zero1_144, zeroT_144, aggT_110, sizeT_110, bytesT_110, fieldT_110_0, fieldT_110_1, placesT_110, zeroT_110, aggT_3, sizeT_3, bytesT_3, und_3, zero1_3, zeroT_3, hz, hr, Int.natCast_zero]
  refine (r_inLoop_some (e := [(1, V.c (.d (listD z 2 (bys.map levD)))), (4, .c (.ptr 0 0)), (8, .c (.d (.v (.int .i64 x.c)))), (9, .c (.d (.v (.slice none 0 0)))), (46, .c (.d (.s 2 []))), (47, .c (.d (.v (.int .i64 0)))), (48, .c (.d (.v (.int .i64 0))))]) (lo := [.box (levC zLev)]) (by kernel_rfl)).trans ?_
  simp only [zS, nilEq, wantedA, opA, eff, boxA, cells, ev, gt, pt, putO, updO, setO, okC, loadA, cutC, fieldAddrA, fieldA, indexAddrA, indexA, builtinA, callOpA, callV, target, ptrV, lenS, binA, intOp, strOp, unA, num, lk, over, allocA, pickA, buildA, fillA, convertA, extractA, ofComp, nilCheckA, makeFuncA, ptrs, ofValue, cellB, Nat.reduceAdd, Nat.reduceSub, Nat.reduceMul, Nat.reduceLT, Nat.reduceLeDiff, Nat.reduceGT, ↓reduceIte, Nat.reduceEqDiff, Nat.reduceBEq, reduceCtorEq, Int.reduceBEq, Int.reduceBNe, Int.reduceLT, Int.reduceLE, Int.reduceGT, Int.reduceGE, aggT_30, sizeT_30, bytesT_30, und_30, elemT_30, isSliceT_30, zero1_30, zeroT_30, aggT_36, sizeT_36, bytesT_36, fieldT_36_0, fieldT_36_1, placesT_36, zeroT_36, aggT_34, sizeT_34, bytesT_34, und_34, elemT_34, isSliceT_34, zero1_34, zeroT_34, aggT_144, sizeT_144, bytesT_144, und_144, elemT_144, isSliceT_144, zero1_144, zeroT_144, aggT_110, sizeT_110, bytesT_110, fieldT_110_0, fieldT_110_1, placesT_110, zeroT_110, aggT_3, sizeT_3, bytesT_3, und_3, zero1_3, zeroT_3, hz, levC_z, hq, callOut_cs]
  (refine Eq.trans ?_ rfl; kernel_rfl)
def E84c (z : Bool) (bys : List Lev) (c : Int) (zp : Bool) (p : List LV) (n k m i : Int) : Env := [(1, dV (listD z 2 (bys.map levD))), (4, .c (.ptr 0 0)), (8, iV c), (9, dV (listD zp 2 (p.map lvD))), (11, .c (.ptr 1 0)), (12, .c (.ptr 2 0)), (13, .c (.own 3)), (46, .c (.own 4)), (47, iV n), (48, iV k), (71, iV m), (72, iV i)]
def O84c (y : LV) (bc : Int) (X : C) (q srt : List LV) : List O := [.box (levC zLev), .box (lvC y), .box [.d (.v (.int .i64 bc)), X], .arr 2 (q.map lvD), .arr 2 (srt.map lvD)]
def E84d (z : Bool) (bys : List Lev) (c : Int) (zp : Bool) (p : List LV) (n k : Int) : Env := [(1, dV (listD z 2 (bys.map levD))), (4, .c (.ptr 0 0)), (8, iV c), (9, dV (listD zp 2 (p.map lvD))), (11, .c (.ptr 1 0)), (12, .c (.ptr 2 0)), (13, dV (.s 2 [])), (46, .c (.own 3)), (47, iV n), (48, iV k), (71, iV 0), (72, iV 0)]
def O84d (y : LV) (bc : Int) (X : C) (srt : List LV) : List O := [.box (levC zLev), .box (lvC y), .box [.d (.v (.int .i64 bc)), X], .arr 2 (srt.map lvD)]
theorem a1_84 (hs : Sorts ext) (y : LV) (b : Lev) (srt : List LV) (hl : b.vs.length ≤ 8) (a : LV) (r : List LV) (hbv : b.vs = a :: r) (z zp : Bool) (bys : List Lev) (c : Int) (p : List LV) (k : Nat) (hk : srt[k]? = some y) (hql : (k : Int) < srt.length) (h2 : y.v < bys.length) (h3 : 0 ≤ y.v) (hgb : bys[y.v.toNat]? = some b) (out : Option Out)
   (h : H84c ext 0 (E84c z bys c zp p srt.length k (sortL b.vs).length 0) (O84c y b.c (.d b.d) (sortL b.vs) srt) = out) : H84b ext 0 (E84b z bys c zp p srt.length k) (O84b srt) = out := by
  have h0 : (0 : Int) ≤ k := by omega
  have hd2 : listD z 2 (bys.map levD) = .s 2 (bys.map levD) := listD_of_lt h3 (by simpa using h2)
  have hr := hs b.z b.vs hl
  rw [hbv] at hr
  unfold H84c at h
  unfold H84b
  simp only [levV, dV, iV, bV, levC_z, levC, lvC, Lev.d, hd2, E84b, O84b, E84c, O84c, sortOut, hbv, List.map_cons] at h hr ⊢
  (rw [show (It.code L84b) = It.code (sub B84 [1, 1, 1, 1, 0, 1, 0, 0]) from rfl]; simp only [B84, K84b, sub, Option.getD_some, Tryz.f84, ↓reduceIte, Nat.one_ne_zero])
  simp only [zS, nilEq, wantedA, opA, eff, boxA, cells, ev, gt, pt, putO, updO, setO, okC, loadA, cutC, fieldAddrA, fieldA, indexAddrA, indexA, builtinA, callOpA, callV, target, ptrV, lenS, binA, intOp, strOp, unA, num, lk, over, allocA, pickA, buildA, fillA, convertA, extractA, ofComp, nilCheckA, makeFuncA, ptrs, ofValue, cellB, Nat.reduceAdd, Nat.reduceSub, Nat.reduceMul, Nat.reduceLT, Nat.reduceLeDiff, Nat.reduceGT, ↓reduceIte, Nat.reduceEqDiff, Nat.reduceBEq, reduceCtorEq, Int.reduceBEq, Int.reduceBNe, Int.reduceLT, Int.reduceLE, Int.reduceGT, Int.reduceGE, aggT_30, sizeT_30, bytesT_30, und_30, elemT_30, isSliceT_30, zero1_30, zeroT_30, aggT_36, sizeT_36, bytesT_36, fieldT_36_0, fieldT_36_1, placesT_36, zeroT_36, aggT_34, sizeT_34, bytesT_34, und_34, elemT_34, isSliceT_34, zero1_34, zeroT_34, aggT_144, sizeT_144, bytesT_144, und_144, elemT_144, isSliceT_144, zero1_144, zeroT_144, aggT_110, sizeT_110, bytesT_110, fieldT_110_0, fieldT_110_1, placesT_110, zeroT_110, aggT_3, sizeT_3, bytesT_3, und_3, zero1_3, zeroT_3, h0, hql, Int.toNat_natCast, hk, h2, h3, hgb, bsLV, toD, toDs, levD, Lev.d, lvD_eq y, hbv, List.map_cons, hr, callOut_own]
  (refine (r_inLoop_some ?_).trans h; kernel_rfl)
theorem a2_84 (hs : Sorts ext) (y : LV) (b : Lev) (srt : List LV) (hbv : b.vs = []) (z zp : Bool) (bys : List Lev) (c : Int) (p : List LV) (k : Nat) (hk : srt[k]? = some y) (hql : (k : Int) < srt.length) (h2 : y.v < bys.length) (h3 : 0 ≤ y.v) (hgb : bys[y.v.toNat]? = some b) (out : Option Out)
   (h : H84c ext 0 (E84d z bys c zp p srt.length k) (O84d y b.c (.d b.d) srt) = out) : H84b ext 0 (E84b z bys c zp p srt.length k) (O84b srt) = out := by
  have h0 : (0 : Int) ≤ k := by omega
  have hd2 : listD z 2 (bys.map levD) = .s 2 (bys.map levD) := listD_of_lt h3 (by simpa using h2)
  have hr := hs b.z b.vs (by rw [hbv]; simp)
  rw [hbv] at hr
  unfold H84c at h
  unfold H84b
  simp only [levV, dV, iV, bV, levC_z, levC, lvC, Lev.d, hd2, E84b, O84b, E84d, O84d, sortOut, hbv, List.map_nil] at h hr ⊢
  (rw [show (It.code L84b) = It.code (sub B84 [1, 1, 1, 1, 0, 1, 0, 0]) from rfl]; simp only [B84, K84b, sub, Option.getD_some, Tryz.f84, ↓reduceIte, Nat.one_ne_zero])
  simp only [zS, nilEq, wantedA, opA, eff, boxA, cells, ev, gt, pt, putO, updO, setO, okC, loadA, cutC, fieldAddrA, fieldA, indexAddrA, indexA, builtinA, callOpA, callV, target, ptrV, lenS, binA, intOp, strOp, unA, num, lk, over, allocA, pickA, buildA, fillA, convertA, extractA, ofComp, nilCheckA, makeFuncA, ptrs, ofValue, cellB, Nat.reduceAdd, Nat.reduceSub, Nat.reduceMul, Nat.reduceLT, Nat.reduceLeDiff, Nat.reduceGT, ↓reduceIte, Nat.reduceEqDiff, Nat.reduceBEq, reduceCtorEq, Int.reduceBEq, Int.reduceBNe, Int.reduceLT, Int.reduceLE, Int.reduceGT, Int.reduceGE, aggT_30, sizeT_30, bytesT_30, und_30, elemT_30, isSliceT_30, zero1_30, zeroT_30, aggT_36, sizeT_36, bytesT_36, fieldT_36_0, fieldT_36_1, placesT_36, zeroT_36, aggT_34, sizeT_34, bytesT_34, und_34, elemT_34, isSliceT_34, zero1_34, zeroT_34, aggT_144, sizeT_144, bytesT_144, und_144, elemT_144, isSliceT_144, zero1_144, zeroT_144, aggT_110, sizeT_110, bytesT_110, fieldT_110_0, fieldT_110_1, placesT_110, zeroT_110, aggT_3, sizeT_3, bytesT_3, und_3, zero1_3, zeroT_3, h0, hql, Int.toNat_natCast, hk, h2, h3, hgb, bsLV, toD, toDs, levD, Lev.d, lvD_eq y, hbv, hr, Int.natCast_zero]
  (refine (r_inLoop_some ?_).trans h; kernel_rfl)
theorem a3_84 (hs : Sorts ext) (y : LV) (srt : List LV) (z zp : Bool) (bys : List Lev) (c : Int) (p : List LV) (k : Nat) (hk : srt[k]? = some y) (hql : (k : Int) < srt.length) (h2 : ¬ y.v < bys.length) (out : Option Out)
   (h : H84c ext 0 (E84c z bys c zp p srt.length k 1 0) (O84c y 0 .any [⟨y.v, 0⟩] srt) = out) : H84b ext 0 (E84b z bys c zp p srt.length k) (O84b srt) = out := by
  have h0 : (0 : Int) ≤ k := by omega
  have hr := hs false [⟨y.v, 0⟩] (by simp)
  rw [listD_false] at hr
  have hq1 : sortL [(⟨y.v, 0⟩ : LV)] = [⟨y.v, 0⟩] := rfl
  rw [sortOut, hq1] at hr
  unfold H84c at h
  unfold H84b
  simp only [levV, dV, iV, bV, levC_z, levC, lvC, E84b, O84b, E84c, O84c, List.map_cons, List.map_nil, lvD_eq ⟨_, _⟩] at h hr ⊢
  (rw [show (It.code L84b) = It.code (sub B84 [1, 1, 1, 1, 0, 1, 0, 0]) from rfl]; simp only [B84, K84b, sub, Option.getD_some, Tryz.f84, ↓reduceIte, Nat.one_ne_zero])
  simp only [zS, nilEq, wantedA, opA, eff, boxA, cells, ev, gt, pt, putO, updO, setO, okC, loadA, cutC, fieldAddrA, fieldA, indexAddrA, indexA, builtinA, callOpA, callV, target, ptrV, lenS, binA, intOp, strOp, unA, num, lk, over, allocA, pickA, buildA, fillA, convertA, extractA, ofComp, nilCheckA, makeFuncA, ptrs, ofValue, cellB, Nat.reduceAdd, Nat.reduceSub, Nat.reduceMul, Nat.reduceLT, Nat.reduceLeDiff, Nat.reduceGT, ↓reduceIte, Nat.reduceEqDiff, Nat.reduceBEq, reduceCtorEq, Int.reduceBEq, Int.reduceBNe, Int.reduceLT, Int.reduceLE, Int.reduceGT, Int.reduceGE, aggT_30, sizeT_30, bytesT_30, und_30, elemT_30, isSliceT_30, zero1_30, zeroT_30, aggT_36, sizeT_36, bytesT_36, fieldT_36_0, fieldT_36_1, placesT_36, zeroT_36, aggT_34, sizeT_34, bytesT_34, und_34, elemT_34, isSliceT_34, zero1_34, zeroT_34, aggT_144, sizeT_144, bytesT_144, und_144, elemT_144, isSliceT_144, zero1_144, zeroT_144, aggT_110, sizeT_110, bytesT_110, fieldT_110_0, fieldT_110_1, placesT_110, zeroT_110, aggT_3, sizeT_3, bytesT_3, und_3, zero1_3, zeroT_3, h0, hql, Int.toNat_natCast, hk, h2, bsLV, lvD_eq y, callA_o0, coK_arr, (id rfl : ownF 121 = false), hr, callOut_bown, Int.natCast_one]
  (refine (r_inLoop_some ?_).trans h; kernel_rfl)
theorem stepC84 (z zp : Bool) (bys : List Lev) (c : Int) (p : List LV) (n k m : Int) (i : Nat) (y w : LV) (bc : Int) (X : C) (q srt : List LV) (hX : X = .any ∨ ∃ x, X = .d x) (hi : q[i]? = some w) (him : (i : Int) < m) (out : Option Out)
    (h : H84c ext 0 (E84c z bys c zp p n k m (wr ((i : Int) + 1))) (O84c y bc X (q.set i (moreLV y.p w)) srt) = out) : H84c ext 0 (E84c z bys c zp p n k m i) (O84c y bc X q srt) = out := by
  have hlt := lt_of_get hi
  have h0 : (0 : Int) ≤ i := by omega
  have hq : (i : Int) < q.length := by omega
  have hi' : (q.map lvD)[i]? = some [.v (.int .i64 w.v), .v (.int .i64 w.p)] := by rw [List.getElem?_map, hi]; rfl
  have hs : (q.set i (moreLV y.p w)).map lvD = (q.map lvD).set i [.v (.int .i64 w.v), .v (.int .i64 (wr (w.p + y.p)))] := by rw [List.map_set]; rfl
  unfold H84c at h ⊢
  rcases hX with rfl | ⟨X, rfl⟩
  · simp only [levV, dV, iV, bV, levC_z, levC, lvC, E84c, O84c, hs] at h ⊢
    (rw [show (It.code L84c) = It.code (sub B84 [1, 1, 1, 1, 0, 1, 0, 0, 1, 1, 0, 0, 1, 1, 1, 1, 0, 1, 0, 0]) from rfl]; simp only [B84, K84c, sub, Option.getD_some, Tryz.f84, ↓reduceIte, Nat.one_ne_zero])
    simp only [zS, nilEq, wantedA, opA, eff, boxA, cells, ev, gt, pt, putO, updO, setO, okC, loadA, cutC, fieldAddrA, fieldA, indexAddrA, indexA, builtinA, callOpA, callV, target, ptrV, lenS, binA, intOp, strOp, unA, num, lk, over, allocA, pickA, buildA, fillA, convertA, extractA, ofComp, nilCheckA, makeFuncA, ptrs, ofValue, cellB, Nat.reduceAdd, Nat.reduceSub, Nat.reduceMul, Nat.reduceLT, Nat.reduceLeDiff, Nat.reduceGT, ↓reduceIte, Nat.reduceEqDiff, Nat.reduceBEq, reduceCtorEq, Int.reduceBEq, Int.reduceBNe, Int.reduceLT, Int.reduceLE, Int.reduceGT, Int.reduceGE, aggT_36, sizeT_36, bytesT_36, fieldT_36_0, fieldT_36_1, placesT_36, zeroT_36, aggT_34, sizeT_34, bytesT_34, und_34, elemT_34, isSliceT_34, zero1_34, zeroT_34, aggT_144, sizeT_144, bytesT_144, und_144, elemT_144, isSliceT_144, zero1_144, zeroT_144, aggT_110, sizeT_110, bytesT_110, fieldT_110_0, fieldT_110_1, placesT_110, zeroT_110, aggT_3, sizeT_3, bytesT_3, und_3, zero1_3, zeroT_3, drawA, holes_succ, holes_zero, Array.size, List.length, h0, hq, him, Int.toNat_natCast, hi, lvD_eq w, stK, toDs, toD, kills, List.contains_nil]
    rw [afterDraw_some _ _ _ _ (by kernel_rfl)]
    simp only [zS, nilEq, wantedA, opA, eff, boxA, cells, ev, gt, pt, putO, updO, setO, okC, loadA, cutC, fieldAddrA, fieldA, indexAddrA, indexA, builtinA, callOpA, callV, target, ptrV, lenS, binA, intOp, strOp, unA, num, lk, over, allocA, pickA, buildA, fillA, convertA, extractA, ofComp, nilCheckA, makeFuncA, ptrs, ofValue, cellB, Nat.reduceAdd, Nat.reduceSub, Nat.reduceMul, Nat.reduceLT, Nat.reduceLeDiff, Nat.reduceGT, ↓reduceIte, Nat.reduceEqDiff, Nat.reduceBEq, reduceCtorEq, Int.reduceBEq, Int.reduceBNe, Int.reduceLT, Int.reduceLE, Int.reduceGT, Int.reduceGE]
    (refine (r_inLoop_some ?_).trans h; kernel_rfl)
  · simp only [levV, dV, iV, bV, levC_z, levC, lvC, E84c, O84c, hs] at h ⊢
    (rw [show (It.code L84c) = It.code (sub B84 [1, 1, 1, 1, 0, 1, 0, 0, 1, 1, 0, 0, 1, 1, 1, 1, 0, 1, 0, 0]) from rfl]; simp only [B84, K84c, sub, Option.getD_some, Tryz.f84, ↓reduceIte, Nat.one_ne_zero])
    simp only [zS, nilEq, wantedA, opA, eff, boxA, cells, ev, gt, pt, putO, updO, setO, okC, loadA, cutC, fieldAddrA, fieldA, indexAddrA, indexA, builtinA, callOpA, callV, target, ptrV, lenS, binA, intOp, strOp, unA, num, lk, over, allocA, pickA, buildA, fillA, convertA, extractA, ofComp, nilCheckA, makeFuncA, ptrs, ofValue, cellB, Nat.reduceAdd, Nat.reduceSub, Nat.reduceMul, Nat.reduceLT, Nat.reduceLeDiff, Nat.reduceGT, ↓reduceIte, Nat.reduceEqDiff, Nat.reduceBEq, reduceCtorEq, Int.reduceBEq, Int.reduceBNe, Int.reduceLT, Int.reduceLE, Int.reduceGT, Int.reduceGE, aggT_36, sizeT_36, bytesT_36, fieldT_36_0, fieldT_36_1, placesT_36, zeroT_36, aggT_34, sizeT_34, bytesT_34, und_34, elemT_34, isSliceT_34, zero1_34, zeroT_34, aggT_144, sizeT_144, bytesT_144, und_144, elemT_144, isSliceT_144, zero1_144, zeroT_144, aggT_110, sizeT_110, bytesT_110, fieldT_110_0, fieldT_110_1, placesT_110, zeroT_110, aggT_3, sizeT_3, bytesT_3, und_3, zero1_3, zeroT_3, drawA, holes_succ, holes_zero, Array.size, List.length, h0, hq, him, Int.toNat_natCast, hi, lvD_eq w, stK, toDs, toD, kills, List.contains_nil]
    rw [afterDraw_some _ _ _ _ (by kernel_rfl)]
    simp only [zS, nilEq, wantedA, opA, eff, boxA, cells, ev, gt, pt, putO, updO, setO, okC, loadA, cutC, fieldAddrA, fieldA, indexAddrA, indexA, builtinA, callOpA, callV, target, ptrV, lenS, binA, intOp, strOp, unA, num, lk, over, allocA, pickA, buildA, fillA, convertA, extractA, ofComp, nilCheckA, makeFuncA, ptrs, ofValue, cellB, Nat.reduceAdd, Nat.reduceSub, Nat.reduceMul, Nat.reduceLT, Nat.reduceLeDiff, Nat.reduceGT, ↓reduceIte, Nat.reduceEqDiff, Nat.reduceBEq, reduceCtorEq, Int.reduceBEq, Int.reduceBNe, Int.reduceLT, Int.reduceLE, Int.reduceGT, Int.reduceGE]
    (refine (r_inLoop_some ?_).trans h; kernel_rfl)
theorem doneC84 (hx : ext 122 = none) (h123 : ext 123 = none) (h124 : ext 124 = none) (h194 : ext 194 = none) (h238 : ext 238 = none) (z zp : Bool) (bys : List Lev) (c : Int) (p : List LV) (n k m : Int) (y : LV) (bc : Int) (X : C) (q srt : List LV) (hX : X = .any ∨ ∃ x, X = .d x) (hl : p.length + q.length ≤ 400000) (out : Option Out)
    (h : H84b ext 0 (E84b z bys (mx c (wr (bc + y.p))) false (joinL p q) n (wr (k + 1))) (O84b srt) = out) : H84c ext 0 (E84c z bys c zp p n k m m) (O84c y bc X q srt) = out := by
  have hj := joined122 ext hx h123 h124 h194 h238 zp false p q hl
  rw [listD_false] at hj
  unfold H84b at h
  unfold H84c
  rcases hX with rfl | ⟨X, rfl⟩
  · simp only [levV, dV, iV, bV, levC_z, levC, lvC, E84c, O84c, E84b, O84b, mx, listD_false] at h hj ⊢
    (rw [show (It.code L84c) = It.code (sub B84 [1, 1, 1, 1, 0, 1, 0, 0, 1, 1, 0, 0, 1, 1, 1, 1, 0, 1, 0, 0]) from rfl]; simp only [B84, K84c, sub, Option.getD_some, Tryz.f84, ↓reduceIte, Nat.one_ne_zero])
    simp only [zS, nilEq, wantedA, opA, eff, boxA, cells, ev, gt, pt, putO, updO, setO, okC, loadA, cutC, fieldAddrA, fieldA, indexAddrA, indexA, builtinA, callOpA, callV, target, ptrV, lenS, binA, intOp, strOp, unA, num, lk, over, allocA, pickA, buildA, fillA, convertA, extractA, ofComp, nilCheckA, makeFuncA, ptrs, ofValue, cellB, Nat.reduceAdd, Nat.reduceSub, Nat.reduceMul, Nat.reduceLT, Nat.reduceLeDiff, Nat.reduceGT, ↓reduceIte, Nat.reduceEqDiff, Nat.reduceBEq, reduceCtorEq, Int.reduceBEq, Int.reduceBNe, Int.reduceLT, Int.reduceLE, Int.reduceGT, Int.reduceGE, aggT_36, sizeT_36, bytesT_36, fieldT_36_0, fieldT_36_1, placesT_36, zeroT_36, aggT_34, sizeT_34, bytesT_34, und_34, elemT_34, isSliceT_34, zero1_34, zeroT_34, aggT_144, sizeT_144, bytesT_144, und_144, elemT_144, isSliceT_144, zero1_144, zeroT_144, aggT_110, sizeT_110, bytesT_110, fieldT_110_0, fieldT_110_1, placesT_110, zeroT_110, aggT_3, sizeT_3, bytesT_3, und_3, zero1_3, zeroT_3, drawA, holes_succ, holes_zero, Array.size, List.length, maxA, Int.lt_irrefl, callA_o1p, coK_arr, (id rfl : ownF 122 = false), hj, callOut_bor, scal_s, Bool.false_eq_true, if_false, kills]
    rw [afterDraw_some _ _ _ _ (by kernel_rfl)]
    simp only [zS, nilEq, wantedA, opA, eff, boxA, cells, ev, gt, pt, putO, updO, setO, okC, loadA, cutC, fieldAddrA, fieldA, indexAddrA, indexA, builtinA, callOpA, callV, target, ptrV, lenS, binA, intOp, strOp, unA, num, lk, over, allocA, pickA, buildA, fillA, convertA, extractA, ofComp, nilCheckA, makeFuncA, ptrs, ofValue, cellB, Nat.reduceAdd, Nat.reduceSub, Nat.reduceMul, Nat.reduceLT, Nat.reduceLeDiff, Nat.reduceGT, ↓reduceIte, Nat.reduceEqDiff, Nat.reduceBEq, reduceCtorEq, Int.reduceBEq, Int.reduceBNe, Int.reduceLT, Int.reduceLE, Int.reduceGT, Int.reduceGE, aggT_3, sizeT_3, bytesT_3, und_3, zero1_3, zeroT_3]
    (refine (r_inLoop_some ?_).trans h; kernel_rfl)
  · simp only [levV, dV, iV, bV, levC_z, levC, lvC, E84c, O84c, E84b, O84b, mx, listD_false] at h hj ⊢
    (rw [show (It.code L84c) = It.code (sub B84 [1, 1, 1, 1, 0, 1, 0, 0, 1, 1, 0, 0, 1, 1, 1, 1, 0, 1, 0, 0]) from rfl]; simp only [B84, K84c, sub, Option.getD_some, Tryz.f84, ↓reduceIte, Nat.one_ne_zero])
    simp only [zS, nilEq, wantedA, opA, eff, boxA, cells, ev, gt, pt, putO, updO, setO, okC, loadA, cutC, fieldAddrA, fieldA, indexAddrA, indexA, builtinA, callOpA, callV, target, ptrV, lenS, binA, intOp, strOp, unA, num, lk, over, allocA, pickA, buildA, fillA, convertA, extractA, ofComp, nilCheckA, makeFuncA, ptrs, ofValue, cellB, Nat.reduceAdd, Nat.reduceSub, Nat.reduceMul, Nat.reduceLT, Nat.reduceLeDiff, Nat.reduceGT, ↓reduceIte, Nat.reduceEqDiff, Nat.reduceBEq, reduceCtorEq, Int.reduceBEq, Int.reduceBNe, Int.reduceLT, Int.reduceLE, Int.reduceGT, Int.reduceGE, aggT_36, sizeT_36, bytesT_36, fieldT_36_0, fieldT_36_1, placesT_36, zeroT_36, aggT_34, sizeT_34, bytesT_34, und_34, elemT_34, isSliceT_34, zero1_34, zeroT_34, aggT_144, sizeT_144, bytesT_144, und_144, elemT_144, isSliceT_144, zero1_144, zeroT_144, aggT_110, sizeT_110, bytesT_110, fieldT_110_0, fieldT_110_1, placesT_110, zeroT_110, aggT_3, sizeT_3, bytesT_3, und_3, zero1_3, zeroT_3, drawA, holes_succ, holes_zero, Array.size, List.length, maxA, Int.lt_irrefl, callA_o1p, coK_arr, (id rfl : ownF 122 = false), hj, callOut_bor, scal_s, Bool.false_eq_true, if_false, kills]
    rw [afterDraw_some _ _ _ _ (by kernel_rfl)]
    simp only [zS, nilEq, wantedA, opA, eff, boxA, cells, ev, gt, pt, putO, updO, setO, okC, loadA, cutC, fieldAddrA, fieldA, indexAddrA, indexA, builtinA, callOpA, callV, target, ptrV, lenS, binA, intOp, strOp, unA, num, lk, over, allocA, pickA, buildA, fillA, convertA, extractA, ofComp, nilCheckA, makeFuncA, ptrs, ofValue, cellB, Nat.reduceAdd, Nat.reduceSub, Nat.reduceMul, Nat.reduceLT, Nat.reduceLeDiff, Nat.reduceGT, ↓reduceIte, Nat.reduceEqDiff, Nat.reduceBEq, reduceCtorEq, Int.reduceBEq, Int.reduceBNe, Int.reduceLT, Int.reduceLE, Int.reduceGT, Int.reduceGE, aggT_3, sizeT_3, bytesT_3, und_3, zero1_3, zeroT_3]
    (refine (r_inLoop_some ?_).trans h; kernel_rfl)
theorem doneD84 (hx : ext 122 = none) (h123 : ext 123 = none) (h124 : ext 124 = none) (h194 : ext 194 = none) (h238 : ext 238 = none) (z zp : Bool) (bys : List Lev) (c : Int) (p : List LV) (n k : Int) (y : LV) (bc : Int) (x : D) (srt : List LV) (hl : p.length ≤ 400000) (out : Option Out)
    (h : H84b ext 0 (E84b z bys (mx c (wr (bc + y.p))) false (joinL p []) n (wr (k + 1))) (O84b srt) = out) : H84c ext 0 (E84d z bys c zp p n k) (O84d y bc (.d x) srt) = out := by
  have hj := joined122 ext hx h123 h124 h194 h238 zp false p [] (by simpa using hl)
  rw [listD_false] at hj
  have hz : ¬ ((0 : Int) < 0) := by decide
  unfold H84b at h
  unfold H84c
  simp only [levV, dV, iV, bV, levC_z, levC, lvC, E84d, O84d, E84b, O84b, mx, listD_false, List.map_nil] at h hj ⊢
  (rw [show (It.code L84c) = It.code (sub B84 [1, 1, 1, 1, 0, 1, 0, 0, 1, 1, 0, 0, 1, 1, 1, 1, 0, 1, 0, 0]) from rfl]; simp only [B84, K84c, sub, Option.getD_some, Tryz.f84, ↓reduceIte, Nat.one_ne_zero])
  simp only [zS, nilEq, wantedA, opA, eff, boxA, cells, ev, gt, pt, putO, updO, setO, okC, loadA, cutC, fieldAddrA, fieldA, indexAddrA, indexA, builtinA, callOpA, callV, target, ptrV, lenS, binA, intOp, strOp, unA, num, lk, over, allocA, pickA, buildA, fillA, convertA, extractA, ofComp, nilCheckA, makeFuncA, ptrs, ofValue, cellB, Nat.reduceAdd, Nat.reduceSub, Nat.reduceMul, Nat.reduceLT, Nat.reduceLeDiff, Nat.reduceGT, ↓reduceIte, Nat.reduceEqDiff, Nat.reduceBEq, reduceCtorEq, Int.reduceBEq, Int.reduceBNe, Int.reduceLT, Int.reduceLE, Int.reduceGT, Int.reduceGE, aggT_36, sizeT_36, bytesT_36, fieldT_36_0, fieldT_36_1, placesT_36, zeroT_36, aggT_34, sizeT_34, bytesT_34, und_34, elemT_34, isSliceT_34, zero1_34, zeroT_34, aggT_144, sizeT_144, bytesT_144, und_144, elemT_144, isSliceT_144, zero1_144, zeroT_144, aggT_110, sizeT_110, bytesT_110, fieldT_110_0, fieldT_110_1, placesT_110, zeroT_110, aggT_3, sizeT_3, bytesT_3, und_3, zero1_3, zeroT_3, drawA, holes_succ, holes_zero, Array.size, List.length, maxA, hz, hj]
  rw [afterDraw_some _ _ _ _ (by kernel_rfl)]
  simp only [zS, nilEq, wantedA, opA, eff, boxA, cells, ev, gt, pt, putO, updO, setO, okC, loadA, cutC, fieldAddrA, fieldA, indexAddrA, indexA, builtinA, callOpA, callV, target, ptrV, lenS, binA, intOp, strOp, unA, num, lk, over, allocA, pickA, buildA, fillA, convertA, extractA, ofComp, nilCheckA, makeFuncA, ptrs, ofValue, cellB, Nat.reduceAdd, Nat.reduceSub, Nat.reduceMul, Nat.reduceLT, Nat.reduceLeDiff, Nat.reduceGT, ↓reduceIte, Nat.reduceEqDiff, Nat.reduceBEq, reduceCtorEq, Int.reduceBEq, Int.reduceBNe, Int.reduceLT, Int.reduceLE, Int.reduceGT, Int.reduceGE, aggT_3, sizeT_3, bytesT_3, und_3, zero1_3, zeroT_3]
  (refine (r_inLoop_some ?_).trans h; kernel_rfl)
theorem done84b (z zp : Bool) (bys : List Lev) (c : Int) (p : List LV) (n : Int) (srt : List LV) (q : Lev) (e : Int) (hq : run Tryz.prog ext (.call 125 [iV c, dV (listD zp 2 (p.map lvD))] []) = some (.ret [levV q, iV e] [])) : H84b ext 0 (E84b z bys c zp p n n) (O84b srt) = some (.ret [levV q, iV e] []) := by
  unfold H84b
  simp only [levV, dV, iV, bV, levC_z, levC, Lev.d, E84b, O84b] at hq ⊢
  (rw [show (It.code L84b) = It.code (sub B84 [1, 1, 1, 1, 0, 1, 0, 0]) from rfl]; simp only [B84, K84b, sub, Option.getD_some, Tryz.f84, ↓reduceIte, Nat.one_ne_zero])
  simp only [zS, nilEq, wantedA, opA, eff, boxA, cells, ev, gt, pt, putO, updO, setO, okC, loadA, cutC, fieldAddrA, fieldA, indexAddrA, indexA, builtinA, callOpA, callV, target, ptrV, lenS, binA, intOp, strOp, unA, num, lk, over, allocA, pickA, buildA, fillA, convertA, extractA, ofComp, nilCheckA, makeFuncA, ptrs, ofValue, cellB, Nat.reduceAdd, Nat.reduceSub, Nat.reduceMul, Nat.reduceLT, Nat.reduceLeDiff, Nat.reduceGT, ↓reduceIte, Nat.reduceEqDiff, Nat.reduceBEq, reduceCtorEq, Int.reduceBEq, Int.reduceBNe, Int.reduceLT, Int.reduceLE, Int.reduceGT, Int.reduceGE, aggT_30, sizeT_30, bytesT_30, und_30, elemT_30, isSliceT_30, zero1_30, zeroT_30, aggT_36, sizeT_36, bytesT_36, fieldT_36_0, fieldT_36_1, placesT_36, zeroT_36, aggT_34, sizeT_34, bytesT_34, und_34, elemT_34, isSliceT_34, zero1_34, zeroT_34, aggT_144, sizeT_144, bytesT_144, und_144, elemT_144, isSliceT_144, zero1_144, zeroT_144, aggT_110, sizeT_110, bytesT_110, fieldT_110_0, fieldT_110_1, placesT_110, zeroT_110, aggT_3, sizeT_3, bytesT_3, und_3, zero1_3, zeroT_3, Int.lt_irrefl, hq, callOut_cs]
  (refine Eq.trans ?_ rfl; kernel_rfl)
theorem inner84 (hx : ext 122 = none) (h123 : ext 123 = none) (h124 : ext 124 = none) (h194 : ext 194 = none) (h238 : ext 238 = none) (z zp : Bool) (bys : List Lev) (c : Int) (p : List LV) (n k : Int) (y : LV) (bc : Int) (X : C) (q srt : List LV) (hX : X = .any ∨ ∃ x, X = .d x) (hl : p.length + q.length ≤ 400000) (out : Option Out)
    (h : H84b ext 0 (E84b z bys (mx c (wr (bc + y.p))) false (joinL p (q.map (moreLV y.p))) n (wr (k + 1))) (O84b srt) = out) : H84c ext 0 (E84c z bys c zp p n k q.length 0) (O84c y bc X q srt) = out := by
  have key : ∀ (m i : Nat), i + m = q.length → H84c ext 0 (E84c z bys c zp p n k q.length i) (O84c y bc X ((q.take i).map (moreLV y.p) ++ q.drop i) srt) = out := by
    intro m
    induction m with
    | zero =>
      intro i hi
      have : i = q.length := by omega
      subst this
      rw [List.take_length, List.drop_length, List.append_nil]
      exact doneC84 ext hx h123 h124 h194 h238 z zp bys c p n k _ y bc X _ srt hX (by simpa using hl) out h
    | succ m ih =>
      intro i hi
      have hlt : i < q.length := by omega
      have hlen : ((q.take i).map (moreLV y.p)).length = i := by simp; omega
      have hget : ((q.take i).map (moreLV y.p) ++ q.drop i)[i]? = some q[i] := by
        rw [List.getElem?_append_right (by omega), hlen, Nat.sub_self, List.drop_eq_getElem_cons hlt]; rfl
      refine stepC84 ext z zp bys c p n k q.length i y q[i] bc X _ srt hX hget (by omega) out ?_
      rw [wr_succ (by omega)]
      have e : ((q.take i).map (moreLV y.p) ++ q.drop i).set i (moreLV y.p q[i]) = (q.take (i + 1)).map (moreLV y.p) ++ q.drop (i + 1) := by
        rw [List.set_append_right _ _ (by omega), hlen, Nat.sub_self, List.drop_eq_getElem_cons hlt, List.set_cons_zero, List.take_succ_eq_append_getElem hlt, List.map_append, List.append_assoc]
        rfl
      rw [e]
      exact ih (i + 1) (by omega)
  simpa using key q.length 0 (by omega)
def bOf (bys : List Lev) (y : LV) : Int × List LV := match bys[y.v.toNat]? with | some b => (b.c, b.vs) | none => (0, [⟨y.v, 0⟩])
def stepP (bys : List Lev) (s : Int × List LV) (y : LV) : Int × List LV := (mx s.1 (wr ((bOf bys y).1 + y.p)), joinL s.2 ((sortL (bOf bys y).2).map (moreLV y.p)))
def substP (x : Lev) (bys : List Lev) : Lev × Int :=
  if x.valid then if x.vs.any (badBy bys) then (zLev, 4) else canonP ((sortL x.vs).foldl (stepP bys) (x.c, [])).1 ((sortL x.vs).foldl (stepP bys) (x.c, [])).2 x.vs.isEmpty else (zLev, 4)
theorem insR_mem (x : LV) : ∀ (r s : List LV) (y : LV), y ∈ insR x r s ↔ y = x ∨ y ∈ r ∨ y ∈ s
  | [], s, y => by simp [insR]
  | a :: r, s, y => by
    unfold insR
    split
    · rw [insR_mem x r]
      simp only [List.mem_cons]
      constructor
      · rintro (h | h | h | h)
        · exact .inl h
        · exact .inr (.inl (.inr h))
        · exact .inr (.inl (.inl h))
        · exact .inr (.inr h)
      · rintro (h | (h | h) | h)
        · exact .inl h
        · exact .inr (.inr (.inl h))
        · exact .inr (.inl h)
        · exact .inr (.inr (.inr h))
    · simp only [List.mem_append, List.mem_reverse, List.mem_cons]
      constructor
      · rintro ((h | h) | h | h)
        · exact .inr (.inl (.inl h))
        · exact .inr (.inl (.inr h))
        · exact .inl h
        · exact .inr (.inr h)
      · rintro (h | (h | h) | h)
        · exact .inr (.inl h)
        · exact .inl (.inl h)
        · exact .inl (.inr h)
        · exact .inr (.inr h)
theorem isort_mem : ∀ (r acc : List LV) (y : LV), y ∈ isort acc r ↔ y ∈ acc ∨ y ∈ r
  | [], acc, y => by simp [isort]
  | x :: r, acc, y => by
    rw [isort, isort_mem r, insR_mem]
    simp only [List.mem_reverse, List.mem_cons, List.not_mem_nil, or_false]
    constructor
    · rintro ((h | h) | h)
      · exact .inr (.inl h)
      · exact .inl h
      · exact .inr (.inr h)
    · rintro (h | h | h)
      · exact .inl (.inr h)
      · exact .inl (.inl h)
      · exact .inr h
theorem sortL_mem (l : List LV) (y : LV) : y ∈ sortL l ↔ y ∈ l := by
  cases l with
  | nil => rfl
  | cons a r => unfold sortL; rw [isort_mem]; simp
theorem outer84 (hs : Sorts ext) (hx : ext 122 = none) (h123 : ext 123 = none) (h124 : ext 124 = none) (h194 : ext 194 = none) (h238 : ext 238 = none) (z : Bool) (bys : List Lev) (srt : List LV) (q : Lev) (e : Int) (hn : srt.length ≤ 8) (hnn : ∀ y ∈ srt, 0 ≤ y.v) (hb : ∀ y ∈ srt, badBy bys y = false) :
    ∀ (m k : Nat) (c : Int) (zp : Bool) (p : List LV), k + m = srt.length → p.length ≤ 8 * k →
    (run Tryz.prog ext (.call 125 [iV ((srt.drop k).foldl (stepP bys) (c, p)).1, dV (listD (zp && decide (m = 0)) 2 (((srt.drop k).foldl (stepP bys) (c, p)).2.map lvD))] []) = some (.ret [levV q, iV e] [])) →
    H84b ext 0 (E84b z bys c zp p srt.length k) (O84b srt) = some (.ret [levV q, iV e] [])
  | 0, k, c, zp, p, hk, hp, h => by
    have : k = srt.length := by omega
    subst this
    rw [List.drop_length] at h
    exact done84b ext z zp bys c p _ srt q e (by simpa using h)
  | m + 1, k, c, zp, p, hk, hp, h => by
    have hlt : k < srt.length := by omega
    have hget : srt[k]? = some srt[k] := by simp [hlt]
    have hmem := List.getElem_mem hlt
    have hnn' := hnn _ hmem
    have hb' := hb _ hmem
    rw [List.drop_eq_getElem_cons hlt, List.foldl_cons] at h
    generalize hy : srt[k] = y at hget hnn' hb' h
    have next : H84b ext 0 (E84b z bys (stepP bys (c, p) y).1 false (stepP bys (c, p) y).2 srt.length (wr ((k : Int) + 1))) (O84b srt) = some (.ret [levV q, iV e] []) := by
      rw [wr_succ (by omega)]
      refine outer84 hs hx h123 h124 h194 h238 z bys srt q e hn hnn hb m (k + 1) _ false _ (by omega) ?_ ?_
      · have := joinL_len p ((sortL (bOf bys y).2).map (moreLV y.p))
        have hbl : (bOf bys y).2.length ≤ 8 := by
          unfold bOf
          cases hg : bys[y.v.toNat]? with
          | none => simp
          | some b => unfold badBy at hb'; rw [hg] at hb'; exact valid_len (by simpa using hb')
        simp only [List.length_map, sortL_len] at this
        simp only [stepP]; omega
      · simp only [Bool.false_and] at h ⊢
        have hd : (zp && decide (m + 1 = 0)) = false := by simp
        rw [hd] at h
        exact h
    unfold stepP at next
    by_cases h2 : y.v < bys.length
    · have hbl : y.v.toNat < bys.length := by omega
      have hgb : bys[y.v.toNat]? = some bys[y.v.toNat] := by simp [hbl]
      generalize bys[y.v.toNat] = b at hgb
      have hval : b.valid = true := by unfold badBy at hb'; rw [hgb] at hb'; simpa using hb'
      have hv8 := valid_len hval
      have hbo : bOf bys y = (b.c, b.vs) := by unfold bOf; rw [hgb]
      rw [hbo] at next
      dsimp only at next
      cases hbv : b.vs with
      | nil =>
        refine a2_84 ext hs y b srt hbv z zp bys c p k hget (by omega) h2 hnn' hgb _ ?_
        refine doneD84 ext hx h123 h124 h194 h238 z zp bys c p _ _ y b.c b.d srt (by omega) _ ?_
        rw [hbv] at next
        exact next
      | cons a r =>
        refine a1_84 ext hs y b srt hv8 a r hbv z zp bys c p k hget (by omega) h2 hnn' hgb _ ?_
        exact inner84 ext hx h123 h124 h194 h238 z zp bys c p _ _ y b.c (.d b.d) (sortL b.vs) srt (.inr ⟨_, rfl⟩) (by rw [sortL_len]; omega) _ next
    · have hgb : bys[y.v.toNat]? = none := List.getElem?_eq_none (by omega)
      have hbo : bOf bys y = (0, [⟨y.v, 0⟩]) := by unfold bOf; rw [hgb]
      rw [hbo] at next
      refine a3_84 ext hs y srt z zp bys c p k hget (by omega) h2 _ ?_
      exact inner84 ext hx h123 h124 h194 h238 z zp bys c p _ _ y 0 .any [⟨y.v, 0⟩] srt (.inl rfl) (by simp; omega) _ next
theorem subst84 (h84 : ext 84 = none) (h120 : ext 120 = none) (h125 : ext 125 = none) (h190 : ext 190 = none) (h195 : ext 195 = none) (h234 : ext 234 = none) (h235 : ext 235 = none) (hs : Sorts ext) (hx : ext 122 = none) (h123 : ext 123 = none) (h124 : ext 124 = none) (h194 : ext 194 = none) (h238 : ext 238 = none) (x : Lev) (z : Bool) (bys : List Lev) :
    run Tryz.prog ext (.call 84 [levV x, dV (listD z 2 (bys.map levD))] []) = some (.ret [levV (substP x bys).1, iV (substP x bys).2] []) := by
  have hv := valid120 ext h120 h190 h234 h235
  have hvx := hv x
  unfold substP
  cases hval : x.valid with
  | false =>
    rw [hval] at hvx
    rw [bad84 ext h84 x z bys hvx]; rfl
  | true =>
    rw [hval] at hvx
    have hlen := valid_len hval
    have hnn : ∀ y ∈ x.vs, 0 ≤ y.v := by
      intro y hy
      obtain ⟨k, hk⟩ := List.getElem?_of_mem hy
      have := okLV_of_valid hval hk
      simp [okLV] at this; omega
    refine enter84 ext h84 x z bys hvx _ ?_
    rw [if_pos rfl]
    have hfin : x.vs.any (badBy bys) = false → H84a ext 0 (E84 z bys x x.vs.length) (O84 x) = some (.ret [levV (canonP ((sortL x.vs).foldl (stepP bys) (x.c, [])).1 ((sortL x.vs).foldl (stepP bys) (x.c, [])).2 x.vs.isEmpty).1, iV (canonP ((sortL x.vs).foldl (stepP bys) (x.c, [])).1 ((sortL x.vs).foldl (stepP bys) (x.c, [])).2 x.vs.isEmpty).2] []) := by
      intro hbad
      cases hxv : x.vs with
      | nil =>
        exact none84 ext hs x hxv z bys _ _ (by simpa [sortL] using canon125 ext h125 h195 x.c [] true (by simp))
      | cons a r =>
        rw [← hxv]
        refine in84b ext hs x a r hxv hlen z bys _ ?_
        have hsl := sortL_len x.vs
        have hb : ∀ y ∈ sortL x.vs, badBy bys y = false := by
          intro y hy
          rw [sortL_mem] at hy
          have := List.any_eq_false.1 hbad y hy
          simpa using this
        have hnn' : ∀ y ∈ sortL x.vs, 0 ≤ y.v := fun y hy => hnn y ((sortL_mem _ _).1 hy)
        have hfl : ∀ (l : List LV) (s : Int × List LV), (∀ y ∈ l, badBy bys y = false) → (l.foldl (stepP bys) s).2.length ≤ s.2.length + 8 * l.length := by
          intro l
          induction l with
          | nil => intro s _; simp
          | cons y l ih =>
            intro s hl
            have h1 := ih (stepP bys s y) (fun w hw => hl w (List.mem_cons_of_mem _ hw))
            have hby := hl y List.mem_cons_self
            have h2 := joinL_len s.2 ((sortL (bOf bys y).2).map (moreLV y.p))
            have hbl : (bOf bys y).2.length ≤ 8 := by
              unfold bOf
              cases hg : bys[y.v.toNat]? with
              | none => simp
              | some b => unfold badBy at hby; rw [hg] at hby; exact valid_len (by simpa using hby)
            simp only [List.length_map, sortL_len] at h2
            simp only [List.foldl_cons, List.length_cons]
            simp only [stepP] at h1 ⊢
            omega
        have hcl := hfl (sortL x.vs) (x.c, []) hb
        have hcan := canon125 ext h125 h195 ((sortL x.vs).foldl (stepP bys) (x.c, [])).1 ((sortL x.vs).foldl (stepP bys) (x.c, [])).2 false (by rw [hsl] at hcl; simp at hcl; omega)
        have hie : x.vs.isEmpty = false := by rw [hxv]; rfl
        rw [hie]
        have := outer84 ext hs hx h123 h124 h194 h238 z bys (sortL x.vs) _ _ (by omega) hnn' hb (sortL x.vs).length 0 x.c true [] (by omega) (by simp) (by
          have hd : (true && decide ((sortL x.vs).length = 0)) = false := by rw [hsl, hxv]; simp
          rw [hd, List.drop_zero]
          exact hcan)
        rw [hsl] at this
        exact this
    have := loop_find x.vs (fun k => H84a ext 0 (E84 z bys x k) (O84 x)) (badBy bys) (fun _ => some (.ret [levV zLev, iV 4] [])) (H84a ext 0 (E84 z bys x x.vs.length) (O84 x)) (by omega) (fun k y hk hl => step84a ext x z bys y k hk hl (hnn y (List.mem_of_getElem? hk)) hv) rfl
    rw [this]
    have hany := find_some (l := x.vs) (p := badBy bys)
    cases hf : x.vs.findIdx? (badBy bys) with
    | none =>
      rw [hf] at hany
      have hany : x.vs.any (badBy bys) = false := hany.symm
      rw [hany]
      exact hfin hany
    | some i =>
      rw [hf] at hany
      have hany : x.vs.any (badBy bys) = true := hany.symm
      rw [hany]; rfl
end Go.Proofs.YteenjodhmppgjaaGreatDoor.Am
end
section
/- Whether a table is heavy: the answer exists. -/
namespace Go.Proofs.YteenjodhmppgjaaGreatDoor.Am
open Go
variable (ext : Ext)
set_option maxHeartbeats 8000000
noncomputable def B62 : Code := (Tryz.f62.body.getD .skip)
noncomputable def L62a : Code := sub B62 [1, 1, 0, 1, 0, 0]
noncomputable def K62a : List It := [.inBlock 0, .code (sub B62 [1, 1, 1])]
noncomputable def H62a (ext : Ext) (m : Nat) (env : Env) (loc : List O) : Option Out := run Tryz.prog ext (.k ⟨59, m, [.tmp 4], false⟩ (.code L62a :: .inLoop L62a :: K62a) env loc)
noncomputable def L62b : Code := sub B62 [1, 1, 1, 0, 1, 0, 0]
noncomputable def K62b : List It := [.inBlock 2, .code (sub B62 [1, 1, 1, 1])]
noncomputable def H62b (ext : Ext) (m : Nat) (env : Env) (loc : List O) : Option Out := run Tryz.prog ext (.k ⟨59, m, [.tmp 4], false⟩ (.code L62b :: .inLoop L62b :: K62b) env loc)
noncomputable def B63 : Code := (Tryz.f63.body.getD .skip)
noncomputable def L63a : Code := sub B63 [1, 1, 0, 1, 0, 0]
noncomputable def K63a : List It := [.inBlock 0, .code (sub B63 [1, 1, 1])]
noncomputable def H63a (ext : Ext) (m : Nat) (env : Env) (loc : List O) : Option Out := run Tryz.prog ext (.k ⟨21, m, [.tmp 2], false⟩ (.code L63a :: .inLoop L63a :: K63a) env loc)
noncomputable def B99 : Code := (Tryz.f99.body.getD .skip)
noncomputable def L99a : Code := sub B99 [1, 1, 1, 0, 1, 0, 0]
noncomputable def K99a : List It := [.inBlock 0, .code (sub B99 [1, 1, 1, 1])]
noncomputable def H99a (ext : Ext) (m : Nat) (env : Env) (loc : List O) : Option Out := run Tryz.prog ext (.k ⟨71, m, [.tmp 4], false⟩ (.code L99a :: .inLoop L99a :: K99a) env loc)
noncomputable def B57 : Code := (Tryz.f57.body.getD .skip)
noncomputable def L57a : Code := sub B57 [1, 1, 0, 1, 0, 0]
noncomputable def K57a : List It := [.inBlock 0, .code (sub B57 [1, 1, 1])]
noncomputable def H57a (ext : Ext) (m : Nat) (env : Env) (loc : List O) : Option Out := run Tryz.prog ext (.k ⟨27, m, [.tmp 6], false⟩ (.code L57a :: .inLoop L57a :: K57a) env loc)
noncomputable def B31 : Code := (Tryz.f31.body.getD .skip)
noncomputable def L31a : Code := sub B31 [1, 1, 0, 1, 0, 0]
noncomputable def K31a : List It := [.inBlock 0, .code (sub B31 [1, 1, 1])]
noncomputable def H31a (ext : Ext) (m : Nat) (env : Env) (loc : List O) : Option Out := run Tryz.prog ext (.k ⟨20, m, [.tmp 2], false⟩ (.code L31a :: .inLoop L31a :: K31a) env loc)
theorem lD_lt {x : Tm} {k : Nat} (h : (k : Int) < x.l.length) : x.lD = .s 5 (x.l.map tmD) := by unfold Tm.lD; exact listD_of_lt (b := k) (by omega) (by simpa using h)
theorem uD_lt {x : Tm} {k : Nat} (h : (k : Int) < x.u.length) : x.uD = .s 2 (x.u.map levD) := by unfold Tm.uD; exact listD_of_lt (b := k) (by omega) (by simpa using h)
theorem lenA_lD (look : Look) (x : Tm) : lenA look (.c (.d x.lD)) = eff (.c (.d (.v (.int .i64 x.l.length)))) := by unfold Tm.lD; rw [lenA_listD, List.length_map]
theorem lenA_uD (look : Look) (x : Tm) : lenA look (.c (.d x.uD)) = eff (.c (.d (.v (.int .i64 x.u.length)))) := by unfold Tm.uD; rw [lenA_listD, List.length_map]
theorem lenA_vd (look : Look) (x : Lev) : lenA look (.c (.d x.d)) = eff (.c (.d (.v (.int .i64 x.vs.length)))) := by unfold Lev.d; rw [lenA_listD, List.length_map]
theorem lenA_cd (look : Look) (x : Dc) : lenA look (.c (.d x.d)) = eff (.c (.d (.v (.int .i64 x.cons.length)))) := by unfold Dc.d; rw [lenA_listD, List.length_map]
theorem lenA_td (look : Look) (x : Tb) : lenA look (.c (.d x.d)) = eff (.c (.d (.v (.int .i64 x.ds.length)))) := by unfold Tb.d; rw [lenA_listD, List.length_map]
/-! ### Nodes -/
def E62 (m n k : Int) : Env := [(1, iV m), (2, .c (.ptr 0 0)), (5, iV n), (6, iV k)]
def E62b (m n k : Int) : Env := [(1, iV m), (2, .c (.ptr 0 0)), (5, iV n), (7, iV k)]
def O62 (x : Tm) : List O := [.box (tmC x)]
theorem enter62 (hx : ext 62 = none) (x : Tm) (m : Int) (out : Option Out) (h : H62a ext 0 (E62 m 1 0) (O62 x) = out) : run Tryz.prog ext (.call 62 [tmV x, iV m] []) = out := by
  unfold H62a at h
  (rw [run_eq]; simp only [stepA, hx, Tryz.func62, Tryz.f62, show retF 62 = false from rfl]; simp only [List.length_cons, List.length_nil, Nat.reduceAdd, Nat.reduceLeDiff, Nat.zero_le, ↓reduceIte, List.zipIdx_cons, List.zipIdx_nil, List.map_cons, List.map_nil])
  simp only [tmV, tmC, dV, iV, E62, O62] at h ⊢
  simp only [zS, nilEq, wantedA, opA, eff, boxA, cells, ev, gt, pt, putO, updO, setO, okC, loadA, cutC, fieldAddrA, fieldA, indexAddrA, indexA, builtinA, callOpA, callV, target, ptrV, lenS, binA, intOp, strOp, unA, num, lk, over, allocA, pickA, buildA, fillA, convertA, extractA, ofComp, nilCheckA, makeFuncA, ptrs, ofValue, cellB, Nat.reduceAdd, Nat.reduceSub, Nat.reduceMul, Nat.reduceLT, Nat.reduceLeDiff, Nat.reduceGT, ↓reduceIte, Nat.reduceEqDiff, Nat.reduceBEq, reduceCtorEq, Int.reduceBEq, Int.reduceBNe, Int.reduceLT, Int.reduceLE, Int.reduceGT, Int.reduceGE, aggT_33, sizeT_33, bytesT_33, fieldT_33_0, fieldT_33_1, fieldT_33_2, fieldT_33_3, fieldT_33_4, placesT_33, zeroT_33, aggT_31, sizeT_31, bytesT_31, und_31, elemT_31, isSliceT_31, zero1_31, zeroT_31, aggT_30, sizeT_30, bytesT_30, und_30, elemT_30, isSliceT_30, zero1_30, zeroT_30, aggT_3, sizeT_3, bytesT_3, und_3, zero1_3, zeroT_3]
  (refine (r_inLoop_some ?_).trans h; kernel_rfl)
theorem step62a (x : Tm) (u : Lev) (m n : Int) (k : Nat) (hk : x.u[k]? = some u) (hl : (k : Int) < x.u.length) (h1 : n ≤ m) : ∃ n', ∀ out, H62a ext 0 (E62 m n' (wr ((k : Int) + 1))) (O62 x) = out → H62a ext 0 (E62 m n k) (O62 x) = out := by
  have h0 : (0 : Int) ≤ k := by omega
  refine ⟨wr (wr (n + 1) + (if m < (u.vs.length : Int) then m else (u.vs.length : Int))), fun out h => ?_⟩
  unfold H62a at h ⊢
  simp only [tmV, tmC, dV, iV, E62, O62, uD_lt hl] at h ⊢
  (rw [show (It.code L62a) = It.code (sub B62 [1, 1, 0, 1, 0, 0]) from rfl]; simp only [B62, K62a, sub, Option.getD_some, Tryz.f62, ↓reduceIte, Nat.one_ne_zero])
  simp only [zS, nilEq, wantedA, opA, eff, boxA, cells, ev, gt, pt, putO, updO, setO, okC, loadA, cutC, fieldAddrA, fieldA, indexAddrA, indexA, builtinA, callOpA, callV, target, ptrV, lenS, binA, intOp, strOp, unA, num, lk, over, allocA, pickA, buildA, fillA, convertA, extractA, ofComp, nilCheckA, makeFuncA, ptrs, ofValue, cellB, Nat.reduceAdd, Nat.reduceSub, Nat.reduceMul, Nat.reduceLT, Nat.reduceLeDiff, Nat.reduceGT, ↓reduceIte, Nat.reduceEqDiff, Nat.reduceBEq, reduceCtorEq, Int.reduceBEq, Int.reduceBNe, Int.reduceLT, Int.reduceLE, Int.reduceGT, Int.reduceGE, aggT_33, sizeT_33, bytesT_33, fieldT_33_0, fieldT_33_1, fieldT_33_2, fieldT_33_3, fieldT_33_4, placesT_33, zeroT_33, aggT_36, sizeT_36, bytesT_36, fieldT_36_0, fieldT_36_1, placesT_36, zeroT_36, aggT_31, sizeT_31, bytesT_31, und_31, elemT_31, isSliceT_31, zero1_31, zeroT_31, aggT_34, sizeT_34, bytesT_34, und_34, elemT_34, isSliceT_34, zero1_34, zeroT_34, aggT_30, sizeT_30, bytesT_30, und_30, elemT_30, isSliceT_30, zero1_30, zeroT_30, aggT_3, sizeT_3, bytesT_3, und_3, zero1_3, zeroT_3, minA, h0, hl, h1, Int.toNat_natCast, hk, levD, lenA_vd]
  (refine (r_inLoop_some ?_).trans h; kernel_rfl)
theorem out62a (x : Tm) (m n k : Int) (hl : ¬ (k < x.u.length ∧ n ≤ m)) (out : Option Out) (h : H62b ext 0 (E62b m n 0) (O62 x) = out) : H62a ext 0 (E62 m n k) (O62 x) = out := by
  unfold H62b at h
  unfold H62a
  simp only [tmV, tmC, dV, iV, E62, E62b, O62] at h ⊢
  (rw [show (It.code L62a) = It.code (sub B62 [1, 1, 0, 1, 0, 0]) from rfl]; simp only [B62, K62a, sub, Option.getD_some, Tryz.f62, ↓reduceIte, Nat.one_ne_zero])
  by_cases h1 : k < x.u.length
  · have h2 : ¬ n ≤ m := fun e => hl ⟨h1, e⟩
    simp only [zS, nilEq, wantedA, opA, eff, boxA, cells, ev, gt, pt, putO, updO, setO, okC, loadA, cutC, fieldAddrA, fieldA, indexAddrA, indexA, builtinA, callOpA, callV, target, ptrV, lenS, binA, intOp, strOp, unA, num, lk, over, allocA, pickA, buildA, fillA, convertA, extractA, ofComp, nilCheckA, makeFuncA, ptrs, ofValue, cellB, Nat.reduceAdd, Nat.reduceSub, Nat.reduceMul, Nat.reduceLT, Nat.reduceLeDiff, Nat.reduceGT, ↓reduceIte, Nat.reduceEqDiff, Nat.reduceBEq, reduceCtorEq, Int.reduceBEq, Int.reduceBNe, Int.reduceLT, Int.reduceLE, Int.reduceGT, Int.reduceGE, aggT_33, sizeT_33, bytesT_33, fieldT_33_0, fieldT_33_1, fieldT_33_2, fieldT_33_3, fieldT_33_4, placesT_33, zeroT_33, aggT_36, sizeT_36, bytesT_36, fieldT_36_0, fieldT_36_1, placesT_36, zeroT_36, aggT_31, sizeT_31, bytesT_31, und_31, elemT_31, isSliceT_31, zero1_31, zeroT_31, aggT_30, sizeT_30, bytesT_30, und_30, elemT_30, isSliceT_30, zero1_30, zeroT_30, aggT_3, sizeT_3, bytesT_3, und_3, zero1_3, zeroT_3, lenA_uD, h1, h2]
    (refine (r_inLoop_some ?_).trans h; kernel_rfl)
  · simp only [zS, nilEq, wantedA, opA, eff, boxA, cells, ev, gt, pt, putO, updO, setO, okC, loadA, cutC, fieldAddrA, fieldA, indexAddrA, indexA, builtinA, callOpA, callV, target, ptrV, lenS, binA, intOp, strOp, unA, num, lk, over, allocA, pickA, buildA, fillA, convertA, extractA, ofComp, nilCheckA, makeFuncA, ptrs, ofValue, cellB, Nat.reduceAdd, Nat.reduceSub, Nat.reduceMul, Nat.reduceLT, Nat.reduceLeDiff, Nat.reduceGT, ↓reduceIte, Nat.reduceEqDiff, Nat.reduceBEq, reduceCtorEq, Int.reduceBEq, Int.reduceBNe, Int.reduceLT, Int.reduceLE, Int.reduceGT, Int.reduceGE, aggT_33, sizeT_33, bytesT_33, fieldT_33_0, fieldT_33_1, fieldT_33_2, fieldT_33_3, fieldT_33_4, placesT_33, zeroT_33, aggT_36, sizeT_36, bytesT_36, fieldT_36_0, fieldT_36_1, placesT_36, zeroT_36, aggT_31, sizeT_31, bytesT_31, und_31, elemT_31, isSliceT_31, zero1_31, zeroT_31, aggT_30, sizeT_30, bytesT_30, und_30, elemT_30, isSliceT_30, zero1_30, zeroT_30, aggT_3, sizeT_3, bytesT_3, und_3, zero1_3, zeroT_3, lenA_uD, h1]
    (refine (r_inLoop_some ?_).trans h; kernel_rfl)
theorem step62b (x y : Tm) (m n r : Int) (k : Nat) (hk : x.l[k]? = some y) (hl : (k : Int) < x.l.length) (h1 : n ≤ m) (hr : run Tryz.prog ext (.call 62 [tmV y, iV (wr (m - n))] []) = some (.ret [iV r] [])) (out : Option Out) (h : H62b ext 0 (E62b m (wr (n + r)) (wr ((k : Int) + 1))) (O62 x) = out) : H62b ext 0 (E62b m n k) (O62 x) = out := by
  have h0 : (0 : Int) ≤ k := by omega
  unfold H62b at h ⊢
  simp only [tmV, tmC, dV, iV, E62b, O62, lD_lt hl] at h hr ⊢
  (rw [show (It.code L62b) = It.code (sub B62 [1, 1, 1, 0, 1, 0, 0]) from rfl]; simp only [B62, K62b, sub, Option.getD_some, Tryz.f62, ↓reduceIte, Nat.one_ne_zero])
  simp only [zS, nilEq, wantedA, opA, eff, boxA, cells, ev, gt, pt, putO, updO, setO, okC, loadA, cutC, fieldAddrA, fieldA, indexAddrA, indexA, builtinA, callOpA, callV, target, ptrV, lenS, binA, intOp, strOp, unA, num, lk, over, allocA, pickA, buildA, fillA, convertA, extractA, ofComp, nilCheckA, makeFuncA, ptrs, ofValue, cellB, Nat.reduceAdd, Nat.reduceSub, Nat.reduceMul, Nat.reduceLT, Nat.reduceLeDiff, Nat.reduceGT, ↓reduceIte, Nat.reduceEqDiff, Nat.reduceBEq, reduceCtorEq, Int.reduceBEq, Int.reduceBNe, Int.reduceLT, Int.reduceLE, Int.reduceGT, Int.reduceGE, aggT_33, sizeT_33, bytesT_33, fieldT_33_0, fieldT_33_1, fieldT_33_2, fieldT_33_3, fieldT_33_4, placesT_33, zeroT_33, aggT_36, sizeT_36, bytesT_36, fieldT_36_0, fieldT_36_1, placesT_36, zeroT_36, aggT_31, sizeT_31, bytesT_31, und_31, elemT_31, isSliceT_31, zero1_31, zeroT_31, aggT_30, sizeT_30, bytesT_30, und_30, elemT_30, isSliceT_30, zero1_30, zeroT_30, aggT_3, sizeT_3, bytesT_3, und_3, zero1_3, zeroT_3, h0, hl, h1, Int.toNat_natCast, hk, tmD_eq y, hr]
  (refine (r_inLoop_some ?_).trans h; kernel_rfl)
theorem out62b (x : Tm) (m n k : Int) (hl : ¬ (k < x.l.length ∧ n ≤ m)) : ∃ o, H62b ext 0 (E62b m n k) (O62 x) = some o ∧ isI o := by
  refine ⟨.ret [iV (if wr (m + 1) < n then wr (m + 1) else n)] [], ?_, _, rfl⟩
  unfold H62b
  simp only [tmV, tmC, dV, iV, E62b, O62]
  (rw [show (It.code L62b) = It.code (sub B62 [1, 1, 1, 0, 1, 0, 0]) from rfl]; simp only [B62, K62b, sub, Option.getD_some, Tryz.f62, ↓reduceIte, Nat.one_ne_zero])
  by_cases h1 : k < x.l.length
  · have h2 : ¬ n ≤ m := fun e => hl ⟨h1, e⟩
    simp only [zS, nilEq, wantedA, opA, eff, boxA, cells, ev, gt, pt, putO, updO, setO, okC, loadA, cutC, fieldAddrA, fieldA, indexAddrA, indexA, builtinA, callOpA, callV, target, ptrV, lenS, binA, intOp, strOp, unA, num, lk, over, allocA, pickA, buildA, fillA, convertA, extractA, ofComp, nilCheckA, makeFuncA, ptrs, ofValue, cellB, Nat.reduceAdd, Nat.reduceSub, Nat.reduceMul, Nat.reduceLT, Nat.reduceLeDiff, Nat.reduceGT, ↓reduceIte, Nat.reduceEqDiff, Nat.reduceBEq, reduceCtorEq, Int.reduceBEq, Int.reduceBNe, Int.reduceLT, Int.reduceLE, Int.reduceGT, Int.reduceGE, aggT_33, sizeT_33, bytesT_33, fieldT_33_0, fieldT_33_1, fieldT_33_2, fieldT_33_3, fieldT_33_4, placesT_33, zeroT_33, aggT_36, sizeT_36, bytesT_36, fieldT_36_0, fieldT_36_1, placesT_36, zeroT_36, aggT_31, sizeT_31, bytesT_31, und_31, elemT_31, isSliceT_31, zero1_31, zeroT_31, aggT_30, sizeT_30, bytesT_30, und_30, elemT_30, isSliceT_30, zero1_30, zeroT_30, aggT_3, sizeT_3, bytesT_3, und_3, zero1_3, zeroT_3, minA, lenA_lD, h1, h2]
    (refine Eq.trans ?_ rfl; kernel_rfl)
  · simp only [zS, nilEq, wantedA, opA, eff, boxA, cells, ev, gt, pt, putO, updO, setO, okC, loadA, cutC, fieldAddrA, fieldA, indexAddrA, indexA, builtinA, callOpA, callV, target, ptrV, lenS, binA, intOp, strOp, unA, num, lk, over, allocA, pickA, buildA, fillA, convertA, extractA, ofComp, nilCheckA, makeFuncA, ptrs, ofValue, cellB, Nat.reduceAdd, Nat.reduceSub, Nat.reduceMul, Nat.reduceLT, Nat.reduceLeDiff, Nat.reduceGT, ↓reduceIte, Nat.reduceEqDiff, Nat.reduceBEq, reduceCtorEq, Int.reduceBEq, Int.reduceBNe, Int.reduceLT, Int.reduceLE, Int.reduceGT, Int.reduceGE, aggT_33, sizeT_33, bytesT_33, fieldT_33_0, fieldT_33_1, fieldT_33_2, fieldT_33_3, fieldT_33_4, placesT_33, zeroT_33, aggT_36, sizeT_36, bytesT_36, fieldT_36_0, fieldT_36_1, placesT_36, zeroT_36, aggT_31, sizeT_31, bytesT_31, und_31, elemT_31, isSliceT_31, zero1_31, zeroT_31, aggT_30, sizeT_30, bytesT_30, und_30, elemT_30, isSliceT_30, zero1_30, zeroT_30, aggT_3, sizeT_3, bytesT_3, und_3, zero1_3, zeroT_3, minA, lenA_lD, h1]
    (refine Eq.trans ?_ rfl; kernel_rfl)
theorem nodes62 (hx : ext 62 = none) : ∀ (N : Nat) (x : Tm) (m : Int), x.sz ≤ N → N < 2 ^ 60 → ∃ r, run Tryz.prog ext (.call 62 [tmV x, iV m] []) = some (.ret [iV r] [])
  | 0, x, m, h, _ => by have := x.sz_pos; omega
  | N + 1, x, m, h, hN => by
    have hul := x.ulen_lt
    have hll := x.len_lt
    have hb : ∀ n, ∃ o, H62b ext 0 (E62b m n 0) (O62 x) = some o ∧ isI o := fun n =>
      loop_ex x.l (fun k n => H62b ext 0 (E62b m n k) (O62 x)) isI (by omega) (fun k y n hk hl => by
        by_cases h1 : n ≤ m
        · obtain ⟨r, hr⟩ := nodes62 hx N y (wr (m - n)) (by have := Tm.sz_lt (List.mem_of_getElem? hk); omega) (by omega)
          exact .inl ⟨_, fun out ho => step62b ext x y m n r k hk hl h1 hr out ho⟩
        · exact .inr (out62b ext x m n k (fun e => h1 e.2))) (fun n => out62b ext x m n _ (fun e => by omega)) n
    have ha := loop_ex x.u (fun k n => H62a ext 0 (E62 m n k) (O62 x)) isI (by omega) (fun k u n hk hl => by
        by_cases h1 : n ≤ m
        · exact .inl (step62a ext x u m n k hk hl h1)
        · obtain ⟨o, h1', h2⟩ := hb n
          exact .inr ⟨o, out62a ext x m n k (fun e => h1 e.2) _ h1', h2⟩) (fun n => by
        obtain ⟨o, h1', h2⟩ := hb n
        exact ⟨o, out62a ext x m n _ (fun e => by omega) _ h1', h2⟩) 1
    obtain ⟨o, h1, r, rfl⟩ := ha
    exact ⟨r, enter62 ext hx x m _ h1⟩
/-! ### long -/
def E63 (k : Int) : Env := [(1, .c (.ptr 0 0)), (3, iV k)]
theorem long63 (hx : ext 63 = none) : ∀ (N : Nat) (x : Tm), x.sz ≤ N → N < 2 ^ 60 → ∃ b, run Tryz.prog ext (.call 63 [tmV x] []) = some (.ret [bV b] [])
  | 0, x, h, _ => by have := x.sz_pos; omega
  | N + 1, x, h, hN => by
    have hll := x.len_lt
    by_cases h1 : (x.s.size : Int) > 200
    · refine ⟨true, ?_⟩
      (rw [run_eq]; simp only [stepA, hx, Tryz.func63, Tryz.f63, show retF 63 = false from rfl]; simp only [List.length_cons, List.length_nil, Nat.reduceAdd, Nat.reduceLeDiff, Nat.zero_le, ↓reduceIte, List.zipIdx_cons, List.zipIdx_nil, List.map_cons, List.map_nil])
      simp only [tmV, tmC, bV]
      simp only [zS, nilEq, wantedA, opA, eff, boxA, cells, ev, gt, pt, putO, updO, setO, okC, loadA, cutC, fieldAddrA, fieldA, indexAddrA, indexA, builtinA, callOpA, callV, target, ptrV, lenS, binA, intOp, strOp, unA, num, lk, over, allocA, pickA, buildA, fillA, convertA, extractA, ofComp, nilCheckA, makeFuncA, ptrs, ofValue, cellB, Nat.reduceAdd, Nat.reduceSub, Nat.reduceMul, Nat.reduceLT, Nat.reduceLeDiff, Nat.reduceGT, ↓reduceIte, Nat.reduceEqDiff, Nat.reduceBEq, reduceCtorEq, Int.reduceBEq, Int.reduceBNe, Int.reduceLT, Int.reduceLE, Int.reduceGT, Int.reduceGE, aggT_33, sizeT_33, bytesT_33, fieldT_33_0, fieldT_33_1, fieldT_33_2, fieldT_33_3, fieldT_33_4, placesT_33, zeroT_33, aggT_9, sizeT_9, bytesT_9, und_9, zero1_9, zeroT_9, aggT_31, sizeT_31, bytesT_31, und_31, elemT_31, isSliceT_31, zero1_31, zeroT_31, aggT_3, sizeT_3, bytesT_3, und_3, zero1_3, zeroT_3, h1]
      (refine Eq.trans ?_ rfl; kernel_rfl)
    have he : ∀ out, H63a ext 0 (E63 0) (O62 x) = out → run Tryz.prog ext (.call 63 [tmV x] []) = out := by
      intro out h
      unfold H63a at h
      (rw [run_eq]; simp only [stepA, hx, Tryz.func63, Tryz.f63, show retF 63 = false from rfl]; simp only [List.length_cons, List.length_nil, Nat.reduceAdd, Nat.reduceLeDiff, Nat.zero_le, ↓reduceIte, List.zipIdx_cons, List.zipIdx_nil, List.map_cons, List.map_nil])
      simp only [tmV, tmC, iV, E63, O62] at h ⊢
      simp only [zS, nilEq, wantedA, opA, eff, boxA, cells, ev, gt, pt, putO, updO, setO, okC, loadA, cutC, fieldAddrA, fieldA, indexAddrA, indexA, builtinA, callOpA, callV, target, ptrV, lenS, binA, intOp, strOp, unA, num, lk, over, allocA, pickA, buildA, fillA, convertA, extractA, ofComp, nilCheckA, makeFuncA, ptrs, ofValue, cellB, Nat.reduceAdd, Nat.reduceSub, Nat.reduceMul, Nat.reduceLT, Nat.reduceLeDiff, Nat.reduceGT, ↓reduceIte, Nat.reduceEqDiff, Nat.reduceBEq, reduceCtorEq, Int.reduceBEq, Int.reduceBNe, Int.reduceLT, Int.reduceLE, Int.reduceGT, Int.reduceGE, aggT_33, sizeT_33, bytesT_33, fieldT_33_0, fieldT_33_1, fieldT_33_2, fieldT_33_3, fieldT_33_4, placesT_33, zeroT_33, aggT_9, sizeT_9, bytesT_9, und_9, zero1_9, zeroT_9, aggT_31, sizeT_31, bytesT_31, und_31, elemT_31, isSliceT_31, zero1_31, zeroT_31, aggT_3, sizeT_3, bytesT_3, und_3, zero1_3, zeroT_3, h1]
      (refine (r_inLoop_some ?_).trans h; kernel_rfl)
    have ha := loop_ex (σ := Unit) x.l (fun k _ => H63a ext 0 (E63 k) (O62 x)) isB (by omega) (fun k y _ hk hl => by
        have h0 : (0 : Int) ≤ k := by omega
        obtain ⟨b, hr⟩ := long63 hx N y (by have := Tm.sz_lt (List.mem_of_getElem? hk); omega) (by omega)
        cases b with
        | true =>
          refine .inr ⟨.ret [bV true] [], ?_, _, rfl⟩
          unfold H63a
          simp only [tmV, tmC, dV, iV, bV, E63, O62, lD_lt hl] at hr ⊢
          (rw [show (It.code L63a) = It.code (sub B63 [1, 1, 0, 1, 0, 0]) from rfl]; simp only [B63, K63a, sub, Option.getD_some, Tryz.f63, ↓reduceIte, Nat.one_ne_zero])
          simp only [zS, nilEq, wantedA, opA, eff, boxA, cells, ev, gt, pt, putO, updO, setO, okC, loadA, cutC, fieldAddrA, fieldA, indexAddrA, indexA, builtinA, callOpA, callV, target, ptrV, lenS, binA, intOp, strOp, unA, num, lk, over, allocA, pickA, buildA, fillA, convertA, extractA, ofComp, nilCheckA, makeFuncA, ptrs, ofValue, cellB, Nat.reduceAdd, Nat.reduceSub, Nat.reduceMul, Nat.reduceLT, Nat.reduceLeDiff, Nat.reduceGT, ↓reduceIte, Nat.reduceEqDiff, Nat.reduceBEq, reduceCtorEq, Int.reduceBEq, Int.reduceBNe, Int.reduceLT, Int.reduceLE, Int.reduceGT, Int.reduceGE, aggT_33, sizeT_33, bytesT_33, fieldT_33_0, fieldT_33_1, fieldT_33_2, fieldT_33_3, fieldT_33_4, placesT_33, zeroT_33, aggT_31, sizeT_31, bytesT_31, und_31, elemT_31, isSliceT_31, zero1_31, zeroT_31, aggT_3, sizeT_3, bytesT_3, und_3, zero1_3, zeroT_3, h0, hl, Int.toNat_natCast, hk, tmD_eq y, hr]
          (refine Eq.trans ?_ rfl; kernel_rfl)
        | false =>
          refine .inl ⟨(), fun out h => ?_⟩
          unfold H63a at h ⊢
          simp only [tmV, tmC, dV, iV, bV, E63, O62, lD_lt hl] at hr h ⊢
          (rw [show (It.code L63a) = It.code (sub B63 [1, 1, 0, 1, 0, 0]) from rfl]; simp only [B63, K63a, sub, Option.getD_some, Tryz.f63, ↓reduceIte, Nat.one_ne_zero])
          simp only [zS, nilEq, wantedA, opA, eff, boxA, cells, ev, gt, pt, putO, updO, setO, okC, loadA, cutC, fieldAddrA, fieldA, indexAddrA, indexA, builtinA, callOpA, callV, target, ptrV, lenS, binA, intOp, strOp, unA, num, lk, over, allocA, pickA, buildA, fillA, convertA, extractA, ofComp, nilCheckA, makeFuncA, ptrs, ofValue, cellB, Nat.reduceAdd, Nat.reduceSub, Nat.reduceMul, Nat.reduceLT, Nat.reduceLeDiff, Nat.reduceGT, ↓reduceIte, Nat.reduceEqDiff, Nat.reduceBEq, reduceCtorEq, Int.reduceBEq, Int.reduceBNe, Int.reduceLT, Int.reduceLE, Int.reduceGT, Int.reduceGE, aggT_33, sizeT_33, bytesT_33, fieldT_33_0, fieldT_33_1, fieldT_33_2, fieldT_33_3, fieldT_33_4, placesT_33, zeroT_33, aggT_31, sizeT_31, bytesT_31, und_31, elemT_31, isSliceT_31, zero1_31, zeroT_31, aggT_3, sizeT_3, bytesT_3, und_3, zero1_3, zeroT_3, h0, hl, Int.toNat_natCast, hk, tmD_eq y, hr]
          (refine (r_inLoop_some ?_).trans h; kernel_rfl)) (fun _ => by
        refine ⟨.ret [bV false] [], ?_, _, rfl⟩
        unfold H63a
        simp only [tmV, tmC, dV, iV, bV, E63, O62]
        (rw [show (It.code L63a) = It.code (sub B63 [1, 1, 0, 1, 0, 0]) from rfl]; simp only [B63, K63a, sub, Option.getD_some, Tryz.f63, ↓reduceIte, Nat.one_ne_zero])
        simp only [zS, nilEq, wantedA, opA, eff, boxA, cells, ev, gt, pt, putO, updO, setO, okC, loadA, cutC, fieldAddrA, fieldA, indexAddrA, indexA, builtinA, callOpA, callV, target, ptrV, lenS, binA, intOp, strOp, unA, num, lk, over, allocA, pickA, buildA, fillA, convertA, extractA, ofComp, nilCheckA, makeFuncA, ptrs, ofValue, cellB, Nat.reduceAdd, Nat.reduceSub, Nat.reduceMul, Nat.reduceLT, Nat.reduceLeDiff, Nat.reduceGT, ↓reduceIte, Nat.reduceEqDiff, Nat.reduceBEq, reduceCtorEq, Int.reduceBEq, Int.reduceBNe, Int.reduceLT, Int.reduceLE, Int.reduceGT, Int.reduceGE, aggT_33, sizeT_33, bytesT_33, fieldT_33_0, fieldT_33_1, fieldT_33_2, fieldT_33_3, fieldT_33_4, placesT_33, zeroT_33, aggT_31, sizeT_31, bytesT_31, und_31, elemT_31, isSliceT_31, zero1_31, zeroT_31, aggT_3, sizeT_3, bytesT_3, und_3, zero1_3, zeroT_3, lenA_lD, Int.lt_irrefl]
        (refine Eq.trans ?_ rfl; kernel_rfl)) ()
    obtain ⟨o, h1, b, rfl⟩ := ha
    exact ⟨b, he _ h1⟩
theorem heavy17 (hx : ext 17 = none) (h62 : ext 62 = none) (h63 : ext 63 = none) (x : Tm) (m : Int) (hs : x.sz < 2 ^ 50) : ∃ b, run Tryz.prog ext (.call 17 [tmV x, iV m] []) = some (.ret [bV b] []) := by
  obtain ⟨r, h1⟩ := nodes62 ext h62 x.sz x m (Nat.le_refl _) (by omega)
  obtain ⟨b, h2⟩ := long63 ext h63 x.sz x (Nat.le_refl _) (by omega)
  by_cases c : r > m
  · refine ⟨true, ?_⟩
    (rw [run_eq]; simp only [stepA, hx, Tryz.func17, Tryz.f17, show retF 17 = false from rfl]; simp only [List.length_cons, List.length_nil, Nat.reduceAdd, Nat.reduceLeDiff, Nat.zero_le, ↓reduceIte, List.zipIdx_cons, List.zipIdx_nil, List.map_cons, List.map_nil])
    simp only [tmV, tmC, iV, bV] at h1 h2 ⊢
    simp only [zS, nilEq, wantedA, opA, eff, boxA, cells, ev, gt, pt, putO, updO, setO, okC, loadA, cutC, fieldAddrA, fieldA, indexAddrA, indexA, builtinA, callOpA, callV, target, ptrV, lenS, binA, intOp, strOp, unA, num, lk, over, allocA, pickA, buildA, fillA, convertA, extractA, ofComp, nilCheckA, makeFuncA, ptrs, ofValue, cellB, Nat.reduceAdd, Nat.reduceSub, Nat.reduceMul, Nat.reduceLT, Nat.reduceLeDiff, Nat.reduceGT, ↓reduceIte, Nat.reduceEqDiff, Nat.reduceBEq, reduceCtorEq, Int.reduceBEq, Int.reduceBNe, Int.reduceLT, Int.reduceLE, Int.reduceGT, Int.reduceGE, aggT_33, sizeT_33, bytesT_33, fieldT_33_0, fieldT_33_1, fieldT_33_2, fieldT_33_3, fieldT_33_4, placesT_33, zeroT_33, aggT_3, sizeT_3, bytesT_3, und_3, zero1_3, zeroT_3, h1, c]
    (refine Eq.trans ?_ rfl; kernel_rfl)
  · refine ⟨b, ?_⟩
    (rw [run_eq]; simp only [stepA, hx, Tryz.func17, Tryz.f17, show retF 17 = false from rfl]; simp only [List.length_cons, List.length_nil, Nat.reduceAdd, Nat.reduceLeDiff, Nat.zero_le, ↓reduceIte, List.zipIdx_cons, List.zipIdx_nil, List.map_cons, List.map_nil])
    simp only [tmV, tmC, iV, bV] at h1 h2 ⊢
    simp only [zS, nilEq, wantedA, opA, eff, boxA, cells, ev, gt, pt, putO, updO, setO, okC, loadA, cutC, fieldAddrA, fieldA, indexAddrA, indexA, builtinA, callOpA, callV, target, ptrV, lenS, binA, intOp, strOp, unA, num, lk, over, allocA, pickA, buildA, fillA, convertA, extractA, ofComp, nilCheckA, makeFuncA, ptrs, ofValue, cellB, Nat.reduceAdd, Nat.reduceSub, Nat.reduceMul, Nat.reduceLT, Nat.reduceLeDiff, Nat.reduceGT, ↓reduceIte, Nat.reduceEqDiff, Nat.reduceBEq, reduceCtorEq, Int.reduceBEq, Int.reduceBNe, Int.reduceLT, Int.reduceLE, Int.reduceGT, Int.reduceGE, aggT_33, sizeT_33, bytesT_33, fieldT_33_0, fieldT_33_1, fieldT_33_2, fieldT_33_3, fieldT_33_4, placesT_33, zeroT_33, aggT_3, sizeT_3, bytesT_3, und_3, zero1_3, zeroT_3, h1, h2, c]
    (refine Eq.trans ?_ rfl; kernel_rfl)
end Go.Proofs.YteenjodhmppgjaaGreatDoor.Am
end
section
/- Whether a table, a list of levels is heavy: the answer exists; Find. -/
namespace Go.Proofs.YteenjodhmppgjaaGreatDoor.Am
open Go
variable (ext : Ext)
set_option maxHeartbeats 8000000
noncomputable def B37 : Code := (Tryz.f37.body.getD .skip)
noncomputable def L37a : Code := sub B37 [1, 0, 1, 0, 0]
noncomputable def K37a : List It := [.inBlock 0, .code (sub B37 [1, 1])]
noncomputable def H37a (ext : Ext) (m : Nat) (env : Env) (loc : List O) : Option Out := run Tryz.prog ext (.k ⟨22, m, [.tmp 4], false⟩ (.code L37a :: .inLoop L37a :: K37a) env loc)
noncomputable def B69 : Code := (Tryz.f69.body.getD .skip)
noncomputable def L69a : Code := sub B69 [1, 0, 1, 0, 0]
noncomputable def K69a : List It := [.inBlock 0, .code (sub B69 [1, 1])]
noncomputable def H69a (ext : Ext) (m : Nat) (env : Env) (loc : List O) : Option Out := run Tryz.prog ext (.k ⟨19, m, [.tmp 4], false⟩ (.code L69a :: .inLoop L69a :: K69a) env loc)
def Lev.ok (x : Lev) : Prop := x.vs.length < 2 ^ 50
def Dc.ok (x : Dc) : Prop := x.type.sz < 2 ^ 50 ∧ x.body.sz < 2 ^ 50 ∧ x.param.sz < 2 ^ 50 ∧ x.cons.length < 2 ^ 50 ∧ ∀ c ∈ x.cons, c.arg.sz < 2 ^ 50
def Tb.ok (x : Tb) : Prop := x.ds.length < 2 ^ 50 ∧ ∀ d ∈ x.ds, d.ok
theorem conD_eq (x : Con) : conD x = [.v (.string x.name), .v (.int .i64 x.arg.op), .v (.int .i64 x.arg.n), .v (.string x.arg.s), x.arg.uD, x.arg.lD] := by simp [conD, tmD_eq]
theorem consD_lt {x : Dc} {k : Nat} (h : (k : Int) < x.cons.length) : x.d = .s 6 (x.cons.map conD) := by unfold Dc.d; exact listD_of_lt (b := k) (by omega) (by simpa using h)
theorem dsD_lt {x : Tb} {k : Int} (h0 : 0 ≤ k) (h : k < x.ds.length) : x.d = .s 23 (x.ds.map dcD) := by unfold Tb.d; exact listD_of_lt (b := k) h0 (by simpa using h)
def E99 (m k : Int) : Env := [(1, iV m), (2, .c (.ptr 0 0)), (5, iV k)]
def O99 (x : Dc) : List O := [.box (dcC x)]
theorem decl99 (hx : ext 99 = none) (h17 : ext 17 = none) (h62 : ext 62 = none) (h63 : ext 63 = none) (x : Dc) (m : Int) (hs : x.ok) : ∃ b, run Tryz.prog ext (.call 99 [dcV x, iV m] []) = some (.ret [bV b] []) := by
  obtain ⟨s1, s2, s3, s4, s5⟩ := hs
  obtain ⟨b1, r1⟩ := heavy17 ext h17 h62 h63 x.type m s1
  obtain ⟨b2, r2⟩ := heavy17 ext h17 h62 h63 x.body m s2
  obtain ⟨b3, r3⟩ := heavy17 ext h17 h62 h63 x.param m s3
  by_cases a1 : (x.name.size : Int) > 200
  · refine ⟨true, ?_⟩
    (rw [run_eq]; simp only [stepA, hx, Tryz.func99, Tryz.f99, show retF 99 = false from rfl]; simp only [List.length_cons, List.length_nil, Nat.reduceAdd, Nat.reduceLeDiff, Nat.zero_le, ↓reduceIte, List.zipIdx_cons, List.zipIdx_nil, List.map_cons, List.map_nil])
    simp only [dcV, dcC, bV, iV]
    simp only [zS, nilEq, wantedA, opA, eff, boxA, cells, ev, gt, pt, putO, updO, setO, okC, loadA, cutC, fieldAddrA, fieldA, indexAddrA, indexA, builtinA, callOpA, callV, target, ptrV, lenS, binA, intOp, strOp, unA, num, lk, over, allocA, pickA, buildA, fillA, convertA, extractA, ofComp, nilCheckA, makeFuncA, ptrs, ofValue, cellB, Nat.reduceAdd, Nat.reduceSub, Nat.reduceMul, Nat.reduceLT, Nat.reduceLeDiff, Nat.reduceGT, ↓reduceIte, Nat.reduceEqDiff, Nat.reduceBEq, reduceCtorEq, Int.reduceBEq, Int.reduceBNe, Int.reduceLT, Int.reduceLE, Int.reduceGT, Int.reduceGE, aggT_39, sizeT_39, bytesT_39, fieldT_39_0, fieldT_39_1, fieldT_39_2, fieldT_39_3, fieldT_39_4, fieldT_39_5, fieldT_39_6, fieldT_39_7, fieldT_39_8, placesT_39, zeroT_39, aggT_9, sizeT_9, bytesT_9, und_9, zero1_9, zeroT_9, aggT_36, sizeT_36, bytesT_36, fieldT_36_0, fieldT_36_1, placesT_36, zeroT_36, aggT_37, sizeT_37, bytesT_37, und_37, elemT_37, isSliceT_37, zero1_37, zeroT_37, aggT_34, sizeT_34, bytesT_34, und_34, elemT_34, isSliceT_34, zero1_34, zeroT_34, aggT_3, sizeT_3, bytesT_3, und_3, zero1_3, zeroT_3, lenA_vd, lenA_cd, a1]
    (refine Eq.trans ?_ rfl; kernel_rfl)
  by_cases a2 : (x.cons.length : Int) > 20
  · refine ⟨true, ?_⟩
    (rw [run_eq]; simp only [stepA, hx, Tryz.func99, Tryz.f99, show retF 99 = false from rfl]; simp only [List.length_cons, List.length_nil, Nat.reduceAdd, Nat.reduceLeDiff, Nat.zero_le, ↓reduceIte, List.zipIdx_cons, List.zipIdx_nil, List.map_cons, List.map_nil])
    simp only [dcV, dcC, bV, iV]
    simp only [zS, nilEq, wantedA, opA, eff, boxA, cells, ev, gt, pt, putO, updO, setO, okC, loadA, cutC, fieldAddrA, fieldA, indexAddrA, indexA, builtinA, callOpA, callV, target, ptrV, lenS, binA, intOp, strOp, unA, num, lk, over, allocA, pickA, buildA, fillA, convertA, extractA, ofComp, nilCheckA, makeFuncA, ptrs, ofValue, cellB, Nat.reduceAdd, Nat.reduceSub, Nat.reduceMul, Nat.reduceLT, Nat.reduceLeDiff, Nat.reduceGT, ↓reduceIte, Nat.reduceEqDiff, Nat.reduceBEq, reduceCtorEq, Int.reduceBEq, Int.reduceBNe, Int.reduceLT, Int.reduceLE, Int.reduceGT, Int.reduceGE, aggT_39, sizeT_39, bytesT_39, fieldT_39_0, fieldT_39_1, fieldT_39_2, fieldT_39_3, fieldT_39_4, fieldT_39_5, fieldT_39_6, fieldT_39_7, fieldT_39_8, placesT_39, zeroT_39, aggT_9, sizeT_9, bytesT_9, und_9, zero1_9, zeroT_9, aggT_36, sizeT_36, bytesT_36, fieldT_36_0, fieldT_36_1, placesT_36, zeroT_36, aggT_37, sizeT_37, bytesT_37, und_37, elemT_37, isSliceT_37, zero1_37, zeroT_37, aggT_34, sizeT_34, bytesT_34, und_34, elemT_34, isSliceT_34, zero1_34, zeroT_34, aggT_3, sizeT_3, bytesT_3, und_3, zero1_3, zeroT_3, lenA_vd, lenA_cd, a1, a2]
    (refine Eq.trans ?_ rfl; kernel_rfl)
  by_cases a3 : (x.over.vs.length : Int) > 20
  · refine ⟨true, ?_⟩
    (rw [run_eq]; simp only [stepA, hx, Tryz.func99, Tryz.f99, show retF 99 = false from rfl]; simp only [List.length_cons, List.length_nil, Nat.reduceAdd, Nat.reduceLeDiff, Nat.zero_le, ↓reduceIte, List.zipIdx_cons, List.zipIdx_nil, List.map_cons, List.map_nil])
    simp only [dcV, dcC, bV, iV]
    simp only [zS, nilEq, wantedA, opA, eff, boxA, cells, ev, gt, pt, putO, updO, setO, okC, loadA, cutC, fieldAddrA, fieldA, indexAddrA, indexA, builtinA, callOpA, callV, target, ptrV, lenS, binA, intOp, strOp, unA, num, lk, over, allocA, pickA, buildA, fillA, convertA, extractA, ofComp, nilCheckA, makeFuncA, ptrs, ofValue, cellB, Nat.reduceAdd, Nat.reduceSub, Nat.reduceMul, Nat.reduceLT, Nat.reduceLeDiff, Nat.reduceGT, ↓reduceIte, Nat.reduceEqDiff, Nat.reduceBEq, reduceCtorEq, Int.reduceBEq, Int.reduceBNe, Int.reduceLT, Int.reduceLE, Int.reduceGT, Int.reduceGE, aggT_39, sizeT_39, bytesT_39, fieldT_39_0, fieldT_39_1, fieldT_39_2, fieldT_39_3, fieldT_39_4, fieldT_39_5, fieldT_39_6, fieldT_39_7, fieldT_39_8, placesT_39, zeroT_39, aggT_9, sizeT_9, bytesT_9, und_9, zero1_9, zeroT_9, aggT_36, sizeT_36, bytesT_36, fieldT_36_0, fieldT_36_1, placesT_36, zeroT_36, aggT_37, sizeT_37, bytesT_37, und_37, elemT_37, isSliceT_37, zero1_37, zeroT_37, aggT_34, sizeT_34, bytesT_34, und_34, elemT_34, isSliceT_34, zero1_34, zeroT_34, aggT_3, sizeT_3, bytesT_3, und_3, zero1_3, zeroT_3, lenA_vd, lenA_cd, a1, a2, a3]
    (refine Eq.trans ?_ rfl; kernel_rfl)
  by_cases a4 : (x.sort.vs.length : Int) > 20
  · refine ⟨true, ?_⟩
    (rw [run_eq]; simp only [stepA, hx, Tryz.func99, Tryz.f99, show retF 99 = false from rfl]; simp only [List.length_cons, List.length_nil, Nat.reduceAdd, Nat.reduceLeDiff, Nat.zero_le, ↓reduceIte, List.zipIdx_cons, List.zipIdx_nil, List.map_cons, List.map_nil])
    simp only [dcV, dcC, bV, iV]
    simp only [zS, nilEq, wantedA, opA, eff, boxA, cells, ev, gt, pt, putO, updO, setO, okC, loadA, cutC, fieldAddrA, fieldA, indexAddrA, indexA, builtinA, callOpA, callV, target, ptrV, lenS, binA, intOp, strOp, unA, num, lk, over, allocA, pickA, buildA, fillA, convertA, extractA, ofComp, nilCheckA, makeFuncA, ptrs, ofValue, cellB, Nat.reduceAdd, Nat.reduceSub, Nat.reduceMul, Nat.reduceLT, Nat.reduceLeDiff, Nat.reduceGT, ↓reduceIte, Nat.reduceEqDiff, Nat.reduceBEq, reduceCtorEq, Int.reduceBEq, Int.reduceBNe, Int.reduceLT, Int.reduceLE, Int.reduceGT, Int.reduceGE, aggT_39, sizeT_39, bytesT_39, fieldT_39_0, fieldT_39_1, fieldT_39_2, fieldT_39_3, fieldT_39_4, fieldT_39_5, fieldT_39_6, fieldT_39_7, fieldT_39_8, placesT_39, zeroT_39, aggT_9, sizeT_9, bytesT_9, und_9, zero1_9, zeroT_9, aggT_36, sizeT_36, bytesT_36, fieldT_36_0, fieldT_36_1, placesT_36, zeroT_36, aggT_37, sizeT_37, bytesT_37, und_37, elemT_37, isSliceT_37, zero1_37, zeroT_37, aggT_34, sizeT_34, bytesT_34, und_34, elemT_34, isSliceT_34, zero1_34, zeroT_34, aggT_3, sizeT_3, bytesT_3, und_3, zero1_3, zeroT_3, lenA_vd, lenA_cd, a1, a2, a3, a4]
    (refine Eq.trans ?_ rfl; kernel_rfl)
  cases b1 with
  | true =>
    refine ⟨true, ?_⟩
    (rw [run_eq]; simp only [stepA, hx, Tryz.func99, Tryz.f99, show retF 99 = false from rfl]; simp only [List.length_cons, List.length_nil, Nat.reduceAdd, Nat.reduceLeDiff, Nat.zero_le, ↓reduceIte, List.zipIdx_cons, List.zipIdx_nil, List.map_cons, List.map_nil])
    simp only [dcV, dcC, bV, iV, tmV, tmC] at r1 ⊢
    simp only [zS, nilEq, wantedA, opA, eff, boxA, cells, ev, gt, pt, putO, updO, setO, okC, loadA, cutC, fieldAddrA, fieldA, indexAddrA, indexA, builtinA, callOpA, callV, target, ptrV, lenS, binA, intOp, strOp, unA, num, lk, over, allocA, pickA, buildA, fillA, convertA, extractA, ofComp, nilCheckA, makeFuncA, ptrs, ofValue, cellB, Nat.reduceAdd, Nat.reduceSub, Nat.reduceMul, Nat.reduceLT, Nat.reduceLeDiff, Nat.reduceGT, ↓reduceIte, Nat.reduceEqDiff, Nat.reduceBEq, reduceCtorEq, Int.reduceBEq, Int.reduceBNe, Int.reduceLT, Int.reduceLE, Int.reduceGT, Int.reduceGE, aggT_39, sizeT_39, bytesT_39, fieldT_39_0, fieldT_39_1, fieldT_39_2, fieldT_39_3, fieldT_39_4, fieldT_39_5, fieldT_39_6, fieldT_39_7, fieldT_39_8, placesT_39, zeroT_39, aggT_9, sizeT_9, bytesT_9, und_9, zero1_9, zeroT_9, aggT_33, sizeT_33, bytesT_33, fieldT_33_0, fieldT_33_1, fieldT_33_2, fieldT_33_3, fieldT_33_4, placesT_33, zeroT_33, aggT_36, sizeT_36, bytesT_36, fieldT_36_0, fieldT_36_1, placesT_36, zeroT_36, aggT_37, sizeT_37, bytesT_37, und_37, elemT_37, isSliceT_37, zero1_37, zeroT_37, aggT_34, sizeT_34, bytesT_34, und_34, elemT_34, isSliceT_34, zero1_34, zeroT_34, aggT_3, sizeT_3, bytesT_3, und_3, zero1_3, zeroT_3, lenA_vd, lenA_cd, a1, a2, a3, a4, r1]
    (refine Eq.trans ?_ rfl; kernel_rfl)
  | false =>
  cases b2 with
  | true =>
    refine ⟨true, ?_⟩
    (rw [run_eq]; simp only [stepA, hx, Tryz.func99, Tryz.f99, show retF 99 = false from rfl]; simp only [List.length_cons, List.length_nil, Nat.reduceAdd, Nat.reduceLeDiff, Nat.zero_le, ↓reduceIte, List.zipIdx_cons, List.zipIdx_nil, List.map_cons, List.map_nil])
    simp only [dcV, dcC, bV, iV, tmV, tmC] at r1 r2 ⊢
    simp only [zS, nilEq, wantedA, opA, eff, boxA, cells, ev, gt, pt, putO, updO, setO, okC, loadA, cutC, fieldAddrA, fieldA, indexAddrA, indexA, builtinA, callOpA, callV, target, ptrV, lenS, binA, intOp, strOp, unA, num, lk, over, allocA, pickA, buildA, fillA, convertA, extractA, ofComp, nilCheckA, makeFuncA, ptrs, ofValue, cellB, Nat.reduceAdd, Nat.reduceSub, Nat.reduceMul, Nat.reduceLT, Nat.reduceLeDiff, Nat.reduceGT, ↓reduceIte, Nat.reduceEqDiff, Nat.reduceBEq, reduceCtorEq, Int.reduceBEq, Int.reduceBNe, Int.reduceLT, Int.reduceLE, Int.reduceGT, Int.reduceGE, aggT_39, sizeT_39, bytesT_39, fieldT_39_0, fieldT_39_1, fieldT_39_2, fieldT_39_3, fieldT_39_4, fieldT_39_5, fieldT_39_6, fieldT_39_7, fieldT_39_8, placesT_39, zeroT_39, aggT_9, sizeT_9, bytesT_9, und_9, zero1_9, zeroT_9, aggT_33, sizeT_33, bytesT_33, fieldT_33_0, fieldT_33_1, fieldT_33_2, fieldT_33_3, fieldT_33_4, placesT_33, zeroT_33, aggT_36, sizeT_36, bytesT_36, fieldT_36_0, fieldT_36_1, placesT_36, zeroT_36, aggT_37, sizeT_37, bytesT_37, und_37, elemT_37, isSliceT_37, zero1_37, zeroT_37, aggT_34, sizeT_34, bytesT_34, und_34, elemT_34, isSliceT_34, zero1_34, zeroT_34, aggT_3, sizeT_3, bytesT_3, und_3, zero1_3, zeroT_3, lenA_vd, lenA_cd, a1, a2, a3, a4, r1, r2]
    (refine Eq.trans ?_ rfl; kernel_rfl)
  | false =>
  cases b3 with
  | true =>
    refine ⟨true, ?_⟩
    (rw [run_eq]; simp only [stepA, hx, Tryz.func99, Tryz.f99, show retF 99 = false from rfl]; simp only [List.length_cons, List.length_nil, Nat.reduceAdd, Nat.reduceLeDiff, Nat.zero_le, ↓reduceIte, List.zipIdx_cons, List.zipIdx_nil, List.map_cons, List.map_nil])
    simp only [dcV, dcC, bV, iV, tmV, tmC] at r1 r2 r3 ⊢
    simp only [zS, nilEq, wantedA, opA, eff, boxA, cells, ev, gt, pt, putO, updO, setO, okC, loadA, cutC, fieldAddrA, fieldA, indexAddrA, indexA, builtinA, callOpA, callV, target, ptrV, lenS, binA, intOp, strOp, unA, num, lk, over, allocA, pickA, buildA, fillA, convertA, extractA, ofComp, nilCheckA, makeFuncA, ptrs, ofValue, cellB, Nat.reduceAdd, Nat.reduceSub, Nat.reduceMul, Nat.reduceLT, Nat.reduceLeDiff, Nat.reduceGT, ↓reduceIte, Nat.reduceEqDiff, Nat.reduceBEq, reduceCtorEq, Int.reduceBEq, Int.reduceBNe, Int.reduceLT, Int.reduceLE, Int.reduceGT, Int.reduceGE, aggT_39, sizeT_39, bytesT_39, fieldT_39_0, fieldT_39_1, fieldT_39_2, fieldT_39_3, fieldT_39_4, fieldT_39_5, fieldT_39_6, fieldT_39_7, fieldT_39_8, placesT_39, zeroT_39, aggT_9, sizeT_9, bytesT_9, und_9, zero1_9, zeroT_9, aggT_33, sizeT_33, bytesT_33, fieldT_33_0, fieldT_33_1, fieldT_33_2, fieldT_33_3, fieldT_33_4, placesT_33, zeroT_33, aggT_36, sizeT_36, bytesT_36, fieldT_36_0, fieldT_36_1, placesT_36, zeroT_36, aggT_37, sizeT_37, bytesT_37, und_37, elemT_37, isSliceT_37, zero1_37, zeroT_37, aggT_34, sizeT_34, bytesT_34, und_34, elemT_34, isSliceT_34, zero1_34, zeroT_34, aggT_3, sizeT_3, bytesT_3, und_3, zero1_3, zeroT_3, lenA_vd, lenA_cd, a1, a2, a3, a4, r1, r2, r3]
    (refine Eq.trans ?_ rfl; kernel_rfl)
  | false =>
    have he : ∀ out, H99a ext 0 (E99 m 0) (O99 x) = out → run Tryz.prog ext (.call 99 [dcV x, iV m] []) = out := by
      intro out h
      unfold H99a at h
      (rw [run_eq]; simp only [stepA, hx, Tryz.func99, Tryz.f99, show retF 99 = false from rfl]; simp only [List.length_cons, List.length_nil, Nat.reduceAdd, Nat.reduceLeDiff, Nat.zero_le, ↓reduceIte, List.zipIdx_cons, List.zipIdx_nil, List.map_cons, List.map_nil])
      simp only [dcV, dcC, bV, iV, tmV, tmC, E99, O99] at h r1 r2 r3 ⊢
      simp only [zS, nilEq, wantedA, opA, eff, boxA, cells, ev, gt, pt, putO, updO, setO, okC, loadA, cutC, fieldAddrA, fieldA, indexAddrA, indexA, builtinA, callOpA, callV, target, ptrV, lenS, binA, intOp, strOp, unA, num, lk, over, allocA, pickA, buildA, fillA, convertA, extractA, ofComp, nilCheckA, makeFuncA, ptrs, ofValue, cellB, Nat.reduceAdd, Nat.reduceSub, Nat.reduceMul, Nat.reduceLT, Nat.reduceLeDiff, Nat.reduceGT, ↓reduceIte, Nat.reduceEqDiff, Nat.reduceBEq, reduceCtorEq, Int.reduceBEq, Int.reduceBNe, Int.reduceLT, Int.reduceLE, Int.reduceGT, Int.reduceGE, aggT_39, sizeT_39, bytesT_39, fieldT_39_0, fieldT_39_1, fieldT_39_2, fieldT_39_3, fieldT_39_4, fieldT_39_5, fieldT_39_6, fieldT_39_7, fieldT_39_8, placesT_39, zeroT_39, aggT_9, sizeT_9, bytesT_9, und_9, zero1_9, zeroT_9, aggT_33, sizeT_33, bytesT_33, fieldT_33_0, fieldT_33_1, fieldT_33_2, fieldT_33_3, fieldT_33_4, placesT_33, zeroT_33, aggT_36, sizeT_36, bytesT_36, fieldT_36_0, fieldT_36_1, placesT_36, zeroT_36, aggT_37, sizeT_37, bytesT_37, und_37, elemT_37, isSliceT_37, zero1_37, zeroT_37, aggT_34, sizeT_34, bytesT_34, und_34, elemT_34, isSliceT_34, zero1_34, zeroT_34, aggT_3, sizeT_3, bytesT_3, und_3, zero1_3, zeroT_3, lenA_vd, lenA_cd, a1, a2, a3, a4, r1, r2, r3]
      (refine (r_inLoop_some ?_).trans h; kernel_rfl)
    have ha := loop_ex (σ := Unit) x.cons (fun k _ => H99a ext 0 (E99 m k) (O99 x)) isB (by omega) (fun k y _ hk hl => by
        have h0 : (0 : Int) ≤ k := by omega
        obtain ⟨b, hr⟩ := heavy17 ext h17 h62 h63 y.arg m (s5 y (List.mem_of_getElem? hk))
        by_cases c1 : (y.name.size : Int) > 200
        · refine .inr ⟨.ret [bV true] [], ?_, _, rfl⟩
          unfold H99a
          simp only [dcV, dcC, dV, iV, bV, tmV, tmC, E99, O99, consD_lt hl] at hr ⊢
          (rw [show (It.code L99a) = It.code (sub B99 [1, 1, 1, 0, 1, 0, 0]) from rfl]; simp only [B99, K99a, sub, Option.getD_some, Tryz.f99, ↓reduceIte, Nat.one_ne_zero])
          simp only [zS, nilEq, wantedA, opA, eff, boxA, cells, ev, gt, pt, putO, updO, setO, okC, loadA, cutC, fieldAddrA, fieldA, indexAddrA, indexA, builtinA, callOpA, callV, target, ptrV, lenS, binA, intOp, strOp, unA, num, lk, over, allocA, pickA, buildA, fillA, convertA, extractA, ofComp, nilCheckA, makeFuncA, ptrs, ofValue, cellB, Nat.reduceAdd, Nat.reduceSub, Nat.reduceMul, Nat.reduceLT, Nat.reduceLeDiff, Nat.reduceGT, ↓reduceIte, Nat.reduceEqDiff, Nat.reduceBEq, reduceCtorEq, Int.reduceBEq, Int.reduceBNe, Int.reduceLT, Int.reduceLE, Int.reduceGT, Int.reduceGE, aggT_39, sizeT_39, bytesT_39, fieldT_39_0, fieldT_39_1, fieldT_39_2, fieldT_39_3, fieldT_39_4, fieldT_39_5, fieldT_39_6, fieldT_39_7, fieldT_39_8, placesT_39, zeroT_39, aggT_98, sizeT_98, bytesT_98, fieldT_98_0, fieldT_98_1, placesT_98, zeroT_98, aggT_9, sizeT_9, bytesT_9, und_9, zero1_9, zeroT_9, aggT_33, sizeT_33, bytesT_33, fieldT_33_0, fieldT_33_1, fieldT_33_2, fieldT_33_3, fieldT_33_4, placesT_33, zeroT_33, aggT_37, sizeT_37, bytesT_37, und_37, elemT_37, isSliceT_37, zero1_37, zeroT_37, aggT_3, sizeT_3, bytesT_3, und_3, zero1_3, zeroT_3, h0, hl, Int.toNat_natCast, hk, conD_eq y, c1]
          (refine Eq.trans ?_ rfl; kernel_rfl)
        cases b with
        | true =>
          refine .inr ⟨.ret [bV true] [], ?_, _, rfl⟩
          unfold H99a
          simp only [dcV, dcC, dV, iV, bV, tmV, tmC, E99, O99, consD_lt hl] at hr ⊢
          (rw [show (It.code L99a) = It.code (sub B99 [1, 1, 1, 0, 1, 0, 0]) from rfl]; simp only [B99, K99a, sub, Option.getD_some, Tryz.f99, ↓reduceIte, Nat.one_ne_zero])
          simp only [zS, nilEq, wantedA, opA, eff, boxA, cells, ev, gt, pt, putO, updO, setO, okC, loadA, cutC, fieldAddrA, fieldA, indexAddrA, indexA, builtinA, callOpA, callV, target, ptrV, lenS, binA, intOp, strOp, unA, num, lk, over, allocA, pickA, buildA, fillA, convertA, extractA, ofComp, nilCheckA, makeFuncA, ptrs, ofValue, cellB, Nat.reduceAdd, Nat.reduceSub, Nat.reduceMul, Nat.reduceLT, Nat.reduceLeDiff, Nat.reduceGT, ↓reduceIte, Nat.reduceEqDiff, Nat.reduceBEq, reduceCtorEq, Int.reduceBEq, Int.reduceBNe, Int.reduceLT, Int.reduceLE, Int.reduceGT, Int.reduceGE, aggT_39, sizeT_39, bytesT_39, fieldT_39_0, fieldT_39_1, fieldT_39_2, fieldT_39_3, fieldT_39_4, fieldT_39_5, fieldT_39_6, fieldT_39_7, fieldT_39_8, placesT_39, zeroT_39, aggT_98, sizeT_98, bytesT_98, fieldT_98_0, fieldT_98_1, placesT_98, zeroT_98, aggT_9, sizeT_9, bytesT_9, und_9, zero1_9, zeroT_9, aggT_33, sizeT_33, bytesT_33, fieldT_33_0, fieldT_33_1, fieldT_33_2, fieldT_33_3, fieldT_33_4, placesT_33, zeroT_33, aggT_37, sizeT_37, bytesT_37, und_37, elemT_37, isSliceT_37, zero1_37, zeroT_37, aggT_3, sizeT_3, bytesT_3, und_3, zero1_3, zeroT_3, h0, hl, Int.toNat_natCast, hk, conD_eq y, c1, hr]
          (refine Eq.trans ?_ rfl; kernel_rfl)
        | false =>
          refine .inl ⟨(), fun out h => ?_⟩
          unfold H99a at h ⊢
          simp only [dcV, dcC, dV, iV, bV, tmV, tmC, E99, O99, consD_lt hl] at hr h ⊢
          (rw [show (It.code L99a) = It.code (sub B99 [1, 1, 1, 0, 1, 0, 0]) from rfl]; simp only [B99, K99a, sub, Option.getD_some, Tryz.f99, ↓reduceIte, Nat.one_ne_zero])
          simp only [zS, nilEq, wantedA, opA, eff, boxA, cells, ev, gt, pt, putO, updO, setO, okC, loadA, cutC, fieldAddrA, fieldA, indexAddrA, indexA, builtinA, callOpA, callV, target, ptrV, lenS, binA, intOp, strOp, unA, num, lk, over, allocA, pickA, buildA, fillA, convertA, extractA, ofComp, nilCheckA, makeFuncA, ptrs, ofValue, cellB, Nat.reduceAdd, Nat.reduceSub, Nat.reduceMul, Nat.reduceLT, Nat.reduceLeDiff, Nat.reduceGT, ↓reduceIte, Nat.reduceEqDiff, Nat.reduceBEq, reduceCtorEq, Int.reduceBEq, Int.reduceBNe, Int.reduceLT, Int.reduceLE, Int.reduceGT, Int.reduceGE, aggT_39, sizeT_39, bytesT_39, fieldT_39_0, fieldT_39_1, fieldT_39_2, fieldT_39_3, fieldT_39_4, fieldT_39_5, fieldT_39_6, fieldT_39_7, fieldT_39_8, placesT_39, zeroT_39, aggT_98, sizeT_98, bytesT_98, fieldT_98_0, fieldT_98_1, placesT_98, zeroT_98, aggT_9, sizeT_9, bytesT_9, und_9, zero1_9, zeroT_9, aggT_33, sizeT_33, bytesT_33, fieldT_33_0, fieldT_33_1, fieldT_33_2, fieldT_33_3, fieldT_33_4, placesT_33, zeroT_33, aggT_37, sizeT_37, bytesT_37, und_37, elemT_37, isSliceT_37, zero1_37, zeroT_37, aggT_3, sizeT_3, bytesT_3, und_3, zero1_3, zeroT_3, h0, hl, Int.toNat_natCast, hk, conD_eq y, c1, hr]
          (refine (r_inLoop_some ?_).trans h; kernel_rfl)) (fun _ => by
        refine ⟨.ret [bV false] [], ?_, _, rfl⟩
        unfold H99a
        simp only [dcV, dcC, dV, iV, bV, E99, O99]
        (rw [show (It.code L99a) = It.code (sub B99 [1, 1, 1, 0, 1, 0, 0]) from rfl]; simp only [B99, K99a, sub, Option.getD_some, Tryz.f99, ↓reduceIte, Nat.one_ne_zero])
        simp only [zS, nilEq, wantedA, opA, eff, boxA, cells, ev, gt, pt, putO, updO, setO, okC, loadA, cutC, fieldAddrA, fieldA, indexAddrA, indexA, builtinA, callOpA, callV, target, ptrV, lenS, binA, intOp, strOp, unA, num, lk, over, allocA, pickA, buildA, fillA, convertA, extractA, ofComp, nilCheckA, makeFuncA, ptrs, ofValue, cellB, Nat.reduceAdd, Nat.reduceSub, Nat.reduceMul, Nat.reduceLT, Nat.reduceLeDiff, Nat.reduceGT, ↓reduceIte, Nat.reduceEqDiff, Nat.reduceBEq, reduceCtorEq, Int.reduceBEq, Int.reduceBNe, Int.reduceLT, Int.reduceLE, Int.reduceGT, Int.reduceGE, aggT_39, sizeT_39, bytesT_39, fieldT_39_0, fieldT_39_1, fieldT_39_2, fieldT_39_3, fieldT_39_4, fieldT_39_5, fieldT_39_6, fieldT_39_7, fieldT_39_8, placesT_39, zeroT_39, aggT_37, sizeT_37, bytesT_37, und_37, elemT_37, isSliceT_37, zero1_37, zeroT_37, aggT_3, sizeT_3, bytesT_3, und_3, zero1_3, zeroT_3, lenA_cd, Int.lt_irrefl]
        (refine Eq.trans ?_ rfl; kernel_rfl)) ()
    obtain ⟨o, h1, b, rfl⟩ := ha
    exact ⟨b, he _ h1⟩
def E57 (m k : Int) : Env := [(2, iV m), (3, .c (.ptr 0 0)), (7, iV k)]
def O57 (x : Tb) : List O := [.box (tbC x)]
theorem table57 (hx : ext 57 = none) (h99 : ext 99 = none) (h17 : ext 17 = none) (h62 : ext 62 = none) (h63 : ext 63 = none) (x : Tb) (n m : Int) (hs : x.ok) : ∃ b, run Tryz.prog ext (.call 57 [tbV x, iV n, iV m] []) = some (.ret [bV b] []) := by
  obtain ⟨s1, s2⟩ := hs
  by_cases a1 : (x.ds.length : Int) > n
  · refine ⟨true, ?_⟩
    (rw [run_eq]; simp only [stepA, hx, Tryz.func57, Tryz.f57, show retF 57 = false from rfl]; simp only [List.length_cons, List.length_nil, Nat.reduceAdd, Nat.reduceLeDiff, Nat.zero_le, ↓reduceIte, List.zipIdx_cons, List.zipIdx_nil, List.map_cons, List.map_nil])
    simp only [tbV, tbC, bV, iV]
    simp only [zS, nilEq, wantedA, opA, eff, boxA, cells, ev, gt, pt, putO, updO, setO, okC, loadA, cutC, fieldAddrA, fieldA, indexAddrA, indexA, builtinA, callOpA, callV, target, ptrV, lenS, binA, intOp, strOp, unA, num, lk, over, allocA, pickA, buildA, fillA, convertA, extractA, ofComp, nilCheckA, makeFuncA, ptrs, ofValue, cellB, Nat.reduceAdd, Nat.reduceSub, Nat.reduceMul, Nat.reduceLT, Nat.reduceLeDiff, Nat.reduceGT, ↓reduceIte, Nat.reduceEqDiff, Nat.reduceBEq, reduceCtorEq, Int.reduceBEq, Int.reduceBNe, Int.reduceLT, Int.reduceLE, Int.reduceGT, Int.reduceGE, aggT_24, sizeT_24, bytesT_24, fieldT_24_0, placesT_24, zeroT_24, aggT_22, sizeT_22, bytesT_22, und_22, elemT_22, isSliceT_22, zero1_22, zeroT_22, aggT_3, sizeT_3, bytesT_3, und_3, zero1_3, zeroT_3, lenA_td, a1]
    (refine Eq.trans ?_ rfl; kernel_rfl)
  have he : ∀ out, H57a ext 0 (E57 m 0) (O57 x) = out → run Tryz.prog ext (.call 57 [tbV x, iV n, iV m] []) = out := by
    intro out h
    unfold H57a at h
    (rw [run_eq]; simp only [stepA, hx, Tryz.func57, Tryz.f57, show retF 57 = false from rfl]; simp only [List.length_cons, List.length_nil, Nat.reduceAdd, Nat.reduceLeDiff, Nat.zero_le, ↓reduceIte, List.zipIdx_cons, List.zipIdx_nil, List.map_cons, List.map_nil])
    simp only [tbV, tbC, bV, iV, E57, O57] at h ⊢
    simp only [zS, nilEq, wantedA, opA, eff, boxA, cells, ev, gt, pt, putO, updO, setO, okC, loadA, cutC, fieldAddrA, fieldA, indexAddrA, indexA, builtinA, callOpA, callV, target, ptrV, lenS, binA, intOp, strOp, unA, num, lk, over, allocA, pickA, buildA, fillA, convertA, extractA, ofComp, nilCheckA, makeFuncA, ptrs, ofValue, cellB, Nat.reduceAdd, Nat.reduceSub, Nat.reduceMul, Nat.reduceLT, Nat.reduceLeDiff, Nat.reduceGT, ↓reduceIte, Nat.reduceEqDiff, Nat.reduceBEq, reduceCtorEq, Int.reduceBEq, Int.reduceBNe, Int.reduceLT, Int.reduceLE, Int.reduceGT, Int.reduceGE, aggT_24, sizeT_24, bytesT_24, fieldT_24_0, placesT_24, zeroT_24, aggT_22, sizeT_22, bytesT_22, und_22, elemT_22, isSliceT_22, zero1_22, zeroT_22, aggT_3, sizeT_3, bytesT_3, und_3, zero1_3, zeroT_3, lenA_td, a1]
    (refine (r_inLoop_some ?_).trans h; kernel_rfl)
  have ha := loop_ex (σ := Unit) x.ds (fun k _ => H57a ext 0 (E57 m k) (O57 x)) isB (by omega) (fun k y _ hk hl => by
      have h0 : (0 : Int) ≤ k := by omega
      obtain ⟨b, hr⟩ := decl99 ext h99 h17 h62 h63 y m (s2 y (List.mem_of_getElem? hk))
      cases b with
      | true =>
        refine .inr ⟨.ret [bV true] [], ?_, _, rfl⟩
        unfold H57a
        simp only [dcV, dcC, tbC, dV, iV, bV, E57, O57, dsD_lt h0 hl] at hr ⊢
        (rw [show (It.code L57a) = It.code (sub B57 [1, 1, 0, 1, 0, 0]) from rfl]; simp only [B57, K57a, sub, Option.getD_some, Tryz.f57, ↓reduceIte, Nat.one_ne_zero])
        simp only [zS, nilEq, wantedA, opA, eff, boxA, cells, ev, gt, pt, putO, updO, setO, okC, loadA, cutC, fieldAddrA, fieldA, indexAddrA, indexA, builtinA, callOpA, callV, target, ptrV, lenS, binA, intOp, strOp, unA, num, lk, over, allocA, pickA, buildA, fillA, convertA, extractA, ofComp, nilCheckA, makeFuncA, ptrs, ofValue, cellB, Nat.reduceAdd, Nat.reduceSub, Nat.reduceMul, Nat.reduceLT, Nat.reduceLeDiff, Nat.reduceGT, ↓reduceIte, Nat.reduceEqDiff, Nat.reduceBEq, reduceCtorEq, Int.reduceBEq, Int.reduceBNe, Int.reduceLT, Int.reduceLE, Int.reduceGT, Int.reduceGE, aggT_39, sizeT_39, bytesT_39, fieldT_39_0, fieldT_39_1, fieldT_39_2, fieldT_39_3, fieldT_39_4, fieldT_39_5, fieldT_39_6, fieldT_39_7, fieldT_39_8, placesT_39, zeroT_39, aggT_24, sizeT_24, bytesT_24, fieldT_24_0, placesT_24, zeroT_24, aggT_22, sizeT_22, bytesT_22, und_22, elemT_22, isSliceT_22, zero1_22, zeroT_22, aggT_3, sizeT_3, bytesT_3, und_3, zero1_3, zeroT_3, h0, hl, Int.toNat_natCast, hk, dcD_eq y, hr]
        (refine Eq.trans ?_ rfl; kernel_rfl)
      | false =>
        refine .inl ⟨(), fun out h => ?_⟩
        unfold H57a at h ⊢
        simp only [dcV, dcC, tbC, dV, iV, bV, E57, O57, dsD_lt h0 hl] at hr h ⊢
        (rw [show (It.code L57a) = It.code (sub B57 [1, 1, 0, 1, 0, 0]) from rfl]; simp only [B57, K57a, sub, Option.getD_some, Tryz.f57, ↓reduceIte, Nat.one_ne_zero])
        simp only [zS, nilEq, wantedA, opA, eff, boxA, cells, ev, gt, pt, putO, updO, setO, okC, loadA, cutC, fieldAddrA, fieldA, indexAddrA, indexA, builtinA, callOpA, callV, target, ptrV, lenS, binA, intOp, strOp, unA, num, lk, over, allocA, pickA, buildA, fillA, convertA, extractA, ofComp, nilCheckA, makeFuncA, ptrs, ofValue, cellB, Nat.reduceAdd, Nat.reduceSub, Nat.reduceMul, Nat.reduceLT, Nat.reduceLeDiff, Nat.reduceGT, ↓reduceIte, Nat.reduceEqDiff, Nat.reduceBEq, reduceCtorEq, Int.reduceBEq, Int.reduceBNe, Int.reduceLT, Int.reduceLE, Int.reduceGT, Int.reduceGE, aggT_39, sizeT_39, bytesT_39, fieldT_39_0, fieldT_39_1, fieldT_39_2, fieldT_39_3, fieldT_39_4, fieldT_39_5, fieldT_39_6, fieldT_39_7, fieldT_39_8, placesT_39, zeroT_39, aggT_24, sizeT_24, bytesT_24, fieldT_24_0, placesT_24, zeroT_24, aggT_22, sizeT_22, bytesT_22, und_22, elemT_22, isSliceT_22, zero1_22, zeroT_22, aggT_3, sizeT_3, bytesT_3, und_3, zero1_3, zeroT_3, h0, hl, Int.toNat_natCast, hk, dcD_eq y, hr]
        (refine (r_inLoop_some ?_).trans h; kernel_rfl)) (fun _ => by
      refine ⟨.ret [bV false] [], ?_, _, rfl⟩
      unfold H57a
      simp only [tbC, dV, iV, bV, E57, O57]
      (rw [show (It.code L57a) = It.code (sub B57 [1, 1, 0, 1, 0, 0]) from rfl]; simp only [B57, K57a, sub, Option.getD_some, Tryz.f57, ↓reduceIte, Nat.one_ne_zero])
      simp only [zS, nilEq, wantedA, opA, eff, boxA, cells, ev, gt, pt, putO, updO, setO, okC, loadA, cutC, fieldAddrA, fieldA, indexAddrA, indexA, builtinA, callOpA, callV, target, ptrV, lenS, binA, intOp, strOp, unA, num, lk, over, allocA, pickA, buildA, fillA, convertA, extractA, ofComp, nilCheckA, makeFuncA, ptrs, ofValue, cellB, Nat.reduceAdd, Nat.reduceSub, Nat.reduceMul, Nat.reduceLT, Nat.reduceLeDiff, Nat.reduceGT, ↓reduceIte, Nat.reduceEqDiff, Nat.reduceBEq, reduceCtorEq, Int.reduceBEq, Int.reduceBNe, Int.reduceLT, Int.reduceLE, Int.reduceGT, Int.reduceGE, aggT_24, sizeT_24, bytesT_24, fieldT_24_0, placesT_24, zeroT_24, aggT_22, sizeT_22, bytesT_22, und_22, elemT_22, isSliceT_22, zero1_22, zeroT_22, aggT_3, sizeT_3, bytesT_3, und_3, zero1_3, zeroT_3, lenA_td, Int.lt_irrefl]
      (refine Eq.trans ?_ rfl; kernel_rfl)) ()
  obtain ⟨o, h1, b, rfl⟩ := ha
  exact ⟨b, he _ h1⟩
theorem heavy13 (hx : ext 13 = none) (h57 : ext 57 = none) (h99 : ext 99 = none) (h17 : ext 17 = none) (h62 : ext 62 = none) (h63 : ext 63 = none) (x : Tb) (hs : x.ok) : ∃ b, run Tryz.prog ext (.call 13 [tbV x] []) = some (.ret [bV b] []) := by
  obtain ⟨b, hr⟩ := table57 ext h57 h99 h17 h62 h63 x 40 400 hs
  refine ⟨b, ?_⟩
  (rw [run_eq]; simp only [stepA, hx, Tryz.func13, Tryz.f13, show retF 13 = false from rfl]; simp only [List.length_cons, List.length_nil, Nat.reduceAdd, Nat.reduceLeDiff, Nat.zero_le, ↓reduceIte, List.zipIdx_cons, List.zipIdx_nil, List.map_cons, List.map_nil])
  simp only [tbV, tbC, bV, iV] at hr ⊢
  simp only [zS, nilEq, wantedA, opA, eff, boxA, cells, ev, gt, pt, putO, updO, setO, okC, loadA, cutC, fieldAddrA, fieldA, indexAddrA, indexA, builtinA, callOpA, callV, target, ptrV, lenS, binA, intOp, strOp, unA, num, lk, over, allocA, pickA, buildA, fillA, convertA, extractA, ofComp, nilCheckA, makeFuncA, ptrs, ofValue, cellB, Nat.reduceAdd, Nat.reduceSub, Nat.reduceMul, Nat.reduceLT, Nat.reduceLeDiff, Nat.reduceGT, ↓reduceIte, Nat.reduceEqDiff, Nat.reduceBEq, reduceCtorEq, Int.reduceBEq, Int.reduceBNe, Int.reduceLT, Int.reduceLE, Int.reduceGT, Int.reduceGE, aggT_24, sizeT_24, bytesT_24, fieldT_24_0, placesT_24, zeroT_24, hr]
  (refine Eq.trans ?_ rfl; kernel_rfl)
def E31 (D : D) (k : Int) : Env := [(0, dV D), (3, iV k)]
theorem levels31 (hx : ext 31 = none) (z : Bool) (l : List Lev) (hs : l.length < 2 ^ 50) : ∃ b, run Tryz.prog ext (.call 31 [dV (listD z 2 (l.map levD))] []) = some (.ret [bV b] []) := by
  by_cases a1 : (l.length : Int) > 20
  · refine ⟨true, ?_⟩
    (rw [run_eq]; simp only [stepA, hx, Tryz.func31, Tryz.f31, show retF 31 = false from rfl]; simp only [List.length_cons, List.length_nil, Nat.reduceAdd, Nat.reduceLeDiff, Nat.zero_le, ↓reduceIte, List.zipIdx_cons, List.zipIdx_nil, List.map_cons, List.map_nil])
    simp only [dV, bV]
    simp only [zS, nilEq, wantedA, opA, eff, boxA, cells, ev, gt, pt, putO, updO, setO, okC, loadA, cutC, fieldAddrA, fieldA, indexAddrA, indexA, builtinA, callOpA, callV, target, ptrV, lenS, binA, intOp, strOp, unA, num, lk, over, allocA, pickA, buildA, fillA, convertA, extractA, ofComp, nilCheckA, makeFuncA, ptrs, ofValue, cellB, Nat.reduceAdd, Nat.reduceSub, Nat.reduceMul, Nat.reduceLT, Nat.reduceLeDiff, Nat.reduceGT, ↓reduceIte, Nat.reduceEqDiff, Nat.reduceBEq, reduceCtorEq, Int.reduceBEq, Int.reduceBNe, Int.reduceLT, Int.reduceLE, Int.reduceGT, Int.reduceGE, aggT_30, sizeT_30, bytesT_30, und_30, elemT_30, isSliceT_30, zero1_30, zeroT_30, aggT_3, sizeT_3, bytesT_3, und_3, zero1_3, zeroT_3, a1]
    (refine Eq.trans ?_ rfl; kernel_rfl)
  have he : ∀ out, H31a ext 0 (E31 (listD z 2 (l.map levD)) 0) [] = out → run Tryz.prog ext (.call 31 [dV (listD z 2 (l.map levD))] []) = out := by
    intro out h
    unfold H31a at h
    (rw [run_eq]; simp only [stepA, hx, Tryz.func31, Tryz.f31, show retF 31 = false from rfl]; simp only [List.length_cons, List.length_nil, Nat.reduceAdd, Nat.reduceLeDiff, Nat.zero_le, ↓reduceIte, List.zipIdx_cons, List.zipIdx_nil, List.map_cons, List.map_nil])
    simp only [dV, iV, E31] at h ⊢
    simp only [zS, nilEq, wantedA, opA, eff, boxA, cells, ev, gt, pt, putO, updO, setO, okC, loadA, cutC, fieldAddrA, fieldA, indexAddrA, indexA, builtinA, callOpA, callV, target, ptrV, lenS, binA, intOp, strOp, unA, num, lk, over, allocA, pickA, buildA, fillA, convertA, extractA, ofComp, nilCheckA, makeFuncA, ptrs, ofValue, cellB, Nat.reduceAdd, Nat.reduceSub, Nat.reduceMul, Nat.reduceLT, Nat.reduceLeDiff, Nat.reduceGT, ↓reduceIte, Nat.reduceEqDiff, Nat.reduceBEq, reduceCtorEq, Int.reduceBEq, Int.reduceBNe, Int.reduceLT, Int.reduceLE, Int.reduceGT, Int.reduceGE, aggT_30, sizeT_30, bytesT_30, und_30, elemT_30, isSliceT_30, zero1_30, zeroT_30, aggT_3, sizeT_3, bytesT_3, und_3, zero1_3, zeroT_3, a1]
    (refine (r_inLoop_some ?_).trans h; kernel_rfl)
  have ha := loop_ex (σ := Unit) l (fun k _ => H31a ext 0 (E31 (listD z 2 (l.map levD)) k) []) isB (by omega) (fun k y _ hk hl => by
      have h0 : (0 : Int) ≤ k := by omega
      have hd : listD z 2 (l.map levD) = .s 2 (l.map levD) := listD_of_lt h0 (by simpa using hl)
      by_cases c1 : (y.vs.length : Int) > 20
      · refine .inr ⟨.ret [bV true] [], ?_, _, rfl⟩
        unfold H31a
        simp only [dV, iV, bV, E31, hd]
        (rw [show (It.code L31a) = It.code (sub B31 [1, 1, 0, 1, 0, 0]) from rfl]; simp only [B31, K31a, sub, Option.getD_some, Tryz.f31, ↓reduceIte, Nat.one_ne_zero])
        simp only [zS, nilEq, wantedA, opA, eff, boxA, cells, ev, gt, pt, putO, updO, setO, okC, loadA, cutC, fieldAddrA, fieldA, indexAddrA, indexA, builtinA, callOpA, callV, target, ptrV, lenS, binA, intOp, strOp, unA, num, lk, over, allocA, pickA, buildA, fillA, convertA, extractA, ofComp, nilCheckA, makeFuncA, ptrs, ofValue, cellB, Nat.reduceAdd, Nat.reduceSub, Nat.reduceMul, Nat.reduceLT, Nat.reduceLeDiff, Nat.reduceGT, ↓reduceIte, Nat.reduceEqDiff, Nat.reduceBEq, reduceCtorEq, Int.reduceBEq, Int.reduceBNe, Int.reduceLT, Int.reduceLE, Int.reduceGT, Int.reduceGE, aggT_36, sizeT_36, bytesT_36, fieldT_36_0, fieldT_36_1, placesT_36, zeroT_36, aggT_30, sizeT_30, bytesT_30, und_30, elemT_30, isSliceT_30, zero1_30, zeroT_30, aggT_34, sizeT_34, bytesT_34, und_34, elemT_34, isSliceT_34, zero1_34, zeroT_34, aggT_3, sizeT_3, bytesT_3, und_3, zero1_3, zeroT_3, h0, hl, Int.toNat_natCast, hk, levD, lenA_vd, c1]
        (refine Eq.trans ?_ rfl; kernel_rfl)
      · refine .inl ⟨(), fun out h => ?_⟩
        unfold H31a at h ⊢
        simp only [dV, iV, bV, E31, hd] at h ⊢
        (rw [show (It.code L31a) = It.code (sub B31 [1, 1, 0, 1, 0, 0]) from rfl]; simp only [B31, K31a, sub, Option.getD_some, Tryz.f31, ↓reduceIte, Nat.one_ne_zero])
        simp only [zS, nilEq, wantedA, opA, eff, boxA, cells, ev, gt, pt, putO, updO, setO, okC, loadA, cutC, fieldAddrA, fieldA, indexAddrA, indexA, builtinA, callOpA, callV, target, ptrV, lenS, binA, intOp, strOp, unA, num, lk, over, allocA, pickA, buildA, fillA, convertA, extractA, ofComp, nilCheckA, makeFuncA, ptrs, ofValue, cellB, Nat.reduceAdd, Nat.reduceSub, Nat.reduceMul, Nat.reduceLT, Nat.reduceLeDiff, Nat.reduceGT, ↓reduceIte, Nat.reduceEqDiff, Nat.reduceBEq, reduceCtorEq, Int.reduceBEq, Int.reduceBNe, Int.reduceLT, Int.reduceLE, Int.reduceGT, Int.reduceGE, aggT_36, sizeT_36, bytesT_36, fieldT_36_0, fieldT_36_1, placesT_36, zeroT_36, aggT_30, sizeT_30, bytesT_30, und_30, elemT_30, isSliceT_30, zero1_30, zeroT_30, aggT_34, sizeT_34, bytesT_34, und_34, elemT_34, isSliceT_34, zero1_34, zeroT_34, aggT_3, sizeT_3, bytesT_3, und_3, zero1_3, zeroT_3, h0, hl, Int.toNat_natCast, hk, levD, lenA_vd, c1]
        (refine (r_inLoop_some ?_).trans h; kernel_rfl)) (fun _ => by
      refine ⟨.ret [bV false] [], ?_, _, rfl⟩
      unfold H31a
      simp only [dV, iV, bV, E31]
      (rw [show (It.code L31a) = It.code (sub B31 [1, 1, 0, 1, 0, 0]) from rfl]; simp only [B31, K31a, sub, Option.getD_some, Tryz.f31, ↓reduceIte, Nat.one_ne_zero])
      simp only [zS, nilEq, wantedA, opA, eff, boxA, cells, ev, gt, pt, putO, updO, setO, okC, loadA, cutC, fieldAddrA, fieldA, indexAddrA, indexA, builtinA, callOpA, callV, target, ptrV, lenS, binA, intOp, strOp, unA, num, lk, over, allocA, pickA, buildA, fillA, convertA, extractA, ofComp, nilCheckA, makeFuncA, ptrs, ofValue, cellB, Nat.reduceAdd, Nat.reduceSub, Nat.reduceMul, Nat.reduceLT, Nat.reduceLeDiff, Nat.reduceGT, ↓reduceIte, Nat.reduceEqDiff, Nat.reduceBEq, reduceCtorEq, Int.reduceBEq, Int.reduceBNe, Int.reduceLT, Int.reduceLE, Int.reduceGT, Int.reduceGE, aggT_30, sizeT_30, bytesT_30, und_30, elemT_30, isSliceT_30, zero1_30, zeroT_30, aggT_3, sizeT_3, bytesT_3, und_3, zero1_3, zeroT_3, Int.lt_irrefl]
      (refine Eq.trans ?_ rfl; kernel_rfl)) ()
  obtain ⟨o, h1, b, rfl⟩ := ha
  exact ⟨b, he _ h1⟩
/-! ### Find -/
def isNm (s : ByteArray) (d : Dc) : Bool := d.name.toList == s.toList
def find (t : Tb) (s : ByteArray) : Int := idxI (isNm s) t.ds
def E37 (s : ByteArray) (k : Int) : Env := [(1, sV s), (2, .c (.ptr 0 0)), (5, iV k)]
theorem find37 (hx : ext 37 = none) (x : Tb) (s : ByteArray) (hs : x.ds.length < 2 ^ 50) : run Tryz.prog ext (.call 37 [tbV x, sV s] []) = some (.ret [iV (find x s)] []) := by
  have he : ∀ out, H37a ext 0 (E37 s 0) (O57 x) = out → run Tryz.prog ext (.call 37 [tbV x, sV s] []) = out := by
    intro out h
    unfold H37a at h
    (rw [run_eq]; simp only [stepA, hx, Tryz.func37, Tryz.f37, show retF 37 = false from rfl]; simp only [List.length_cons, List.length_nil, Nat.reduceAdd, Nat.reduceLeDiff, Nat.zero_le, ↓reduceIte, List.zipIdx_cons, List.zipIdx_nil, List.map_cons, List.map_nil])
    simp only [tbV, tbC, sV, iV, E37, O57] at h ⊢
    simp only [zS, nilEq, wantedA, opA, eff, boxA, cells, ev, gt, pt, putO, updO, setO, okC, loadA, cutC, fieldAddrA, fieldA, indexAddrA, indexA, builtinA, callOpA, callV, target, ptrV, lenS, binA, intOp, strOp, unA, num, lk, over, allocA, pickA, buildA, fillA, convertA, extractA, ofComp, nilCheckA, makeFuncA, ptrs, ofValue, cellB, Nat.reduceAdd, Nat.reduceSub, Nat.reduceMul, Nat.reduceLT, Nat.reduceLeDiff, Nat.reduceGT, ↓reduceIte, Nat.reduceEqDiff, Nat.reduceBEq, reduceCtorEq, Int.reduceBEq, Int.reduceBNe, Int.reduceLT, Int.reduceLE, Int.reduceGT, Int.reduceGE, aggT_24, sizeT_24, bytesT_24, fieldT_24_0, placesT_24, zeroT_24, aggT_22, sizeT_22, bytesT_22, und_22, elemT_22, isSliceT_22, zero1_22, zeroT_22, aggT_3, sizeT_3, bytesT_3, und_3, zero1_3, zeroT_3]
    (refine (r_inLoop_some ?_).trans h; kernel_rfl)
  refine he _ ?_
  have := loop_find x.ds (fun k => H37a ext 0 (E37 s k) (O57 x)) (isNm s) (fun k => some (.ret [iV k] [])) (some (.ret [iV (-1)] [])) (by omega) (fun k y hk hl => by
      have h0 : (0 : Int) ≤ k := by omega
      unfold H37a isNm
      refine ⟨fun hp => ?_, fun hp out h => ?_⟩
      · simp only [tbC, dV, iV, sV, E37, O57, dsD_lt h0 hl]
        (rw [show (It.code L37a) = It.code (sub B37 [1, 0, 1, 0, 0]) from rfl]; simp only [B37, K37a, sub, Option.getD_some, Tryz.f37, ↓reduceIte, Nat.one_ne_zero])
        simp only [zS, nilEq, wantedA, opA, eff, boxA, cells, ev, gt, pt, putO, updO, setO, okC, loadA, cutC, fieldAddrA, fieldA, indexAddrA, indexA, builtinA, callOpA, callV, target, ptrV, lenS, binA, intOp, strOp, unA, num, lk, over, allocA, pickA, buildA, fillA, convertA, extractA, ofComp, nilCheckA, makeFuncA, ptrs, ofValue, cellB, Nat.reduceAdd, Nat.reduceSub, Nat.reduceMul, Nat.reduceLT, Nat.reduceLeDiff, Nat.reduceGT, ↓reduceIte, Nat.reduceEqDiff, Nat.reduceBEq, reduceCtorEq, Int.reduceBEq, Int.reduceBNe, Int.reduceLT, Int.reduceLE, Int.reduceGT, Int.reduceGE, aggT_39, sizeT_39, bytesT_39, fieldT_39_0, fieldT_39_1, fieldT_39_2, fieldT_39_3, fieldT_39_4, fieldT_39_5, fieldT_39_6, fieldT_39_7, fieldT_39_8, placesT_39, zeroT_39, aggT_24, sizeT_24, bytesT_24, fieldT_24_0, placesT_24, zeroT_24, aggT_22, sizeT_22, bytesT_22, und_22, elemT_22, isSliceT_22, zero1_22, zeroT_22, aggT_9, sizeT_9, bytesT_9, und_9, zero1_9, zeroT_9, aggT_3, sizeT_3, bytesT_3, und_3, zero1_3, zeroT_3, h0, hl, Int.toNat_natCast, hk, dcD_eq y, hp]
        (refine Eq.trans ?_ rfl; kernel_rfl)
      · simp only [tbC, dV, iV, sV, E37, O57, dsD_lt h0 hl] at h ⊢
        (rw [show (It.code L37a) = It.code (sub B37 [1, 0, 1, 0, 0]) from rfl]; simp only [B37, K37a, sub, Option.getD_some, Tryz.f37, ↓reduceIte, Nat.one_ne_zero])
        simp only [zS, nilEq, wantedA, opA, eff, boxA, cells, ev, gt, pt, putO, updO, setO, okC, loadA, cutC, fieldAddrA, fieldA, indexAddrA, indexA, builtinA, callOpA, callV, target, ptrV, lenS, binA, intOp, strOp, unA, num, lk, over, allocA, pickA, buildA, fillA, convertA, extractA, ofComp, nilCheckA, makeFuncA, ptrs, ofValue, cellB, Nat.reduceAdd, Nat.reduceSub, Nat.reduceMul, Nat.reduceLT, Nat.reduceLeDiff, Nat.reduceGT, ↓reduceIte, Nat.reduceEqDiff, Nat.reduceBEq, reduceCtorEq, Int.reduceBEq, Int.reduceBNe, Int.reduceLT, Int.reduceLE, Int.reduceGT, Int.reduceGE, aggT_39, sizeT_39, bytesT_39, fieldT_39_0, fieldT_39_1, fieldT_39_2, fieldT_39_3, fieldT_39_4, fieldT_39_5, fieldT_39_6, fieldT_39_7, fieldT_39_8, placesT_39, zeroT_39, aggT_24, sizeT_24, bytesT_24, fieldT_24_0, placesT_24, zeroT_24, aggT_22, sizeT_22, bytesT_22, und_22, elemT_22, isSliceT_22, zero1_22, zeroT_22, aggT_9, sizeT_9, bytesT_9, und_9, zero1_9, zeroT_9, aggT_3, sizeT_3, bytesT_3, und_3, zero1_3, zeroT_3, h0, hl, Int.toNat_natCast, hk, dcD_eq y, hp]
        (refine (r_inLoop_some ?_).trans h; kernel_rfl)) (by
      unfold H37a
      simp only [tbC, dV, iV, sV, E37, O57]
      (rw [show (It.code L37a) = It.code (sub B37 [1, 0, 1, 0, 0]) from rfl]; simp only [B37, K37a, sub, Option.getD_some, Tryz.f37, ↓reduceIte, Nat.one_ne_zero])
      simp only [zS, nilEq, wantedA, opA, eff, boxA, cells, ev, gt, pt, putO, updO, setO, okC, loadA, cutC, fieldAddrA, fieldA, indexAddrA, indexA, builtinA, callOpA, callV, target, ptrV, lenS, binA, intOp, strOp, unA, num, lk, over, allocA, pickA, buildA, fillA, convertA, extractA, ofComp, nilCheckA, makeFuncA, ptrs, ofValue, cellB, Nat.reduceAdd, Nat.reduceSub, Nat.reduceMul, Nat.reduceLT, Nat.reduceLeDiff, Nat.reduceGT, ↓reduceIte, Nat.reduceEqDiff, Nat.reduceBEq, reduceCtorEq, Int.reduceBEq, Int.reduceBNe, Int.reduceLT, Int.reduceLE, Int.reduceGT, Int.reduceGE, aggT_24, sizeT_24, bytesT_24, fieldT_24_0, placesT_24, zeroT_24, aggT_22, sizeT_22, bytesT_22, und_22, elemT_22, isSliceT_22, zero1_22, zeroT_22, aggT_3, sizeT_3, bytesT_3, und_3, zero1_3, zeroT_3, lenA_td, Int.lt_irrefl]
      (refine Eq.trans ?_ rfl; kernel_rfl))
  rw [this]
  unfold find idxI
  cases x.ds.findIdx? (isNm s) <;> rfl
def E69 (x : Tb) (k : Int) : Env := [(0, dV x.d), (1, .c (.fn 70 [] [0])), (7, iV x.ds.length), (8, iV k)]
def O69 (s : ByteArray) : List O := [.box [.d (.v (.string s))]]
theorem clo70 (hx : ext 70 = none) (y : Dc) (s : ByteArray) : run Tryz.prog ext (.call 70 [dcV y, .c (.ptr 0 0)] (O69 s)) = some (.ret [bV (isNm s y)] (O69 s)) := by
  (rw [run_eq]; simp only [stepA, hx, Tryz.func70, Tryz.f70, show retF 70 = false from rfl]; simp only [List.length_cons, List.length_nil, Nat.reduceAdd, Nat.reduceLeDiff, Nat.zero_le, ↓reduceIte, List.zipIdx_cons, List.zipIdx_nil, List.map_cons, List.map_nil])
  simp only [dcV, dcC, bV, O69, isNm]
  simp only [zS, nilEq, wantedA, opA, eff, boxA, cells, ev, gt, pt, putO, updO, setO, okC, loadA, cutC, fieldAddrA, fieldA, indexAddrA, indexA, builtinA, callOpA, callV, target, ptrV, lenS, binA, intOp, strOp, unA, num, lk, over, allocA, pickA, buildA, fillA, convertA, extractA, ofComp, nilCheckA, makeFuncA, ptrs, ofValue, cellB, Nat.reduceAdd, Nat.reduceSub, Nat.reduceMul, Nat.reduceLT, Nat.reduceLeDiff, Nat.reduceGT, ↓reduceIte, Nat.reduceEqDiff, Nat.reduceBEq, reduceCtorEq, Int.reduceBEq, Int.reduceBNe, Int.reduceLT, Int.reduceLE, Int.reduceGT, Int.reduceGE, aggT_39, sizeT_39, bytesT_39, fieldT_39_0, fieldT_39_1, fieldT_39_2, fieldT_39_3, fieldT_39_4, fieldT_39_5, fieldT_39_6, fieldT_39_7, fieldT_39_8, placesT_39, zeroT_39, aggT_9, sizeT_9, bytesT_9, und_9, zero1_9, zeroT_9]
  (refine Eq.trans ?_ rfl; kernel_rfl)
theorem idx69 (hx : ext 69 = none) (h70 : ext 70 = none) (x : Tb) (s : ByteArray) (hs : x.ds.length < 2 ^ 50) : run Tryz.prog ext (.call 69 [dV x.d, .c (.fn 70 [] [0])] (O69 s)) = some (.ret [iV (find x s)] (O69 s)) := by
  have he : ∀ out, H69a ext 1 (E69 x 0) (O69 s) = out → run Tryz.prog ext (.call 69 [dV x.d, .c (.fn 70 [] [0])] (O69 s)) = out := by
    intro out h
    unfold H69a at h
    (rw [run_eq]; simp only [stepA, hx, Tryz.func69, Tryz.f69, show retF 69 = false from rfl]; simp only [List.length_cons, List.length_nil, Nat.reduceAdd, Nat.reduceLeDiff, Nat.zero_le, ↓reduceIte, List.zipIdx_cons, List.zipIdx_nil, List.map_cons, List.map_nil])
    simp only [dV, iV, E69, O69] at h ⊢
    simp only [zS, nilEq, wantedA, opA, eff, boxA, cells, ev, gt, pt, putO, updO, setO, okC, loadA, cutC, fieldAddrA, fieldA, indexAddrA, indexA, builtinA, callOpA, callV, target, ptrV, lenS, binA, intOp, strOp, unA, num, lk, over, allocA, pickA, buildA, fillA, convertA, extractA, ofComp, nilCheckA, makeFuncA, ptrs, ofValue, cellB, Nat.reduceAdd, Nat.reduceSub, Nat.reduceMul, Nat.reduceLT, Nat.reduceLeDiff, Nat.reduceGT, ↓reduceIte, Nat.reduceEqDiff, Nat.reduceBEq, reduceCtorEq, Int.reduceBEq, Int.reduceBNe, Int.reduceLT, Int.reduceLE, Int.reduceGT, Int.reduceGE, aggT_22, sizeT_22, bytesT_22, und_22, elemT_22, isSliceT_22, zero1_22, zeroT_22, aggT_3, sizeT_3, bytesT_3, und_3, zero1_3, zeroT_3, lenA_td]
    (refine (r_inLoop_some ?_).trans h; kernel_rfl)
  refine he _ ?_
  have := loop_find x.ds (fun k => H69a ext 1 (E69 x k) (O69 s)) (isNm s) (fun k => some (.ret [iV k] (O69 s))) (some (.ret [iV (-1)] (O69 s))) (by omega) (fun k y hk hl => by
      have h0 : (0 : Int) ≤ k := by omega
      have hr := clo70 ext h70 y s
      have e := callA_of (rec := run Tryz.prog ext) (look := lk (O69 s)) (slot := 1) (f := 70) (args := [dcV y, .c (.ptr 0 0)]) (ids := [0]) (bor := []) (e := ⟨.val (bV (isNm s y)), [(0, .box [.d (.v (.string s))])], [0]⟩) (by kernel_rfl) hr (by kernel_rfl)
      unfold H69a
      refine ⟨fun hp => ?_, fun hp out h => ?_⟩
      · rw [hp] at e
        simp only [dV, iV, bV, dcV, dcC, E69, O69, dsD_lt h0 hl] at e ⊢
        (rw [show (It.code L69a) = It.code (sub B69 [1, 0, 1, 0, 0]) from rfl]; simp only [B69, K69a, sub, Option.getD_some, Tryz.f69, ↓reduceIte, Nat.one_ne_zero])
        simp only [zS, nilEq, wantedA, opA, eff, boxA, cells, ev, gt, pt, putO, updO, setO, okC, loadA, cutC, fieldAddrA, fieldA, indexAddrA, indexA, builtinA, callOpA, callV, target, ptrV, lenS, binA, intOp, strOp, unA, num, lk, over, allocA, pickA, buildA, fillA, convertA, extractA, ofComp, nilCheckA, makeFuncA, ptrs, ofValue, cellB, Nat.reduceAdd, Nat.reduceSub, Nat.reduceMul, Nat.reduceLT, Nat.reduceLeDiff, Nat.reduceGT, ↓reduceIte, Nat.reduceEqDiff, Nat.reduceBEq, reduceCtorEq, Int.reduceBEq, Int.reduceBNe, Int.reduceLT, Int.reduceLE, Int.reduceGT, Int.reduceGE, aggT_39, sizeT_39, bytesT_39, fieldT_39_0, fieldT_39_1, fieldT_39_2, fieldT_39_3, fieldT_39_4, fieldT_39_5, fieldT_39_6, fieldT_39_7, fieldT_39_8, placesT_39, zeroT_39, aggT_22, sizeT_22, bytesT_22, und_22, elemT_22, isSliceT_22, zero1_22, zeroT_22, aggT_3, sizeT_3, bytesT_3, und_3, zero1_3, zeroT_3, h0, hl, Int.toNat_natCast, hk, dcD_eq y, e]
        (refine Eq.trans ?_ rfl; kernel_rfl)
      · rw [hp] at e
        simp only [dV, iV, bV, dcV, dcC, E69, O69, dsD_lt h0 hl] at e h ⊢
        (rw [show (It.code L69a) = It.code (sub B69 [1, 0, 1, 0, 0]) from rfl]; simp only [B69, K69a, sub, Option.getD_some, Tryz.f69, ↓reduceIte, Nat.one_ne_zero])
        simp only [zS, nilEq, wantedA, opA, eff, boxA, cells, ev, gt, pt, putO, updO, setO, okC, loadA, cutC, fieldAddrA, fieldA, indexAddrA, indexA, builtinA, callOpA, callV, target, ptrV, lenS, binA, intOp, strOp, unA, num, lk, over, allocA, pickA, buildA, fillA, convertA, extractA, ofComp, nilCheckA, makeFuncA, ptrs, ofValue, cellB, Nat.reduceAdd, Nat.reduceSub, Nat.reduceMul, Nat.reduceLT, Nat.reduceLeDiff, Nat.reduceGT, ↓reduceIte, Nat.reduceEqDiff, Nat.reduceBEq, reduceCtorEq, Int.reduceBEq, Int.reduceBNe, Int.reduceLT, Int.reduceLE, Int.reduceGT, Int.reduceGE, aggT_39, sizeT_39, bytesT_39, fieldT_39_0, fieldT_39_1, fieldT_39_2, fieldT_39_3, fieldT_39_4, fieldT_39_5, fieldT_39_6, fieldT_39_7, fieldT_39_8, placesT_39, zeroT_39, aggT_22, sizeT_22, bytesT_22, und_22, elemT_22, isSliceT_22, zero1_22, zeroT_22, aggT_3, sizeT_3, bytesT_3, und_3, zero1_3, zeroT_3, h0, hl, Int.toNat_natCast, hk, dcD_eq y, e]
        (refine (r_inLoop_some ?_).trans h; kernel_rfl)) (by
      unfold H69a
      simp only [dV, iV, E69, O69]
      (rw [show (It.code L69a) = It.code (sub B69 [1, 0, 1, 0, 0]) from rfl]; simp only [B69, K69a, sub, Option.getD_some, Tryz.f69, ↓reduceIte, Nat.one_ne_zero])
      simp only [zS, nilEq, wantedA, opA, eff, boxA, cells, ev, gt, pt, putO, updO, setO, okC, loadA, cutC, fieldAddrA, fieldA, indexAddrA, indexA, builtinA, callOpA, callV, target, ptrV, lenS, binA, intOp, strOp, unA, num, lk, over, allocA, pickA, buildA, fillA, convertA, extractA, ofComp, nilCheckA, makeFuncA, ptrs, ofValue, cellB, Nat.reduceAdd, Nat.reduceSub, Nat.reduceMul, Nat.reduceLT, Nat.reduceLeDiff, Nat.reduceGT, ↓reduceIte, Nat.reduceEqDiff, Nat.reduceBEq, reduceCtorEq, Int.reduceBEq, Int.reduceBNe, Int.reduceLT, Int.reduceLE, Int.reduceGT, Int.reduceGE, aggT_22, sizeT_22, bytesT_22, und_22, elemT_22, isSliceT_22, zero1_22, zeroT_22, aggT_3, sizeT_3, bytesT_3, und_3, zero1_3, zeroT_3, Int.lt_irrefl]
      (refine Eq.trans ?_ rfl; kernel_rfl))
  rw [this]
  unfold find idxI
  cases x.ds.findIdx? (isNm s) <;> rfl
theorem find22 (hx : ext 22 = none) (h69 : ext 69 = none) (h70 : ext 70 = none) (x : Tb) (s : ByteArray) (hs : x.ds.length < 2 ^ 50) : run Tryz.prog ext (.call 22 [tbV x, sV s] []) = some (.ret [iV (find x s)] []) := by
  have hr := idx69 ext h69 h70 x s hs
  have e := callA_of (rec := run Tryz.prog ext) (look := lk [.box (tbC x), .box [.d (.v (.string s))]]) (slot := 2) (f := 69) (args := [dV x.d, .c (.fn 70 [] [1])]) (ids := [1]) (bor := []) (e := ⟨.val (iV (find x s)), [(1, .box [.d (.v (.string s))])], [1]⟩) (by kernel_rfl) hr (by kernel_rfl)
  (rw [run_eq]; simp only [stepA, hx, Tryz.func22, Tryz.f22, show retF 22 = false from rfl]; simp only [List.length_cons, List.length_nil, Nat.reduceAdd, Nat.reduceLeDiff, Nat.zero_le, ↓reduceIte, List.zipIdx_cons, List.zipIdx_nil, List.map_cons, List.map_nil])
  simp only [tbV, tbC, dV, iV, sV] at e ⊢
  simp only [zS, nilEq, wantedA, opA, eff, boxA, cells, ev, gt, pt, putO, updO, setO, okC, loadA, cutC, fieldAddrA, fieldA, indexAddrA, indexA, builtinA, callOpA, callV, target, ptrV, lenS, binA, intOp, strOp, unA, num, lk, over, allocA, pickA, buildA, fillA, convertA, extractA, ofComp, nilCheckA, makeFuncA, ptrs, ofValue, cellB, Nat.reduceAdd, Nat.reduceSub, Nat.reduceMul, Nat.reduceLT, Nat.reduceLeDiff, Nat.reduceGT, ↓reduceIte, Nat.reduceEqDiff, Nat.reduceBEq, reduceCtorEq, Int.reduceBEq, Int.reduceBNe, Int.reduceLT, Int.reduceLE, Int.reduceGT, Int.reduceGE, aggT_24, sizeT_24, bytesT_24, fieldT_24_0, placesT_24, zeroT_24, aggT_22, sizeT_22, bytesT_22, und_22, elemT_22, isSliceT_22, zero1_22, zeroT_22, aggT_9, sizeT_9, bytesT_9, und_9, zero1_9, zeroT_9, aggT_3, sizeT_3, bytesT_3, und_3, zero1_3, zeroT_3, e]
  (refine Eq.trans ?_ rfl; kernel_rfl)
end Go.Proofs.YteenjodhmppgjaaGreatDoor.Am
end
