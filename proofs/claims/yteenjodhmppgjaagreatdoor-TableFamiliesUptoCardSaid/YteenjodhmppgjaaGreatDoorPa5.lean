/- Part 5 of the proof of the card of TableFamilies, second form: no statement of its own; no conditions. -/
import Derived.Test.YteenjodhmppgjaaGreatDoorPa4
set_option linter.unusedSimpArgs false
set_option linter.unusedVariables false
set_option linter.defProp false
set_option linter.unusedSectionVars false
section
/- Equality of levels and terms, field by field. -/
namespace Go.Proofs.YteenjodhmppgjaaGreatDoor.Am
open Go
variable (ext : Ext)
set_option maxHeartbeats 8000000
noncomputable def B43 : Code := (Tryz.f43.body.getD .skip)
noncomputable def L43a : Code := sub B43 [1, 1, 0, 1, 0, 0]
noncomputable def K43a : List It := [.inBlock 0, .code (sub B43 [1, 1, 1])]
noncomputable def H43a (ext : Ext) (m : Nat) (env : Env) (loc : List O) : Option Out := run Tryz.prog ext (.k ⟨38, m, [.tmp 4], false⟩ (.code L43a :: .inLoop L43a :: K43a) env loc)
noncomputable def B82 : Code := (Tryz.f82.body.getD .skip)
noncomputable def L82a : Code := sub B82 [1, 1, 0, 1, 0, 0]
noncomputable def K82a : List It := [.inBlock 0, .code (sub B82 [1, 1, 1])]
noncomputable def H82a (ext : Ext) (m : Nat) (env : Env) (loc : List O) : Option Out := run Tryz.prog ext (.k ⟨27, m, [.tmp 4], false⟩ (.code L82a :: .inLoop L82a :: K82a) env loc)
noncomputable def B52 : Code := (Tryz.f52.body.getD .skip)
noncomputable def L52a : Code := sub B52 [1, 1, 0, 1, 0, 0]
noncomputable def K52a : List It := [.inBlock 0, .code (sub B52 [1, 1, 1])]
noncomputable def H52a (ext : Ext) (m : Nat) (env : Env) (loc : List O) : Option Out := run Tryz.prog ext (.k ⟨27, m, [.tmp 4], false⟩ (.code L52a :: .inLoop L52a :: K52a) env loc)
def allR {α β : Type} (R : α → β → Bool) : List α → List β → Bool
  | [], [] => true
  | x :: l, y :: m => R x y && allR R l m
  | _, _ => false
def pairP {α β : Type} (R : α → β → Bool) (m : List β) (k : Nat) (x : α) : Bool := match m[k]? with | some y => !R x y | none => true
theorem pairs_eq {α β : Type} (R : α → β → Bool) : ∀ (l : List α) (pre m : List β), l.length = m.length → (idxFrom (pairP R (pre ++ m)) pre.length l).isNone = allR R l m
  | [], pre, m, h => by
    have : m = [] := List.eq_nil_of_length_eq_zero (by simpa using h.symm)
    subst this; rfl
  | x :: l, pre, [], h => by simp at h
  | x :: l, pre, y :: m, h => by
    have e : pairP R (pre ++ y :: m) pre.length x = !R x y := by
      unfold pairP
      rw [List.getElem?_append_right (by omega), Nat.sub_self]; rfl
    rw [idxFrom, e]
    have ih := pairs_eq R l (pre ++ [y]) m (by simpa using h)
    rw [List.append_assoc, List.singleton_append, List.length_append] at ih
    cases hR : R x y with
    | true => simp only [Bool.not_true, Bool.false_eq_true, if_false, allR, hR, Bool.true_and]; exact ih
    | false => simp [allR, hR]
theorem allR_len {α β : Type} {R : α → β → Bool} : ∀ {l : List α} {m : List β}, allR R l m = true → l.length = m.length
  | [], [], _ => rfl
  | _ :: l, _ :: m, h => by simp only [allR, Bool.and_eq_true] at h; simp [allR_len h.2]
  | [], _ :: _, h => by cases h
  | _ :: _, [], h => by cases h
theorem pairs_res {α β : Type} (R : α → β → Bool) (l : List α) (m : List β) (h : l.length = m.length) : (match idxFrom (pairP R m) 0 l with | some _ => some (Out.ret [bV false] []) | none => some (.ret [bV true] [])) = some (.ret [bV (allR R l m)] []) := by
  have := pairs_eq R l [] m h
  simp only [List.nil_append, List.length_nil] at this
  rw [← this]
  cases idxFrom (pairP R m) 0 l <;> rfl
def eqLV (x y : LV) : Bool := (x.v == y.v) && (x.p == y.p)
def eqLev (x y : Lev) : Bool := (x.c == y.c) && allR eqLV x.vs y.vs
theorem plain110 : plainEq Tryz.prog 110 = true := by kernel_rfl
theorem struct110 (op : BinOp) (a b c d : Int) : structA Tryz.prog op 110 [.d (.v (.int .i64 a)), .d (.v (.int .i64 b))] [.d (.v (.int .i64 c)), .d (.v (.int .i64 d))] = nilEq op ((a == c) && (b == d)) := by
  unfold structA
  rw [if_pos plain110, Tryz.underlying110]
  simp [eqFs, und_3]
/-! ### levels -/
def E43 (k : Int) : Env := [(2, .c (.ptr 0 0)), (3, .c (.ptr 1 0)), (5, iV k)]
def O43 (x y : Lev) : List O := [.box (levC x), .box (levC y)]
theorem eq43 (hx : ext 43 = none) (x y : Lev) (hs : x.vs.length < 2 ^ 50) : run Tryz.prog ext (.call 43 [levV x, levV y] []) = some (.ret [bV (eqLev x y)] []) := by
  unfold eqLev
  by_cases h1 : x.c = y.c
  case neg =>
    have e : (x.c == y.c) = false := by simpa using h1
    rw [e, Bool.false_and]
    (rw [run_eq]; simp only [stepA, hx, Tryz.func43, Tryz.f43, show retF 43 = false from rfl]; simp only [List.length_cons, List.length_nil, Nat.reduceAdd, Nat.reduceLeDiff, Nat.zero_le, ↓reduceIte, List.zipIdx_cons, List.zipIdx_nil, List.map_cons, List.map_nil])
    simp only [levV, levC, bV]
    simp only [zS, nilEq, wantedA, opA, eff, boxA, cells, ev, gt, pt, putO, updO, setO, okC, loadA, cutC, fieldAddrA, fieldA, indexAddrA, indexA, builtinA, callOpA, callV, target, ptrV, lenS, binA, intOp, strOp, unA, num, lk, over, allocA, pickA, buildA, fillA, convertA, extractA, ofComp, nilCheckA, makeFuncA, ptrs, ofValue, cellB, Nat.reduceAdd, Nat.reduceSub, Nat.reduceMul, Nat.reduceLT, Nat.reduceLeDiff, Nat.reduceGT, ↓reduceIte, Nat.reduceEqDiff, Nat.reduceBEq, reduceCtorEq, Int.reduceBEq, Int.reduceBNe, Int.reduceLT, Int.reduceLE, Int.reduceGT, Int.reduceGE, aggT_36, sizeT_36, bytesT_36, fieldT_36_0, fieldT_36_1, placesT_36, zeroT_36, aggT_34, sizeT_34, bytesT_34, und_34, elemT_34, isSliceT_34, zero1_34, zeroT_34, aggT_3, sizeT_3, bytesT_3, und_3, zero1_3, zeroT_3, lenA_vd, h1]
    (refine Eq.trans ?_ rfl; kernel_rfl)
  by_cases h2 : (x.vs.length : Int) = y.vs.length
  case neg =>
    have e : allR eqLV x.vs y.vs = false := by
      cases hh : allR eqLV x.vs y.vs with
      | false => rfl
      | true => have := allR_len hh; omega
    rw [e, Bool.and_false]
    (rw [run_eq]; simp only [stepA, hx, Tryz.func43, Tryz.f43, show retF 43 = false from rfl]; simp only [List.length_cons, List.length_nil, Nat.reduceAdd, Nat.reduceLeDiff, Nat.zero_le, ↓reduceIte, List.zipIdx_cons, List.zipIdx_nil, List.map_cons, List.map_nil])
    simp only [levV, levC, bV]
    simp only [zS, nilEq, wantedA, opA, eff, boxA, cells, ev, gt, pt, putO, updO, setO, okC, loadA, cutC, fieldAddrA, fieldA, indexAddrA, indexA, builtinA, callOpA, callV, target, ptrV, lenS, binA, intOp, strOp, unA, num, lk, over, allocA, pickA, buildA, fillA, convertA, extractA, ofComp, nilCheckA, makeFuncA, ptrs, ofValue, cellB, Nat.reduceAdd, Nat.reduceSub, Nat.reduceMul, Nat.reduceLT, Nat.reduceLeDiff, Nat.reduceGT, ↓reduceIte, Nat.reduceEqDiff, Nat.reduceBEq, reduceCtorEq, Int.reduceBEq, Int.reduceBNe, Int.reduceLT, Int.reduceLE, Int.reduceGT, Int.reduceGE, aggT_36, sizeT_36, bytesT_36, fieldT_36_0, fieldT_36_1, placesT_36, zeroT_36, aggT_34, sizeT_34, bytesT_34, und_34, elemT_34, isSliceT_34, zero1_34, zeroT_34, aggT_3, sizeT_3, bytesT_3, und_3, zero1_3, zeroT_3, lenA_vd, h1, h2]
    (refine Eq.trans ?_ rfl; kernel_rfl)
  have e : (x.c == y.c) = true := by simpa using h1
  rw [e, Bool.true_and]
  have he : ∀ out, H43a ext 0 (E43 0) (O43 x y) = out → run Tryz.prog ext (.call 43 [levV x, levV y] []) = out := by
    intro out h
    unfold H43a at h
    (rw [run_eq]; simp only [stepA, hx, Tryz.func43, Tryz.f43, show retF 43 = false from rfl]; simp only [List.length_cons, List.length_nil, Nat.reduceAdd, Nat.reduceLeDiff, Nat.zero_le, ↓reduceIte, List.zipIdx_cons, List.zipIdx_nil, List.map_cons, List.map_nil])
    simp only [levV, levC, iV, E43, O43, h1] at h ⊢
    simp only [zS, nilEq, wantedA, opA, eff, boxA, cells, ev, gt, pt, putO, updO, setO, okC, loadA, cutC, fieldAddrA, fieldA, indexAddrA, indexA, builtinA, callOpA, callV, target, ptrV, lenS, binA, intOp, strOp, unA, num, lk, over, allocA, pickA, buildA, fillA, convertA, extractA, ofComp, nilCheckA, makeFuncA, ptrs, ofValue, cellB, Nat.reduceAdd, Nat.reduceSub, Nat.reduceMul, Nat.reduceLT, Nat.reduceLeDiff, Nat.reduceGT, ↓reduceIte, Nat.reduceEqDiff, Nat.reduceBEq, reduceCtorEq, Int.reduceBEq, Int.reduceBNe, Int.reduceLT, Int.reduceLE, Int.reduceGT, Int.reduceGE, aggT_36, sizeT_36, bytesT_36, fieldT_36_0, fieldT_36_1, placesT_36, zeroT_36, aggT_34, sizeT_34, bytesT_34, und_34, elemT_34, isSliceT_34, zero1_34, zeroT_34, aggT_3, sizeT_3, bytesT_3, und_3, zero1_3, zeroT_3, lenA_vd, h2]
    (refine (r_inLoop_some ?_).trans h; kernel_rfl)
  refine he _ ?_
  have := loop_findK x.vs (fun k => H43a ext 0 (E43 k) (O43 x y)) (pairP eqLV y.vs) (fun _ => some (.ret [bV false] [])) (some (.ret [bV true] [])) (by omega) (fun k a hk hl => by
      have h0 : (0 : Int) ≤ k := by omega
      have hl2 : (k : Int) < y.vs.length := by omega
      have hlt : k < y.vs.length := by omega
      have hb : y.vs[k]? = some y.vs[k] := by simp [hlt]
      generalize y.vs[k] = b at hb
      have hd : x.d = .s 2 (x.vs.map lvD) := listD_of_lt h0 (by simpa using hl)
      have hd2 : y.d = .s 2 (y.vs.map lvD) := listD_of_lt h0 (by simpa using hl2)
      have hpp : pairP eqLV y.vs k a = !eqLV a b := by unfold pairP; rw [hb]
      unfold H43a
      rw [hpp]
      refine ⟨fun hp => ?_, fun hp out h => ?_⟩
      · have hp' : eqLV a b = false := by simpa using hp
        unfold eqLV at hp'
        simp only [levC, iV, bV, E43, O43, hd, hd2]
        (rw [show (It.code L43a) = It.code (sub B43 [1, 1, 0, 1, 0, 0]) from rfl]; simp only [B43, K43a, sub, Option.getD_some, Tryz.f43, ↓reduceIte, Nat.one_ne_zero])
        simp only [zS, nilEq, wantedA, opA, eff, boxA, cells, ev, gt, pt, putO, updO, setO, okC, loadA, cutC, fieldAddrA, fieldA, indexAddrA, indexA, builtinA, callOpA, callV, target, ptrV, lenS, binA, intOp, strOp, unA, num, lk, over, allocA, pickA, buildA, fillA, convertA, extractA, ofComp, nilCheckA, makeFuncA, ptrs, ofValue, cellB, Nat.reduceAdd, Nat.reduceSub, Nat.reduceMul, Nat.reduceLT, Nat.reduceLeDiff, Nat.reduceGT, ↓reduceIte, Nat.reduceEqDiff, Nat.reduceBEq, reduceCtorEq, Int.reduceBEq, Int.reduceBNe, Int.reduceLT, Int.reduceLE, Int.reduceGT, Int.reduceGE, aggT_36, sizeT_36, bytesT_36, fieldT_36_0, fieldT_36_1, placesT_36, zeroT_36, aggT_34, sizeT_34, bytesT_34, und_34, elemT_34, isSliceT_34, zero1_34, zeroT_34, aggT_110, sizeT_110, bytesT_110, fieldT_110_0, fieldT_110_1, placesT_110, zeroT_110, aggT_3, sizeT_3, bytesT_3, und_3, zero1_3, zeroT_3, drawA, holes_succ, holes_zero, Array.size, List.length, h0, hl, hl2, Int.toNat_natCast, hk, hb, lvD, struct110, hp']
        rw [afterDraw_some _ _ _ _ (by kernel_rfl)]
        simp only [zS, nilEq, wantedA, opA, eff, boxA, cells, ev, gt, pt, putO, updO, setO, okC, loadA, cutC, fieldAddrA, fieldA, indexAddrA, indexA, builtinA, callOpA, callV, target, ptrV, lenS, binA, intOp, strOp, unA, num, lk, over, allocA, pickA, buildA, fillA, convertA, extractA, ofComp, nilCheckA, makeFuncA, ptrs, ofValue, cellB, Nat.reduceAdd, Nat.reduceSub, Nat.reduceMul, Nat.reduceLT, Nat.reduceLeDiff, Nat.reduceGT, ↓reduceIte, Nat.reduceEqDiff, Nat.reduceBEq, reduceCtorEq, Int.reduceBEq, Int.reduceBNe, Int.reduceLT, Int.reduceLE, Int.reduceGT, Int.reduceGE]
        (refine Eq.trans ?_ rfl; kernel_rfl)
      · have hp' : eqLV a b = true := by simpa using hp
        unfold eqLV at hp'
        simp only [levC, iV, bV, E43, O43, hd, hd2] at h ⊢
        (rw [show (It.code L43a) = It.code (sub B43 [1, 1, 0, 1, 0, 0]) from rfl]; simp only [B43, K43a, sub, Option.getD_some, Tryz.f43, ↓reduceIte, Nat.one_ne_zero])
        simp only [zS, nilEq, wantedA, opA, eff, boxA, cells, ev, gt, pt, putO, updO, setO, okC, loadA, cutC, fieldAddrA, fieldA, indexAddrA, indexA, builtinA, callOpA, callV, target, ptrV, lenS, binA, intOp, strOp, unA, num, lk, over, allocA, pickA, buildA, fillA, convertA, extractA, ofComp, nilCheckA, makeFuncA, ptrs, ofValue, cellB, Nat.reduceAdd, Nat.reduceSub, Nat.reduceMul, Nat.reduceLT, Nat.reduceLeDiff, Nat.reduceGT, ↓reduceIte, Nat.reduceEqDiff, Nat.reduceBEq, reduceCtorEq, Int.reduceBEq, Int.reduceBNe, Int.reduceLT, Int.reduceLE, Int.reduceGT, Int.reduceGE, aggT_36, sizeT_36, bytesT_36, fieldT_36_0, fieldT_36_1, placesT_36, zeroT_36, aggT_34, sizeT_34, bytesT_34, und_34, elemT_34, isSliceT_34, zero1_34, zeroT_34, aggT_110, sizeT_110, bytesT_110, fieldT_110_0, fieldT_110_1, placesT_110, zeroT_110, aggT_3, sizeT_3, bytesT_3, und_3, zero1_3, zeroT_3, drawA, holes_succ, holes_zero, Array.size, List.length, h0, hl, hl2, Int.toNat_natCast, hk, hb, lvD, struct110, hp']
        rw [afterDraw_some _ _ _ _ (by kernel_rfl)]
        simp only [zS, nilEq, wantedA, opA, eff, boxA, cells, ev, gt, pt, putO, updO, setO, okC, loadA, cutC, fieldAddrA, fieldA, indexAddrA, indexA, builtinA, callOpA, callV, target, ptrV, lenS, binA, intOp, strOp, unA, num, lk, over, allocA, pickA, buildA, fillA, convertA, extractA, ofComp, nilCheckA, makeFuncA, ptrs, ofValue, cellB, Nat.reduceAdd, Nat.reduceSub, Nat.reduceMul, Nat.reduceLT, Nat.reduceLeDiff, Nat.reduceGT, ↓reduceIte, Nat.reduceEqDiff, Nat.reduceBEq, reduceCtorEq, Int.reduceBEq, Int.reduceBNe, Int.reduceLT, Int.reduceLE, Int.reduceGT, Int.reduceGE]
        (refine (r_inLoop_some ?_).trans h; kernel_rfl)) (by
      unfold H43a
      simp only [levC, iV, bV, E43, O43]
      (rw [show (It.code L43a) = It.code (sub B43 [1, 1, 0, 1, 0, 0]) from rfl]; simp only [B43, K43a, sub, Option.getD_some, Tryz.f43, ↓reduceIte, Nat.one_ne_zero])
      simp only [zS, nilEq, wantedA, opA, eff, boxA, cells, ev, gt, pt, putO, updO, setO, okC, loadA, cutC, fieldAddrA, fieldA, indexAddrA, indexA, builtinA, callOpA, callV, target, ptrV, lenS, binA, intOp, strOp, unA, num, lk, over, allocA, pickA, buildA, fillA, convertA, extractA, ofComp, nilCheckA, makeFuncA, ptrs, ofValue, cellB, Nat.reduceAdd, Nat.reduceSub, Nat.reduceMul, Nat.reduceLT, Nat.reduceLeDiff, Nat.reduceGT, ↓reduceIte, Nat.reduceEqDiff, Nat.reduceBEq, reduceCtorEq, Int.reduceBEq, Int.reduceBNe, Int.reduceLT, Int.reduceLE, Int.reduceGT, Int.reduceGE, aggT_36, sizeT_36, bytesT_36, fieldT_36_0, fieldT_36_1, placesT_36, zeroT_36, aggT_34, sizeT_34, bytesT_34, und_34, elemT_34, isSliceT_34, zero1_34, zeroT_34, aggT_3, sizeT_3, bytesT_3, und_3, zero1_3, zeroT_3, lenA_vd, Int.lt_irrefl]
      (refine Eq.trans ?_ rfl; kernel_rfl))
  rw [this]
  exact pairs_res eqLV x.vs y.vs (by omega)
def E82 (a b : D) (k : Int) : Env := [(0, dV a), (1, dV b), (5, iV k)]
theorem eq82 (hx : ext 82 = none) (h43 : ext 43 = none) (z z' : Bool) (l m : List Lev) (hs : l.length < 2 ^ 50) (hs2 : ∀ x ∈ l, x.vs.length < 2 ^ 50) : run Tryz.prog ext (.call 82 [dV (listD z 2 (l.map levD)), dV (listD z' 2 (m.map levD))] []) = some (.ret [bV (allR eqLev l m)] []) := by
  by_cases h2 : (l.length : Int) = m.length
  case neg =>
    have e : allR eqLev l m = false := by
      cases hh : allR eqLev l m with
      | false => rfl
      | true => have := allR_len hh; omega
    rw [e]
    (rw [run_eq]; simp only [stepA, hx, Tryz.func82, Tryz.f82, show retF 82 = false from rfl]; simp only [List.length_cons, List.length_nil, Nat.reduceAdd, Nat.reduceLeDiff, Nat.zero_le, ↓reduceIte, List.zipIdx_cons, List.zipIdx_nil, List.map_cons, List.map_nil])
    simp only [dV, bV]
    simp only [zS, nilEq, wantedA, opA, eff, boxA, cells, ev, gt, pt, putO, updO, setO, okC, loadA, cutC, fieldAddrA, fieldA, indexAddrA, indexA, builtinA, callOpA, callV, target, ptrV, lenS, binA, intOp, strOp, unA, num, lk, over, allocA, pickA, buildA, fillA, convertA, extractA, ofComp, nilCheckA, makeFuncA, ptrs, ofValue, cellB, Nat.reduceAdd, Nat.reduceSub, Nat.reduceMul, Nat.reduceLT, Nat.reduceLeDiff, Nat.reduceGT, ↓reduceIte, Nat.reduceEqDiff, Nat.reduceBEq, reduceCtorEq, Int.reduceBEq, Int.reduceBNe, Int.reduceLT, Int.reduceLE, Int.reduceGT, Int.reduceGE, aggT_30, sizeT_30, bytesT_30, und_30, elemT_30, isSliceT_30, zero1_30, zeroT_30, aggT_3, sizeT_3, bytesT_3, und_3, zero1_3, zeroT_3, h2]
    (refine Eq.trans ?_ rfl; kernel_rfl)
  have he : ∀ out, H82a ext 0 (E82 (listD z 2 (l.map levD)) (listD z' 2 (m.map levD)) 0) [] = out → run Tryz.prog ext (.call 82 [dV (listD z 2 (l.map levD)), dV (listD z' 2 (m.map levD))] []) = out := by
    intro out h
    unfold H82a at h
    (rw [run_eq]; simp only [stepA, hx, Tryz.func82, Tryz.f82, show retF 82 = false from rfl]; simp only [List.length_cons, List.length_nil, Nat.reduceAdd, Nat.reduceLeDiff, Nat.zero_le, ↓reduceIte, List.zipIdx_cons, List.zipIdx_nil, List.map_cons, List.map_nil])
    simp only [dV, iV, E82] at h ⊢
    simp only [zS, nilEq, wantedA, opA, eff, boxA, cells, ev, gt, pt, putO, updO, setO, okC, loadA, cutC, fieldAddrA, fieldA, indexAddrA, indexA, builtinA, callOpA, callV, target, ptrV, lenS, binA, intOp, strOp, unA, num, lk, over, allocA, pickA, buildA, fillA, convertA, extractA, ofComp, nilCheckA, makeFuncA, ptrs, ofValue, cellB, Nat.reduceAdd, Nat.reduceSub, Nat.reduceMul, Nat.reduceLT, Nat.reduceLeDiff, Nat.reduceGT, ↓reduceIte, Nat.reduceEqDiff, Nat.reduceBEq, reduceCtorEq, Int.reduceBEq, Int.reduceBNe, Int.reduceLT, Int.reduceLE, Int.reduceGT, Int.reduceGE, aggT_30, sizeT_30, bytesT_30, und_30, elemT_30, isSliceT_30, zero1_30, zeroT_30, aggT_3, sizeT_3, bytesT_3, und_3, zero1_3, zeroT_3, h2]
    (refine (r_inLoop_some ?_).trans h; kernel_rfl)
  refine he _ ?_
  have := loop_findK l (fun k => H82a ext 0 (E82 (listD z 2 (l.map levD)) (listD z' 2 (m.map levD)) k) []) (pairP eqLev m) (fun _ => some (.ret [bV false] [])) (some (.ret [bV true] [])) (by omega) (fun k a hk hl => by
      have h0 : (0 : Int) ≤ k := by omega
      have hl2 : (k : Int) < m.length := by omega
      have hlt : k < m.length := by omega
      have hb : m[k]? = some m[k] := by simp [hlt]
      generalize m[k] = b at hb
      have hd : listD z 2 (l.map levD) = .s 2 (l.map levD) := listD_of_lt h0 (by simpa using hl)
      have hd2 : listD z' 2 (m.map levD) = .s 2 (m.map levD) := listD_of_lt h0 (by simpa using hl2)
      have hpp : pairP eqLev m k a = !eqLev a b := by unfold pairP; rw [hb]
      have hr := eq43 ext h43 a b (hs2 a (List.mem_of_getElem? hk))
      unfold H82a
      rw [hpp]
      refine ⟨fun hp => ?_, fun hp out h => ?_⟩
      · have hp' : eqLev a b = false := by simpa using hp
        rw [hp'] at hr
        simp only [levV, levC, dV, iV, bV, E82, hd, hd2] at hr ⊢
        (rw [show (It.code L82a) = It.code (sub B82 [1, 1, 0, 1, 0, 0]) from rfl]; simp only [B82, K82a, sub, Option.getD_some, Tryz.f82, ↓reduceIte, Nat.one_ne_zero])
        simp only [zS, nilEq, wantedA, opA, eff, boxA, cells, ev, gt, pt, putO, updO, setO, okC, loadA, cutC, fieldAddrA, fieldA, indexAddrA, indexA, builtinA, callOpA, callV, target, ptrV, lenS, binA, intOp, strOp, unA, num, lk, over, allocA, pickA, buildA, fillA, convertA, extractA, ofComp, nilCheckA, makeFuncA, ptrs, ofValue, cellB, Nat.reduceAdd, Nat.reduceSub, Nat.reduceMul, Nat.reduceLT, Nat.reduceLeDiff, Nat.reduceGT, ↓reduceIte, Nat.reduceEqDiff, Nat.reduceBEq, reduceCtorEq, Int.reduceBEq, Int.reduceBNe, Int.reduceLT, Int.reduceLE, Int.reduceGT, Int.reduceGE, aggT_36, sizeT_36, bytesT_36, fieldT_36_0, fieldT_36_1, placesT_36, zeroT_36, aggT_30, sizeT_30, bytesT_30, und_30, elemT_30, isSliceT_30, zero1_30, zeroT_30, aggT_3, sizeT_3, bytesT_3, und_3, zero1_3, zeroT_3, drawA, holes_succ, holes_zero, Array.size, List.length, h0, hl, hl2, Int.toNat_natCast, hk, hb, levD, hr]
        rw [afterDraw_some _ _ _ _ (by kernel_rfl)]
        simp only [zS, nilEq, wantedA, opA, eff, boxA, cells, ev, gt, pt, putO, updO, setO, okC, loadA, cutC, fieldAddrA, fieldA, indexAddrA, indexA, builtinA, callOpA, callV, target, ptrV, lenS, binA, intOp, strOp, unA, num, lk, over, allocA, pickA, buildA, fillA, convertA, extractA, ofComp, nilCheckA, makeFuncA, ptrs, ofValue, cellB, Nat.reduceAdd, Nat.reduceSub, Nat.reduceMul, Nat.reduceLT, Nat.reduceLeDiff, Nat.reduceGT, ↓reduceIte, Nat.reduceEqDiff, Nat.reduceBEq, reduceCtorEq, Int.reduceBEq, Int.reduceBNe, Int.reduceLT, Int.reduceLE, Int.reduceGT, Int.reduceGE]
        (refine Eq.trans ?_ rfl; kernel_rfl)
      · have hp' : eqLev a b = true := by simpa using hp
        rw [hp'] at hr
        simp only [levV, levC, dV, iV, bV, E82, hd, hd2] at hr h ⊢
        (rw [show (It.code L82a) = It.code (sub B82 [1, 1, 0, 1, 0, 0]) from rfl]; simp only [B82, K82a, sub, Option.getD_some, Tryz.f82, ↓reduceIte, Nat.one_ne_zero])
        simp only [zS, nilEq, wantedA, opA, eff, boxA, cells, ev, gt, pt, putO, updO, setO, okC, loadA, cutC, fieldAddrA, fieldA, indexAddrA, indexA, builtinA, callOpA, callV, target, ptrV, lenS, binA, intOp, strOp, unA, num, lk, over, allocA, pickA, buildA, fillA, convertA, extractA, ofComp, nilCheckA, makeFuncA, ptrs, ofValue, cellB, Nat.reduceAdd, Nat.reduceSub, Nat.reduceMul, Nat.reduceLT, Nat.reduceLeDiff, Nat.reduceGT, ↓reduceIte, Nat.reduceEqDiff, Nat.reduceBEq, reduceCtorEq, Int.reduceBEq, Int.reduceBNe, Int.reduceLT, Int.reduceLE, Int.reduceGT, Int.reduceGE, aggT_36, sizeT_36, bytesT_36, fieldT_36_0, fieldT_36_1, placesT_36, zeroT_36, aggT_30, sizeT_30, bytesT_30, und_30, elemT_30, isSliceT_30, zero1_30, zeroT_30, aggT_3, sizeT_3, bytesT_3, und_3, zero1_3, zeroT_3, drawA, holes_succ, holes_zero, Array.size, List.length, h0, hl, hl2, Int.toNat_natCast, hk, hb, levD, hr]
        rw [afterDraw_some _ _ _ _ (by kernel_rfl)]
        simp only [zS, nilEq, wantedA, opA, eff, boxA, cells, ev, gt, pt, putO, updO, setO, okC, loadA, cutC, fieldAddrA, fieldA, indexAddrA, indexA, builtinA, callOpA, callV, target, ptrV, lenS, binA, intOp, strOp, unA, num, lk, over, allocA, pickA, buildA, fillA, convertA, extractA, ofComp, nilCheckA, makeFuncA, ptrs, ofValue, cellB, Nat.reduceAdd, Nat.reduceSub, Nat.reduceMul, Nat.reduceLT, Nat.reduceLeDiff, Nat.reduceGT, ↓reduceIte, Nat.reduceEqDiff, Nat.reduceBEq, reduceCtorEq, Int.reduceBEq, Int.reduceBNe, Int.reduceLT, Int.reduceLE, Int.reduceGT, Int.reduceGE]
        (refine (r_inLoop_some ?_).trans h; kernel_rfl)) (by
      unfold H82a
      simp only [dV, iV, bV, E82]
      (rw [show (It.code L82a) = It.code (sub B82 [1, 1, 0, 1, 0, 0]) from rfl]; simp only [B82, K82a, sub, Option.getD_some, Tryz.f82, ↓reduceIte, Nat.one_ne_zero])
      simp only [zS, nilEq, wantedA, opA, eff, boxA, cells, ev, gt, pt, putO, updO, setO, okC, loadA, cutC, fieldAddrA, fieldA, indexAddrA, indexA, builtinA, callOpA, callV, target, ptrV, lenS, binA, intOp, strOp, unA, num, lk, over, allocA, pickA, buildA, fillA, convertA, extractA, ofComp, nilCheckA, makeFuncA, ptrs, ofValue, cellB, Nat.reduceAdd, Nat.reduceSub, Nat.reduceMul, Nat.reduceLT, Nat.reduceLeDiff, Nat.reduceGT, ↓reduceIte, Nat.reduceEqDiff, Nat.reduceBEq, reduceCtorEq, Int.reduceBEq, Int.reduceBNe, Int.reduceLT, Int.reduceLE, Int.reduceGT, Int.reduceGE, aggT_30, sizeT_30, bytesT_30, und_30, elemT_30, isSliceT_30, zero1_30, zeroT_30, aggT_3, sizeT_3, bytesT_3, und_3, zero1_3, zeroT_3, Int.lt_irrefl]
      (refine Eq.trans ?_ rfl; kernel_rfl))
  rw [this]
  exact pairs_res eqLev l m (by omega)
/-! ### terms -/
def eqTm : Tm → Tm → Bool
  | .mk op n s u _ l _, b => (op == b.op) && ((n == b.n) && ((s.toList == b.s.toList) && (allR eqLev u b.u && eqTms l b.l)))
where eqTms : List Tm → List Tm → Bool
  | [], [] => true
  | x :: l, y :: m => eqTm x y && eqTms l m
  | _, _ => false
theorem eqTms_eq : ∀ (l m : List Tm), eqTm.eqTms l m = allR eqTm l m
  | [], [] => rfl
  | _ :: l, _ :: m => by simp only [eqTm.eqTms, allR, eqTms_eq l m]
  | [], _ :: _ => rfl
  | _ :: _, [] => rfl
theorem eqTm_eq (a b : Tm) : eqTm a b = ((a.op == b.op) && ((a.n == b.n) && ((a.s.toList == b.s.toList) && (allR eqLev a.u b.u && allR eqTm a.l b.l)))) := by
  cases a; simp only [eqTm, eqTms_eq, Tm.op, Tm.n, Tm.s, Tm.u, Tm.l]
theorem eq52 (hx : ext 52 = none) (l m : List Tm) (z z' : Bool) (hs : l.length < 2 ^ 50) (hr' : ∀ x ∈ l, ∀ y, run Tryz.prog ext (.call 36 [tmV x, tmV y] []) = some (.ret [bV (eqTm x y)] [])) : run Tryz.prog ext (.call 52 [dV (listD z 5 (l.map tmD)), dV (listD z' 5 (m.map tmD))] []) = some (.ret [bV (allR eqTm l m)] []) := by
  by_cases h2 : (l.length : Int) = m.length
  case neg =>
    have e : allR eqTm l m = false := by
      cases hh : allR eqTm l m with
      | false => rfl
      | true => have := allR_len hh; omega
    rw [e]
    (rw [run_eq]; simp only [stepA, hx, Tryz.func52, Tryz.f52, show retF 52 = false from rfl]; simp only [List.length_cons, List.length_nil, Nat.reduceAdd, Nat.reduceLeDiff, Nat.zero_le, ↓reduceIte, List.zipIdx_cons, List.zipIdx_nil, List.map_cons, List.map_nil])
    simp only [dV, bV]
    simp only [zS, nilEq, wantedA, opA, eff, boxA, cells, ev, gt, pt, putO, updO, setO, okC, loadA, cutC, fieldAddrA, fieldA, indexAddrA, indexA, builtinA, callOpA, callV, target, ptrV, lenS, binA, intOp, strOp, unA, num, lk, over, allocA, pickA, buildA, fillA, convertA, extractA, ofComp, nilCheckA, makeFuncA, ptrs, ofValue, cellB, Nat.reduceAdd, Nat.reduceSub, Nat.reduceMul, Nat.reduceLT, Nat.reduceLeDiff, Nat.reduceGT, ↓reduceIte, Nat.reduceEqDiff, Nat.reduceBEq, reduceCtorEq, Int.reduceBEq, Int.reduceBNe, Int.reduceLT, Int.reduceLE, Int.reduceGT, Int.reduceGE, aggT_31, sizeT_31, bytesT_31, und_31, elemT_31, isSliceT_31, zero1_31, zeroT_31, aggT_3, sizeT_3, bytesT_3, und_3, zero1_3, zeroT_3, h2]
    (refine Eq.trans ?_ rfl; kernel_rfl)
  have he : ∀ out, H52a ext 0 (E82 (listD z 5 (l.map tmD)) (listD z' 5 (m.map tmD)) 0) [] = out → run Tryz.prog ext (.call 52 [dV (listD z 5 (l.map tmD)), dV (listD z' 5 (m.map tmD))] []) = out := by
    intro out h
    unfold H52a at h
    (rw [run_eq]; simp only [stepA, hx, Tryz.func52, Tryz.f52, show retF 52 = false from rfl]; simp only [List.length_cons, List.length_nil, Nat.reduceAdd, Nat.reduceLeDiff, Nat.zero_le, ↓reduceIte, List.zipIdx_cons, List.zipIdx_nil, List.map_cons, List.map_nil])
    simp only [dV, iV, E82] at h ⊢
    simp only [zS, nilEq, wantedA, opA, eff, boxA, cells, ev, gt, pt, putO, updO, setO, okC, loadA, cutC, fieldAddrA, fieldA, indexAddrA, indexA, builtinA, callOpA, callV, target, ptrV, lenS, binA, intOp, strOp, unA, num, lk, over, allocA, pickA, buildA, fillA, convertA, extractA, ofComp, nilCheckA, makeFuncA, ptrs, ofValue, cellB, Nat.reduceAdd, Nat.reduceSub, Nat.reduceMul, Nat.reduceLT, Nat.reduceLeDiff, Nat.reduceGT, ↓reduceIte, Nat.reduceEqDiff, Nat.reduceBEq, reduceCtorEq, Int.reduceBEq, Int.reduceBNe, Int.reduceLT, Int.reduceLE, Int.reduceGT, Int.reduceGE, aggT_31, sizeT_31, bytesT_31, und_31, elemT_31, isSliceT_31, zero1_31, zeroT_31, aggT_3, sizeT_3, bytesT_3, und_3, zero1_3, zeroT_3, h2]
    (refine (r_inLoop_some ?_).trans h; kernel_rfl)
  refine he _ ?_
  have := loop_findK l (fun k => H52a ext 0 (E82 (listD z 5 (l.map tmD)) (listD z' 5 (m.map tmD)) k) []) (pairP eqTm m) (fun _ => some (.ret [bV false] [])) (some (.ret [bV true] [])) (by omega) (fun k a hk hl => by
      have h0 : (0 : Int) ≤ k := by omega
      have hl2 : (k : Int) < m.length := by omega
      have hlt : k < m.length := by omega
      have hb : m[k]? = some m[k] := by simp [hlt]
      generalize m[k] = b at hb
      have hd : listD z 5 (l.map tmD) = .s 5 (l.map tmD) := listD_of_lt h0 (by simpa using hl)
      have hd2 : listD z' 5 (m.map tmD) = .s 5 (m.map tmD) := listD_of_lt h0 (by simpa using hl2)
      have hpp : pairP eqTm m k a = !eqTm a b := by unfold pairP; rw [hb]
      have hr := hr' a (List.mem_of_getElem? hk) b
      unfold H52a
      rw [hpp]
      refine ⟨fun hp => ?_, fun hp out h => ?_⟩
      · have hp' : eqTm a b = false := by simpa using hp
        rw [hp'] at hr
        simp only [tmV, tmC, dV, iV, bV, E82, hd, hd2] at hr ⊢
        (rw [show (It.code L52a) = It.code (sub B52 [1, 1, 0, 1, 0, 0]) from rfl]; simp only [B52, K52a, sub, Option.getD_some, Tryz.f52, ↓reduceIte, Nat.one_ne_zero])
        simp only [zS, nilEq, wantedA, opA, eff, boxA, cells, ev, gt, pt, putO, updO, setO, okC, loadA, cutC, fieldAddrA, fieldA, indexAddrA, indexA, builtinA, callOpA, callV, target, ptrV, lenS, binA, intOp, strOp, unA, num, lk, over, allocA, pickA, buildA, fillA, convertA, extractA, ofComp, nilCheckA, makeFuncA, ptrs, ofValue, cellB, Nat.reduceAdd, Nat.reduceSub, Nat.reduceMul, Nat.reduceLT, Nat.reduceLeDiff, Nat.reduceGT, ↓reduceIte, Nat.reduceEqDiff, Nat.reduceBEq, reduceCtorEq, Int.reduceBEq, Int.reduceBNe, Int.reduceLT, Int.reduceLE, Int.reduceGT, Int.reduceGE, aggT_33, sizeT_33, bytesT_33, fieldT_33_0, fieldT_33_1, fieldT_33_2, fieldT_33_3, fieldT_33_4, placesT_33, zeroT_33, aggT_31, sizeT_31, bytesT_31, und_31, elemT_31, isSliceT_31, zero1_31, zeroT_31, aggT_3, sizeT_3, bytesT_3, und_3, zero1_3, zeroT_3, drawA, holes_succ, holes_zero, Array.size, List.length, h0, hl, hl2, Int.toNat_natCast, hk, hb, tmD_eq a, tmD_eq b, hr]
        rw [afterDraw_some _ _ _ _ (by kernel_rfl)]
        simp only [zS, nilEq, wantedA, opA, eff, boxA, cells, ev, gt, pt, putO, updO, setO, okC, loadA, cutC, fieldAddrA, fieldA, indexAddrA, indexA, builtinA, callOpA, callV, target, ptrV, lenS, binA, intOp, strOp, unA, num, lk, over, allocA, pickA, buildA, fillA, convertA, extractA, ofComp, nilCheckA, makeFuncA, ptrs, ofValue, cellB, Nat.reduceAdd, Nat.reduceSub, Nat.reduceMul, Nat.reduceLT, Nat.reduceLeDiff, Nat.reduceGT, ↓reduceIte, Nat.reduceEqDiff, Nat.reduceBEq, reduceCtorEq, Int.reduceBEq, Int.reduceBNe, Int.reduceLT, Int.reduceLE, Int.reduceGT, Int.reduceGE]
        (refine Eq.trans ?_ rfl; kernel_rfl)
      · have hp' : eqTm a b = true := by simpa using hp
        rw [hp'] at hr
        simp only [tmV, tmC, dV, iV, bV, E82, hd, hd2] at hr h ⊢
        (rw [show (It.code L52a) = It.code (sub B52 [1, 1, 0, 1, 0, 0]) from rfl]; simp only [B52, K52a, sub, Option.getD_some, Tryz.f52, ↓reduceIte, Nat.one_ne_zero])
        simp only [zS, nilEq, wantedA, opA, eff, boxA, cells, ev, gt, pt, putO, updO, setO, okC, loadA, cutC, fieldAddrA, fieldA, indexAddrA, indexA, builtinA, callOpA, callV, target, ptrV, lenS, binA, intOp, strOp, unA, num, lk, over, allocA, pickA, buildA, fillA, convertA, extractA, ofComp, nilCheckA, makeFuncA, ptrs, ofValue, cellB, Nat.reduceAdd, Nat.reduceSub, Nat.reduceMul, Nat.reduceLT, Nat.reduceLeDiff, Nat.reduceGT, ↓reduceIte, Nat.reduceEqDiff, Nat.reduceBEq, reduceCtorEq, Int.reduceBEq, Int.reduceBNe, Int.reduceLT, Int.reduceLE, Int.reduceGT, Int.reduceGE, aggT_33, sizeT_33, bytesT_33, fieldT_33_0, fieldT_33_1, fieldT_33_2, fieldT_33_3, fieldT_33_4, placesT_33, zeroT_33, aggT_31, sizeT_31, bytesT_31, und_31, elemT_31, isSliceT_31, zero1_31, zeroT_31, aggT_3, sizeT_3, bytesT_3, und_3, zero1_3, zeroT_3, drawA, holes_succ, holes_zero, Array.size, List.length, h0, hl, hl2, Int.toNat_natCast, hk, hb, tmD_eq a, tmD_eq b, hr]
        rw [afterDraw_some _ _ _ _ (by kernel_rfl)]
        simp only [zS, nilEq, wantedA, opA, eff, boxA, cells, ev, gt, pt, putO, updO, setO, okC, loadA, cutC, fieldAddrA, fieldA, indexAddrA, indexA, builtinA, callOpA, callV, target, ptrV, lenS, binA, intOp, strOp, unA, num, lk, over, allocA, pickA, buildA, fillA, convertA, extractA, ofComp, nilCheckA, makeFuncA, ptrs, ofValue, cellB, Nat.reduceAdd, Nat.reduceSub, Nat.reduceMul, Nat.reduceLT, Nat.reduceLeDiff, Nat.reduceGT, ↓reduceIte, Nat.reduceEqDiff, Nat.reduceBEq, reduceCtorEq, Int.reduceBEq, Int.reduceBNe, Int.reduceLT, Int.reduceLE, Int.reduceGT, Int.reduceGE]
        (refine (r_inLoop_some ?_).trans h; kernel_rfl)) (by
      unfold H52a
      simp only [dV, iV, bV, E82]
      (rw [show (It.code L52a) = It.code (sub B52 [1, 1, 0, 1, 0, 0]) from rfl]; simp only [B52, K52a, sub, Option.getD_some, Tryz.f52, ↓reduceIte, Nat.one_ne_zero])
      simp only [zS, nilEq, wantedA, opA, eff, boxA, cells, ev, gt, pt, putO, updO, setO, okC, loadA, cutC, fieldAddrA, fieldA, indexAddrA, indexA, builtinA, callOpA, callV, target, ptrV, lenS, binA, intOp, strOp, unA, num, lk, over, allocA, pickA, buildA, fillA, convertA, extractA, ofComp, nilCheckA, makeFuncA, ptrs, ofValue, cellB, Nat.reduceAdd, Nat.reduceSub, Nat.reduceMul, Nat.reduceLT, Nat.reduceLeDiff, Nat.reduceGT, ↓reduceIte, Nat.reduceEqDiff, Nat.reduceBEq, reduceCtorEq, Int.reduceBEq, Int.reduceBNe, Int.reduceLT, Int.reduceLE, Int.reduceGT, Int.reduceGE, aggT_31, sizeT_31, bytesT_31, und_31, elemT_31, isSliceT_31, zero1_31, zeroT_31, aggT_3, sizeT_3, bytesT_3, und_3, zero1_3, zeroT_3, Int.lt_irrefl]
      (refine Eq.trans ?_ rfl; kernel_rfl))
  rw [this]
  exact pairs_res eqTm l m (by omega)
theorem eq36 (hx : ext 36 = none) (h43 : ext 43 = none) (h82 : ext 82 = none) (h52 : ext 52 = none) : ∀ (N : Nat) (a b : Tm), a.sz ≤ N → N < 2 ^ 50 → run Tryz.prog ext (.call 36 [tmV a, tmV b] []) = some (.ret [bV (eqTm a b)] [])
  | 0, a, b, h, _ => by have := a.sz_pos; omega
  | N + 1, a, b, h, hN => by
    have hul := a.ulen_lt
    have hll := a.len_lt
    have r82 := eq82 ext h82 h43 a.zu b.zu a.u b.u (by omega) (fun x hx => by have := Tm.lev_lt hx; unfold Lev.sz at this; omega)
    have r52 := eq52 ext h52 a.l b.l a.zl b.zl (by omega) (fun x hm y => eq36 hx h43 h82 h52 N x y (by have := Tm.sz_lt hm; omega) (by omega))
    rw [eqTm_eq]
    have ea : listD a.zu 2 (a.u.map levD) = a.uD := id rfl
    have eb : listD b.zu 2 (b.u.map levD) = b.uD := id rfl
    have ec : listD a.zl 5 (a.l.map tmD) = a.lD := id rfl
    have ed : listD b.zl 5 (b.l.map tmD) = b.lD := id rfl
    simp only [ea, eb, dV] at r82
    simp only [ec, ed, dV] at r52
    cases c1 : (a.op == b.op) with
    | false =>
      rw [Bool.false_and]
      (rw [run_eq]; simp only [stepA, hx, Tryz.func36, Tryz.f36, show retF 36 = false from rfl]; simp only [List.length_cons, List.length_nil, Nat.reduceAdd, Nat.reduceLeDiff, Nat.zero_le, ↓reduceIte, List.zipIdx_cons, List.zipIdx_nil, List.map_cons, List.map_nil])
      simp only [tmV, tmC, bV]
      simp only [zS, nilEq, wantedA, opA, eff, boxA, cells, ev, gt, pt, putO, updO, setO, okC, loadA, cutC, fieldAddrA, fieldA, indexAddrA, indexA, builtinA, callOpA, callV, target, ptrV, lenS, binA, intOp, strOp, unA, num, lk, over, allocA, pickA, buildA, fillA, convertA, extractA, ofComp, nilCheckA, makeFuncA, ptrs, ofValue, cellB, Nat.reduceAdd, Nat.reduceSub, Nat.reduceMul, Nat.reduceLT, Nat.reduceLeDiff, Nat.reduceGT, ↓reduceIte, Nat.reduceEqDiff, Nat.reduceBEq, reduceCtorEq, Int.reduceBEq, Int.reduceBNe, Int.reduceLT, Int.reduceLE, Int.reduceGT, Int.reduceGE, aggT_33, sizeT_33, bytesT_33, fieldT_33_0, fieldT_33_1, fieldT_33_2, fieldT_33_3, fieldT_33_4, placesT_33, zeroT_33, aggT_9, sizeT_9, bytesT_9, und_9, zero1_9, zeroT_9, aggT_3, sizeT_3, bytesT_3, und_3, zero1_3, zeroT_3, c1]
      (refine Eq.trans ?_ rfl; kernel_rfl)
    | true =>
    rw [Bool.true_and]
    cases c2 : (a.n == b.n) with
    | false =>
      rw [Bool.false_and]
      (rw [run_eq]; simp only [stepA, hx, Tryz.func36, Tryz.f36, show retF 36 = false from rfl]; simp only [List.length_cons, List.length_nil, Nat.reduceAdd, Nat.reduceLeDiff, Nat.zero_le, ↓reduceIte, List.zipIdx_cons, List.zipIdx_nil, List.map_cons, List.map_nil])
      simp only [tmV, tmC, bV]
      simp only [zS, nilEq, wantedA, opA, eff, boxA, cells, ev, gt, pt, putO, updO, setO, okC, loadA, cutC, fieldAddrA, fieldA, indexAddrA, indexA, builtinA, callOpA, callV, target, ptrV, lenS, binA, intOp, strOp, unA, num, lk, over, allocA, pickA, buildA, fillA, convertA, extractA, ofComp, nilCheckA, makeFuncA, ptrs, ofValue, cellB, Nat.reduceAdd, Nat.reduceSub, Nat.reduceMul, Nat.reduceLT, Nat.reduceLeDiff, Nat.reduceGT, ↓reduceIte, Nat.reduceEqDiff, Nat.reduceBEq, reduceCtorEq, Int.reduceBEq, Int.reduceBNe, Int.reduceLT, Int.reduceLE, Int.reduceGT, Int.reduceGE, aggT_33, sizeT_33, bytesT_33, fieldT_33_0, fieldT_33_1, fieldT_33_2, fieldT_33_3, fieldT_33_4, placesT_33, zeroT_33, aggT_9, sizeT_9, bytesT_9, und_9, zero1_9, zeroT_9, aggT_3, sizeT_3, bytesT_3, und_3, zero1_3, zeroT_3, c1, c2]
      (refine Eq.trans ?_ rfl; kernel_rfl)
    | true =>
    rw [Bool.true_and]
    cases c3 : (a.s.toList == b.s.toList) with
    | false =>
      rw [Bool.false_and]
      (rw [run_eq]; simp only [stepA, hx, Tryz.func36, Tryz.f36, show retF 36 = false from rfl]; simp only [List.length_cons, List.length_nil, Nat.reduceAdd, Nat.reduceLeDiff, Nat.zero_le, ↓reduceIte, List.zipIdx_cons, List.zipIdx_nil, List.map_cons, List.map_nil])
      simp only [tmV, tmC, bV]
      simp only [zS, nilEq, wantedA, opA, eff, boxA, cells, ev, gt, pt, putO, updO, setO, okC, loadA, cutC, fieldAddrA, fieldA, indexAddrA, indexA, builtinA, callOpA, callV, target, ptrV, lenS, binA, intOp, strOp, unA, num, lk, over, allocA, pickA, buildA, fillA, convertA, extractA, ofComp, nilCheckA, makeFuncA, ptrs, ofValue, cellB, Nat.reduceAdd, Nat.reduceSub, Nat.reduceMul, Nat.reduceLT, Nat.reduceLeDiff, Nat.reduceGT, ↓reduceIte, Nat.reduceEqDiff, Nat.reduceBEq, reduceCtorEq, Int.reduceBEq, Int.reduceBNe, Int.reduceLT, Int.reduceLE, Int.reduceGT, Int.reduceGE, aggT_33, sizeT_33, bytesT_33, fieldT_33_0, fieldT_33_1, fieldT_33_2, fieldT_33_3, fieldT_33_4, placesT_33, zeroT_33, aggT_9, sizeT_9, bytesT_9, und_9, zero1_9, zeroT_9, aggT_3, sizeT_3, bytesT_3, und_3, zero1_3, zeroT_3, c1, c2, c3]
      (refine Eq.trans ?_ rfl; kernel_rfl)
    | true =>
    rw [Bool.true_and]
    cases c4 : allR eqLev a.u b.u with
    | false =>
      rw [Bool.false_and]
      rw [c4] at r82
      (rw [run_eq]; simp only [stepA, hx, Tryz.func36, Tryz.f36, show retF 36 = false from rfl]; simp only [List.length_cons, List.length_nil, Nat.reduceAdd, Nat.reduceLeDiff, Nat.zero_le, ↓reduceIte, List.zipIdx_cons, List.zipIdx_nil, List.map_cons, List.map_nil])
      simp only [tmV, tmC, bV] at r82 ⊢
      simp only [zS, nilEq, wantedA, opA, eff, boxA, cells, ev, gt, pt, putO, updO, setO, okC, loadA, cutC, fieldAddrA, fieldA, indexAddrA, indexA, builtinA, callOpA, callV, target, ptrV, lenS, binA, intOp, strOp, unA, num, lk, over, allocA, pickA, buildA, fillA, convertA, extractA, ofComp, nilCheckA, makeFuncA, ptrs, ofValue, cellB, Nat.reduceAdd, Nat.reduceSub, Nat.reduceMul, Nat.reduceLT, Nat.reduceLeDiff, Nat.reduceGT, ↓reduceIte, Nat.reduceEqDiff, Nat.reduceBEq, reduceCtorEq, Int.reduceBEq, Int.reduceBNe, Int.reduceLT, Int.reduceLE, Int.reduceGT, Int.reduceGE, aggT_33, sizeT_33, bytesT_33, fieldT_33_0, fieldT_33_1, fieldT_33_2, fieldT_33_3, fieldT_33_4, placesT_33, zeroT_33, aggT_9, sizeT_9, bytesT_9, und_9, zero1_9, zeroT_9, aggT_30, sizeT_30, bytesT_30, und_30, elemT_30, isSliceT_30, zero1_30, zeroT_30, aggT_3, sizeT_3, bytesT_3, und_3, zero1_3, zeroT_3, c1, c2, c3, r82]
      (refine Eq.trans ?_ rfl; kernel_rfl)
    | true =>
    rw [Bool.true_and]
    rw [c4] at r82
    (rw [run_eq]; simp only [stepA, hx, Tryz.func36, Tryz.f36, show retF 36 = false from rfl]; simp only [List.length_cons, List.length_nil, Nat.reduceAdd, Nat.reduceLeDiff, Nat.zero_le, ↓reduceIte, List.zipIdx_cons, List.zipIdx_nil, List.map_cons, List.map_nil])
    simp only [tmV, tmC, bV] at r82 r52 ⊢
    simp only [zS, nilEq, wantedA, opA, eff, boxA, cells, ev, gt, pt, putO, updO, setO, okC, loadA, cutC, fieldAddrA, fieldA, indexAddrA, indexA, builtinA, callOpA, callV, target, ptrV, lenS, binA, intOp, strOp, unA, num, lk, over, allocA, pickA, buildA, fillA, convertA, extractA, ofComp, nilCheckA, makeFuncA, ptrs, ofValue, cellB, Nat.reduceAdd, Nat.reduceSub, Nat.reduceMul, Nat.reduceLT, Nat.reduceLeDiff, Nat.reduceGT, ↓reduceIte, Nat.reduceEqDiff, Nat.reduceBEq, reduceCtorEq, Int.reduceBEq, Int.reduceBNe, Int.reduceLT, Int.reduceLE, Int.reduceGT, Int.reduceGE, aggT_33, sizeT_33, bytesT_33, fieldT_33_0, fieldT_33_1, fieldT_33_2, fieldT_33_3, fieldT_33_4, placesT_33, zeroT_33, aggT_9, sizeT_9, bytesT_9, und_9, zero1_9, zeroT_9, aggT_30, sizeT_30, bytesT_30, und_30, elemT_30, isSliceT_30, zero1_30, zeroT_30, aggT_31, sizeT_31, bytesT_31, und_31, elemT_31, isSliceT_31, zero1_31, zeroT_31, aggT_3, sizeT_3, bytesT_3, und_3, zero1_3, zeroT_3, c1, c2, c3, r82, r52]
    (refine Eq.trans ?_ rfl; kernel_rfl)
end Go.Proofs.YteenjodhmppgjaaGreatDoor.Am
end
section
/- SetLevels, by the program and by the reference. -/
namespace Go.Proofs.YteenjodhmppgjaaGreatDoor.Am
open Go
variable (ext : Ext)
set_option maxHeartbeats 8000000
noncomputable def B79 : Code := (Tryz.f79.body.getD .skip)
noncomputable def L79a : Code := sub B79 [1, 1, 0, 1, 0, 0]
noncomputable def K79a : List It := [.inBlock 0, .code (sub B79 [1, 1, 1])]
noncomputable def H79a (ext : Ext) (m : Nat) (env : Env) (loc : List O) : Option Out := run Tryz.prog ext (.k ⟨65, m, [.cell 4 33, .tmp 5], false⟩ (.code L79a :: .inLoop L79a :: K79a) env loc)
noncomputable def L79b : Code := sub B79 [1, 1, 1, 1, 0, 1, 0, 0]
noncomputable def K79b : List It := [.inBlock 2, .code (sub B79 [1, 1, 1, 1, 1])]
noncomputable def H79b (ext : Ext) (m : Nat) (env : Env) (loc : List O) : Option Out := run Tryz.prog ext (.k ⟨65, m, [.cell 4 33, .tmp 5], false⟩ (.code L79b :: .inLoop L79b :: K79b) env loc)
noncomputable def B81 : Code := (Tryz.f81.body.getD .skip)
noncomputable def L81a : Code := sub B81 [1, 1, 0, 1, 0, 0]
noncomputable def K81a : List It := [.inBlock 0, .code (sub B81 [1, 1, 1])]
noncomputable def H81a (ext : Ext) (m : Nat) (env : Env) (loc : List O) : Option Out := run Tryz.prog ext (.k ⟨75, m, [.cell 4 33, .tmp 5], false⟩ (.code L81a :: .inLoop L81a :: K81a) env loc)
noncomputable def L81b : Code := sub B81 [1, 1, 1, 0, 1, 0, 0]
noncomputable def K81b : List It := [.inBlock 2, .code (sub B81 [1, 1, 1, 1])]
noncomputable def H81b (ext : Ext) (m : Nat) (env : Env) (loc : List O) : Option Out := run Tryz.prog ext (.k ⟨75, m, [.cell 4 33, .tmp 5], false⟩ (.code L81b :: .inLoop L81b :: K81b) env loc)
def zTm : Tm := .mk 0 0 ⟨#[]⟩ [] true [] true
theorem tmC_z : tmC zTm = [.d (.v (.int .i64 0)), .d (.v (.int .i64 0)), .d (.v (.string ⟨#[]⟩)), .d (.v (.slice none 0 0)), .d (.v (.slice none 0 0))] := rfl
theorem levD_eq (x : Lev) : levD x = [.v (.int .i64 x.c), x.d] := rfl
theorem bsLev {look : Look} {slot : Nat} {a : Int} {x : D} : buildSliceA Tryz.prog look slot 30 1 [(0, .agg [.d (.v (.int .i64 a)), .d x])] = some ⟨.val (.c (.own slot)), [(slot, .arr 2 [[.v (.int .i64 a), x]])], []⟩ :=
  bs_one (cs := [.d (.v (.int .i64 a)), .d x]) elemT_30 sizeT_36 i30 rfl rfl rfl (by decide) (by decide)
theorem bsTm {look : Look} {slot : Nat} {a b : Int} {s : ByteArray} {x y : D} : buildSliceA Tryz.prog look slot 31 1 [(0, .agg [.d (.v (.int .i64 a)), .d (.v (.int .i64 b)), .d (.v (.string s)), .d x, .d y])] = some ⟨.val (.c (.own slot)), [(slot, .arr 5 [[.v (.int .i64 a), .v (.int .i64 b), .v (.string s), x, y]])], []⟩ :=
  bs_one (cs := [.d (.v (.int .i64 a)), .d (.v (.int .i64 b)), .d (.v (.string s)), .d x, .d y]) elemT_31 sizeT_33 i31 rfl rfl rfl (by decide) (by decide)
theorem callOut_vi (slot : Nat) (cs : List C) (n : Int) (h : cs.all dataC = true) : callOut [] [] slot (some (.ret [.agg cs, .c (.d (.v (.int .i64 n)))] [])) = some ⟨.val (.tup [(true, cs), (false, [.d (.v (.int .i64 n))])]), [], []⟩ := by
  obtain ⟨_, _, h3⟩ := argCs_data (look := fun _ => none) h
  simp only [callOut, answer, mapO, renV, h3, renC, results1, comp, List.length_nil, Nat.lt_irrefl, if_false]
  split <;> rfl
def mapE {α β : Type} (f : α → β × Int) : List α → List β ⊕ Int
  | [] => .inl []
  | x :: l => if (f x).2 = 0 then match mapE f l with | .inl r => .inl ((f x).1 :: r) | .inr e => .inr e else .inr (f x).2
def setL (f : Lev → Lev × Int) : Tm → Tm × Int
  | .mk op n s u _ l _ => match mapE f u with
    | .inr e => (zTm, e)
    | .inl u' => match setLs f l with
      | .inr e => (zTm, e)
      | .inl l' => (.mk op n s u' true l' true, 0)
where setLs (f : Lev → Lev × Int) : List Tm → List Tm ⊕ Int
  | [] => .inl []
  | x :: l => if (setL f x).2 = 0 then match setLs f l with | .inl r => .inl ((setL f x).1 :: r) | .inr e => .inr e else .inr (setL f x).2
theorem setLs_eq (f : Lev → Lev × Int) : ∀ l : List Tm, setL.setLs f l = mapE (setL f) l
  | [] => rfl
  | x :: l => by
    rw [setL.setLs, mapE, setLs_eq f l]
    by_cases h : (setL f x).2 = 0
    · rw [if_pos h, if_pos h]; cases mapE (setL f) l <;> rfl
    · rw [if_neg h, if_neg h]
theorem setL_eq (f : Lev → Lev × Int) (x : Tm) : setL f x = match mapE f x.u with
    | .inr e => (zTm, e)
    | .inl u' => match mapE (setL f) x.l with
      | .inr e => (zTm, e)
      | .inl l' => (.mk x.op x.n x.s u' true l' true, 0) := by
  cases x; simp only [setL, setLs_eq, Tm.op, Tm.n, Tm.s, Tm.u, Tm.l]
/-- A loop that makes a list, or ends with an error. -/
theorem loop_mapE {α β : Type} (f : α → β × Int) (l : List α) (S : Int → List β → Option Out) (bad : Int → Option Out) (fin : List β → Option Out) (hl : l.length < 2 ^ 50)
    (hstep : ∀ (k : Nat) (x : α) (els : List β), l[k]? = some x → (k : Int) < l.length → els.length = k → ((f x).2 = 0 → ∀ out, S (wr ((k : Int) + 1)) (els ++ [(f x).1]) = out → S k els = out) ∧ (¬ (f x).2 = 0 → S k els = bad (f x).2))
    (hdone : ∀ els, els.length = l.length → S l.length els = fin els) : S 0 [] = match mapE f l with | .inl r => fin r | .inr e => bad e := by
  have key : ∀ (m k : Nat) (els : List β), k + m = l.length → els.length = k → S k els = match mapE f (l.drop k) with | .inl r => fin (els ++ r) | .inr e => bad e := by
    intro m
    induction m with
    | zero =>
      intro k els hk he
      rw [List.drop_eq_nil_of_le (by omega), show k = l.length by omega]
      simp only [mapE, List.append_nil]
      exact hdone els (by omega)
    | succ m ih =>
      intro k els hk he
      have hlt : k < l.length := by omega
      rw [List.drop_eq_getElem_cons hlt, mapE]
      obtain ⟨h1, h2⟩ := hstep k l[k] els (by simp [hlt]) (by omega) he
      by_cases h0 : (f l[k]).2 = 0
      · rw [if_pos h0]
        refine h1 h0 _ ?_
        rw [wr_id (by omega) (by omega), show ((k : Int) + 1) = ((k + 1 : Nat) : Int) by omega, ih (k + 1) _ (by omega) (by simp [he])]
        cases mapE f (l.drop (k + 1)) with
        | inl r => simp
        | inr e => rfl
      · rw [if_neg h0]; exact h2 h0
  simpa using key l.length 0 [] (by omega) rfl
/-! ### by the program -/
def E79a (b : D) (x : Tm) (us : List Lev) (k : Int) : Env := [(1, dV b), (2, .c (.ptr 0 0)), (4, .c (.ptr 1 0)), (6, mkV 2 (us.map levD)), (17, dV x.uD), (18, iV x.u.length), (19, iV k)]
def O79a (x : Tm) (us : List Lev) : List O := .box (tmC x) :: .box (tmC zTm) :: mkO 2 (us.map levD)
theorem enter79 (hx : ext 79 = none) (b : D) (x : Tm) (out : Option Out) (h : H79a ext 0 (E79a b x [] 0) (O79a x []) = out) : run Tryz.prog ext (.call 79 [tmV x, dV b] []) = out := by
  unfold H79a at h
  (rw [run_eq]; simp only [stepA, hx, Tryz.func79, Tryz.f79, show retF 79 = false from rfl]; simp only [List.length_cons, List.length_nil, Nat.reduceAdd, Nat.reduceLeDiff, Nat.zero_le, ↓reduceIte, List.zipIdx_cons, List.zipIdx_nil, List.map_cons, List.map_nil])
  simp only [tmV, tmC_z, tmC, dV, iV, E79a, O79a, List.map_nil, mkV_nil, mkO_nil] at h ⊢
  simp only [zS, nilEq, wantedA, opA, eff, boxA, cells, ev, gt, pt, putO, updO, setO, okC, loadA, cutC, fieldAddrA, fieldA, indexAddrA, indexA, builtinA, callOpA, callV, target, ptrV, lenS, binA, intOp, strOp, unA, num, lk, over, allocA, pickA, buildA, fillA, convertA, extractA, ofComp, nilCheckA, makeFuncA, ptrs, ofValue, cellB, Nat.reduceAdd, Nat.reduceSub, Nat.reduceMul, Nat.reduceLT, Nat.reduceLeDiff, Nat.reduceGT, ↓reduceIte, Nat.reduceEqDiff, Nat.reduceBEq, reduceCtorEq, Int.reduceBEq, Int.reduceBNe, Int.reduceLT, Int.reduceLE, Int.reduceGT, Int.reduceGE, aggT_33, sizeT_33, bytesT_33, fieldT_33_0, fieldT_33_1, fieldT_33_2, fieldT_33_3, fieldT_33_4, placesT_33, zeroT_33, aggT_30, sizeT_30, bytesT_30, und_30, elemT_30, isSliceT_30, zero1_30, zeroT_30, aggT_3, sizeT_3, bytesT_3, und_3, zero1_3, zeroT_3, lenA_uD]
  (refine (r_inLoop_some ?_).trans h; kernel_rfl)
theorem step79a (b : D) (x : Tm) (u y : Lev) (us : List Lev) (k : Nat) (hb : us.length < 2 ^ 29) (hk : x.u[k]? = some u) (hl : (k : Int) < x.u.length) (hr : run Tryz.prog ext (.call 84 [levV u, dV b] []) = some (.ret [levV y, iV 0] [])) (out : Option Out)
    (h : H79a ext 0 (E79a b x (us ++ [y]) (wr ((k : Int) + 1))) (O79a x (us ++ [y])) = out) : H79a ext 0 (E79a b x us k) (O79a x us) = out := by
  have h0 : (0 : Int) ≤ k := by omega
  unfold H79a at h ⊢
  cases us with
  | nil =>
    simp only [levV, levC, tmC_z, tmC, dV, iV, E79a, O79a, uD_lt hl, List.map_append, List.map_cons, List.map_nil, mkV_snoc, mkO_snoc, mkV_nil, mkO_nil, List.nil_append, levD_eq y] at h hr ⊢
    (rw [show (It.code L79a) = It.code (sub B79 [1, 1, 0, 1, 0, 0]) from rfl]; simp only [B79, K79a, sub, Option.getD_some, Tryz.f79, ↓reduceIte, Nat.one_ne_zero])
    simp only [zS, nilEq, wantedA, opA, eff, boxA, cells, ev, gt, pt, putO, updO, setO, okC, loadA, cutC, fieldAddrA, fieldA, indexAddrA, indexA, builtinA, callOpA, callV, target, ptrV, lenS, binA, intOp, strOp, unA, num, lk, over, allocA, pickA, buildA, fillA, convertA, extractA, ofComp, nilCheckA, makeFuncA, ptrs, ofValue, cellB, Nat.reduceAdd, Nat.reduceSub, Nat.reduceMul, Nat.reduceLT, Nat.reduceLeDiff, Nat.reduceGT, ↓reduceIte, Nat.reduceEqDiff, Nat.reduceBEq, reduceCtorEq, Int.reduceBEq, Int.reduceBNe, Int.reduceLT, Int.reduceLE, Int.reduceGT, Int.reduceGE, aggT_33, sizeT_33, bytesT_33, fieldT_33_0, fieldT_33_1, fieldT_33_2, fieldT_33_3, fieldT_33_4, placesT_33, zeroT_33, aggT_36, sizeT_36, bytesT_36, fieldT_36_0, fieldT_36_1, placesT_36, zeroT_36, aggT_30, sizeT_30, bytesT_30, und_30, elemT_30, isSliceT_30, zero1_30, zeroT_30, aggT_3, sizeT_3, bytesT_3, und_3, zero1_3, zeroT_3, h0, hl, Int.toNat_natCast, hk, levD_eq u, hr, callOut_vi, bsLev, no30, apH_arr, Nat.zero_le]
    (refine (r_inLoop_some ?_).trans h; kernel_rfl)
  | cons a r =>
    have hb' : r.length + 1 ≤ 1000000000 := by simp only [List.length_cons] at hb; omega
    simp only [levV, levC, tmC_z, tmC, dV, iV, E79a, O79a, uD_lt hl, List.map_append, List.map_cons, List.map_nil, mkV_snoc, mkO_snoc, mkV_cons, mkO_cons, List.cons_append, List.nil_append, levD_eq y] at h hr ⊢
    (rw [show (It.code L79a) = It.code (sub B79 [1, 1, 0, 1, 0, 0]) from rfl]; simp only [B79, K79a, sub, Option.getD_some, Tryz.f79, ↓reduceIte, Nat.one_ne_zero])
    simp only [zS, nilEq, wantedA, opA, eff, boxA, cells, ev, gt, pt, putO, updO, setO, okC, loadA, cutC, fieldAddrA, fieldA, indexAddrA, indexA, builtinA, callOpA, callV, target, ptrV, lenS, binA, intOp, strOp, unA, num, lk, over, allocA, pickA, buildA, fillA, convertA, extractA, ofComp, nilCheckA, makeFuncA, ptrs, ofValue, cellB, Nat.reduceAdd, Nat.reduceSub, Nat.reduceMul, Nat.reduceLT, Nat.reduceLeDiff, Nat.reduceGT, ↓reduceIte, Nat.reduceEqDiff, Nat.reduceBEq, reduceCtorEq, Int.reduceBEq, Int.reduceBNe, Int.reduceLT, Int.reduceLE, Int.reduceGT, Int.reduceGE, aggT_33, sizeT_33, bytesT_33, fieldT_33_0, fieldT_33_1, fieldT_33_2, fieldT_33_3, fieldT_33_4, placesT_33, zeroT_33, aggT_36, sizeT_36, bytesT_36, fieldT_36_0, fieldT_36_1, placesT_36, zeroT_36, aggT_30, sizeT_30, bytesT_30, und_30, elemT_30, isSliceT_30, zero1_30, zeroT_30, aggT_3, sizeT_3, bytesT_3, und_3, zero1_3, zeroT_3, h0, hl, Int.toNat_natCast, hk, levD_eq u, hr, callOut_vi, bsLev, oo30, apG_arr, hb']
    (refine (r_inLoop_some ?_).trans h; kernel_rfl)
theorem bad79a (b : D) (x : Tm) (u y : Lev) (us : List Lev) (e : Int) (k : Nat) (hk : x.u[k]? = some u) (hl : (k : Int) < x.u.length) (hr : run Tryz.prog ext (.call 84 [levV u, dV b] []) = some (.ret [levV y, iV e] [])) (he : ¬ e = 0) : H79a ext 0 (E79a b x us k) (O79a x us) = some (.ret [tmV zTm, iV e] []) := by
  have h0 : (0 : Int) ≤ k := by omega
  unfold H79a
  cases us with
  | nil =>
    simp only [levV, levC, tmV, tmC_z, tmC, dV, iV, E79a, O79a, uD_lt hl, List.map_nil, mkV_nil, mkO_nil] at hr ⊢
    (rw [show (It.code L79a) = It.code (sub B79 [1, 1, 0, 1, 0, 0]) from rfl]; simp only [B79, K79a, sub, Option.getD_some, Tryz.f79, ↓reduceIte, Nat.one_ne_zero])
    simp only [zS, nilEq, wantedA, opA, eff, boxA, cells, ev, gt, pt, putO, updO, setO, okC, loadA, cutC, fieldAddrA, fieldA, indexAddrA, indexA, builtinA, callOpA, callV, target, ptrV, lenS, binA, intOp, strOp, unA, num, lk, over, allocA, pickA, buildA, fillA, convertA, extractA, ofComp, nilCheckA, makeFuncA, ptrs, ofValue, cellB, Nat.reduceAdd, Nat.reduceSub, Nat.reduceMul, Nat.reduceLT, Nat.reduceLeDiff, Nat.reduceGT, ↓reduceIte, Nat.reduceEqDiff, Nat.reduceBEq, reduceCtorEq, Int.reduceBEq, Int.reduceBNe, Int.reduceLT, Int.reduceLE, Int.reduceGT, Int.reduceGE, aggT_33, sizeT_33, bytesT_33, fieldT_33_0, fieldT_33_1, fieldT_33_2, fieldT_33_3, fieldT_33_4, placesT_33, zeroT_33, aggT_36, sizeT_36, bytesT_36, fieldT_36_0, fieldT_36_1, placesT_36, zeroT_36, aggT_30, sizeT_30, bytesT_30, und_30, elemT_30, isSliceT_30, zero1_30, zeroT_30, aggT_3, sizeT_3, bytesT_3, und_3, zero1_3, zeroT_3, aggT_27, sizeT_27, bytesT_27, und_27, zero1_27, zeroT_27, h0, hl, Int.toNat_natCast, hk, levD_eq u, hr, callOut_vi, he]
    (refine Eq.trans ?_ rfl; kernel_rfl)
  | cons a r =>
    simp only [levV, levC, tmV, tmC_z, tmC, dV, iV, E79a, O79a, uD_lt hl, List.map_cons, mkV_cons, mkO_cons] at hr ⊢
    (rw [show (It.code L79a) = It.code (sub B79 [1, 1, 0, 1, 0, 0]) from rfl]; simp only [B79, K79a, sub, Option.getD_some, Tryz.f79, ↓reduceIte, Nat.one_ne_zero])
    simp only [zS, nilEq, wantedA, opA, eff, boxA, cells, ev, gt, pt, putO, updO, setO, okC, loadA, cutC, fieldAddrA, fieldA, indexAddrA, indexA, builtinA, callOpA, callV, target, ptrV, lenS, binA, intOp, strOp, unA, num, lk, over, allocA, pickA, buildA, fillA, convertA, extractA, ofComp, nilCheckA, makeFuncA, ptrs, ofValue, cellB, Nat.reduceAdd, Nat.reduceSub, Nat.reduceMul, Nat.reduceLT, Nat.reduceLeDiff, Nat.reduceGT, ↓reduceIte, Nat.reduceEqDiff, Nat.reduceBEq, reduceCtorEq, Int.reduceBEq, Int.reduceBNe, Int.reduceLT, Int.reduceLE, Int.reduceGT, Int.reduceGE, aggT_33, sizeT_33, bytesT_33, fieldT_33_0, fieldT_33_1, fieldT_33_2, fieldT_33_3, fieldT_33_4, placesT_33, zeroT_33, aggT_36, sizeT_36, bytesT_36, fieldT_36_0, fieldT_36_1, placesT_36, zeroT_36, aggT_30, sizeT_30, bytesT_30, und_30, elemT_30, isSliceT_30, zero1_30, zeroT_30, aggT_3, sizeT_3, bytesT_3, und_3, zero1_3, zeroT_3, aggT_27, sizeT_27, bytesT_27, und_27, zero1_27, zeroT_27, h0, hl, Int.toNat_natCast, hk, levD_eq u, hr, callOut_vi, he]
    (refine Eq.trans ?_ rfl; kernel_rfl)
def ixU (us : List Lev) : Nat := match us with | [] => 2 | _ :: _ => 3
def E79b (b : D) (x : Tm) (us : List Lev) (ls : List Tm) (k : Int) : Env := [(1, dV b), (2, .c (.ptr 0 0)), (4, .c (.ptr 1 0)), (6, mkV 2 (us.map levD)), (11, mkV (ixU us) (ls.map tmD)), (39, dV x.lD), (40, iV x.l.length), (41, iV k)]
def O79b (x : Tm) (us : List Lev) (ls : List Tm) : List O := .box (tmC x) :: .box (tmC zTm) :: (mkO 2 (us.map levD) ++ mkO 5 (ls.map tmD))
theorem mid79 (b : D) (x : Tm) (us : List Lev) (out : Option Out) (h : H79b ext 0 (E79b b x us [] 0) (O79b x us []) = out) : H79a ext 0 (E79a b x us x.u.length) (O79a x us) = out := by
  unfold H79b at h
  unfold H79a
  cases us with
  | nil =>
    simp only [tmC_z, tmC, dV, iV, E79a, O79a, E79b, O79b, ixU, List.map_nil, mkV_nil, mkO_nil, List.append_nil] at h ⊢
    (rw [show (It.code L79a) = It.code (sub B79 [1, 1, 0, 1, 0, 0]) from rfl]; simp only [B79, K79a, sub, Option.getD_some, Tryz.f79, ↓reduceIte, Nat.one_ne_zero])
    simp only [zS, nilEq, wantedA, opA, eff, boxA, cells, ev, gt, pt, putO, updO, setO, okC, loadA, cutC, fieldAddrA, fieldA, indexAddrA, indexA, builtinA, callOpA, callV, target, ptrV, lenS, binA, intOp, strOp, unA, num, lk, over, allocA, pickA, buildA, fillA, convertA, extractA, ofComp, nilCheckA, makeFuncA, ptrs, ofValue, cellB, Nat.reduceAdd, Nat.reduceSub, Nat.reduceMul, Nat.reduceLT, Nat.reduceLeDiff, Nat.reduceGT, ↓reduceIte, Nat.reduceEqDiff, Nat.reduceBEq, reduceCtorEq, Int.reduceBEq, Int.reduceBNe, Int.reduceLT, Int.reduceLE, Int.reduceGT, Int.reduceGE, aggT_33, sizeT_33, bytesT_33, fieldT_33_0, fieldT_33_1, fieldT_33_2, fieldT_33_3, fieldT_33_4, placesT_33, zeroT_33, aggT_31, sizeT_31, bytesT_31, und_31, elemT_31, isSliceT_31, zero1_31, zeroT_31, aggT_3, sizeT_3, bytesT_3, und_3, zero1_3, zeroT_3, lenA_lD, Int.lt_irrefl]
    (refine (r_inLoop_some ?_).trans h; kernel_rfl)
  | cons a r =>
    simp only [tmC_z, tmC, dV, iV, E79a, O79a, E79b, O79b, ixU, List.map_nil, List.map_cons, mkV_nil, mkO_nil, mkV_cons, mkO_cons, List.append_nil] at h ⊢
    (rw [show (It.code L79a) = It.code (sub B79 [1, 1, 0, 1, 0, 0]) from rfl]; simp only [B79, K79a, sub, Option.getD_some, Tryz.f79, ↓reduceIte, Nat.one_ne_zero])
    simp only [zS, nilEq, wantedA, opA, eff, boxA, cells, ev, gt, pt, putO, updO, setO, okC, loadA, cutC, fieldAddrA, fieldA, indexAddrA, indexA, builtinA, callOpA, callV, target, ptrV, lenS, binA, intOp, strOp, unA, num, lk, over, allocA, pickA, buildA, fillA, convertA, extractA, ofComp, nilCheckA, makeFuncA, ptrs, ofValue, cellB, Nat.reduceAdd, Nat.reduceSub, Nat.reduceMul, Nat.reduceLT, Nat.reduceLeDiff, Nat.reduceGT, ↓reduceIte, Nat.reduceEqDiff, Nat.reduceBEq, reduceCtorEq, Int.reduceBEq, Int.reduceBNe, Int.reduceLT, Int.reduceLE, Int.reduceGT, Int.reduceGE, aggT_33, sizeT_33, bytesT_33, fieldT_33_0, fieldT_33_1, fieldT_33_2, fieldT_33_3, fieldT_33_4, placesT_33, zeroT_33, aggT_31, sizeT_31, bytesT_31, und_31, elemT_31, isSliceT_31, zero1_31, zeroT_31, aggT_3, sizeT_3, bytesT_3, und_3, zero1_3, zeroT_3, lenA_lD, Int.lt_irrefl]
    (refine (r_inLoop_some ?_).trans h; kernel_rfl)
theorem step79b (b : D) (x t y : Tm) (us : List Lev) (ls : List Tm) (k : Nat) (hb : ls.length < 2 ^ 29) (hk : x.l[k]? = some t) (hl : (k : Int) < x.l.length) (hr : run Tryz.prog ext (.call 79 [tmV t, dV b] []) = some (.ret [tmV y, iV 0] [])) (out : Option Out)
    (h : H79b ext 0 (E79b b x us (ls ++ [y]) (wr ((k : Int) + 1))) (O79b x us (ls ++ [y])) = out) : H79b ext 0 (E79b b x us ls k) (O79b x us ls) = out := by
  have h0 : (0 : Int) ≤ k := by omega
  unfold H79b at h ⊢
  cases us with
  | nil =>
    cases ls with
    | nil =>
      simp only [tmV, tmC_z, tmC, dV, iV, E79b, O79b, ixU, lD_lt hl, List.map_append, List.map_cons, List.map_nil, mkV_snoc, mkO_snoc, mkV_nil, mkO_nil, List.nil_append, tmD_eq y] at h hr ⊢
      (rw [show (It.code L79b) = It.code (sub B79 [1, 1, 1, 1, 0, 1, 0, 0]) from rfl]; simp only [B79, K79b, sub, Option.getD_some, Tryz.f79, ↓reduceIte, Nat.one_ne_zero])
      simp only [zS, nilEq, wantedA, opA, eff, boxA, cells, ev, gt, pt, putO, updO, setO, okC, loadA, cutC, fieldAddrA, fieldA, indexAddrA, indexA, builtinA, callOpA, callV, target, ptrV, lenS, binA, intOp, strOp, unA, num, lk, over, allocA, pickA, buildA, fillA, convertA, extractA, ofComp, nilCheckA, makeFuncA, ptrs, ofValue, cellB, Nat.reduceAdd, Nat.reduceSub, Nat.reduceMul, Nat.reduceLT, Nat.reduceLeDiff, Nat.reduceGT, ↓reduceIte, Nat.reduceEqDiff, Nat.reduceBEq, reduceCtorEq, Int.reduceBEq, Int.reduceBNe, Int.reduceLT, Int.reduceLE, Int.reduceGT, Int.reduceGE, aggT_33, sizeT_33, bytesT_33, fieldT_33_0, fieldT_33_1, fieldT_33_2, fieldT_33_3, fieldT_33_4, placesT_33, zeroT_33, aggT_31, sizeT_31, bytesT_31, und_31, elemT_31, isSliceT_31, zero1_31, zeroT_31, aggT_3, sizeT_3, bytesT_3, und_3, zero1_3, zeroT_3, h0, hl, Int.toNat_natCast, hk, tmD_eq t, hr, callOut_vi, bsTm, no31, apH_arr, Nat.zero_le]
      (refine (r_inLoop_some ?_).trans h; kernel_rfl)
    | cons a r =>
      have hb' : r.length + 1 ≤ 1000000000 := by simp only [List.length_cons] at hb; omega
      simp only [tmV, tmC_z, tmC, dV, iV, E79b, O79b, ixU, lD_lt hl, List.map_append, List.map_cons, List.map_nil, mkV_snoc, mkO_snoc, mkV_nil, mkO_nil, mkV_cons, mkO_cons, List.cons_append, List.nil_append, tmD_eq y] at h hr ⊢
      (rw [show (It.code L79b) = It.code (sub B79 [1, 1, 1, 1, 0, 1, 0, 0]) from rfl]; simp only [B79, K79b, sub, Option.getD_some, Tryz.f79, ↓reduceIte, Nat.one_ne_zero])
      simp only [zS, nilEq, wantedA, opA, eff, boxA, cells, ev, gt, pt, putO, updO, setO, okC, loadA, cutC, fieldAddrA, fieldA, indexAddrA, indexA, builtinA, callOpA, callV, target, ptrV, lenS, binA, intOp, strOp, unA, num, lk, over, allocA, pickA, buildA, fillA, convertA, extractA, ofComp, nilCheckA, makeFuncA, ptrs, ofValue, cellB, Nat.reduceAdd, Nat.reduceSub, Nat.reduceMul, Nat.reduceLT, Nat.reduceLeDiff, Nat.reduceGT, ↓reduceIte, Nat.reduceEqDiff, Nat.reduceBEq, reduceCtorEq, Int.reduceBEq, Int.reduceBNe, Int.reduceLT, Int.reduceLE, Int.reduceGT, Int.reduceGE, aggT_33, sizeT_33, bytesT_33, fieldT_33_0, fieldT_33_1, fieldT_33_2, fieldT_33_3, fieldT_33_4, placesT_33, zeroT_33, aggT_31, sizeT_31, bytesT_31, und_31, elemT_31, isSliceT_31, zero1_31, zeroT_31, aggT_3, sizeT_3, bytesT_3, und_3, zero1_3, zeroT_3, h0, hl, Int.toNat_natCast, hk, tmD_eq t, hr, callOut_vi, bsTm, oo31, apG_arr, hb']
      (refine (r_inLoop_some ?_).trans h; kernel_rfl)
  | cons c us =>
    cases ls with
    | nil =>
      simp only [tmV, tmC_z, tmC, dV, iV, E79b, O79b, ixU, lD_lt hl, List.map_append, List.map_cons, List.map_nil, mkV_snoc, mkO_snoc, mkV_nil, mkO_nil, mkV_cons, mkO_cons, List.cons_append, List.nil_append, tmD_eq y] at h hr ⊢
      (rw [show (It.code L79b) = It.code (sub B79 [1, 1, 1, 1, 0, 1, 0, 0]) from rfl]; simp only [B79, K79b, sub, Option.getD_some, Tryz.f79, ↓reduceIte, Nat.one_ne_zero])
      simp only [zS, nilEq, wantedA, opA, eff, boxA, cells, ev, gt, pt, putO, updO, setO, okC, loadA, cutC, fieldAddrA, fieldA, indexAddrA, indexA, builtinA, callOpA, callV, target, ptrV, lenS, binA, intOp, strOp, unA, num, lk, over, allocA, pickA, buildA, fillA, convertA, extractA, ofComp, nilCheckA, makeFuncA, ptrs, ofValue, cellB, Nat.reduceAdd, Nat.reduceSub, Nat.reduceMul, Nat.reduceLT, Nat.reduceLeDiff, Nat.reduceGT, ↓reduceIte, Nat.reduceEqDiff, Nat.reduceBEq, reduceCtorEq, Int.reduceBEq, Int.reduceBNe, Int.reduceLT, Int.reduceLE, Int.reduceGT, Int.reduceGE, aggT_33, sizeT_33, bytesT_33, fieldT_33_0, fieldT_33_1, fieldT_33_2, fieldT_33_3, fieldT_33_4, placesT_33, zeroT_33, aggT_31, sizeT_31, bytesT_31, und_31, elemT_31, isSliceT_31, zero1_31, zeroT_31, aggT_3, sizeT_3, bytesT_3, und_3, zero1_3, zeroT_3, h0, hl, Int.toNat_natCast, hk, tmD_eq t, hr, callOut_vi, bsTm, no31, apH_arr, Nat.zero_le]
      (refine (r_inLoop_some ?_).trans h; kernel_rfl)
    | cons a r =>
      have hb' : r.length + 1 ≤ 1000000000 := by simp only [List.length_cons] at hb; omega
      simp only [tmV, tmC_z, tmC, dV, iV, E79b, O79b, ixU, lD_lt hl, List.map_append, List.map_cons, List.map_nil, mkV_snoc, mkO_snoc, mkV_cons, mkO_cons, List.cons_append, List.nil_append, tmD_eq y] at h hr ⊢
      (rw [show (It.code L79b) = It.code (sub B79 [1, 1, 1, 1, 0, 1, 0, 0]) from rfl]; simp only [B79, K79b, sub, Option.getD_some, Tryz.f79, ↓reduceIte, Nat.one_ne_zero])
      simp only [zS, nilEq, wantedA, opA, eff, boxA, cells, ev, gt, pt, putO, updO, setO, okC, loadA, cutC, fieldAddrA, fieldA, indexAddrA, indexA, builtinA, callOpA, callV, target, ptrV, lenS, binA, intOp, strOp, unA, num, lk, over, allocA, pickA, buildA, fillA, convertA, extractA, ofComp, nilCheckA, makeFuncA, ptrs, ofValue, cellB, Nat.reduceAdd, Nat.reduceSub, Nat.reduceMul, Nat.reduceLT, Nat.reduceLeDiff, Nat.reduceGT, ↓reduceIte, Nat.reduceEqDiff, Nat.reduceBEq, reduceCtorEq, Int.reduceBEq, Int.reduceBNe, Int.reduceLT, Int.reduceLE, Int.reduceGT, Int.reduceGE, aggT_33, sizeT_33, bytesT_33, fieldT_33_0, fieldT_33_1, fieldT_33_2, fieldT_33_3, fieldT_33_4, placesT_33, zeroT_33, aggT_31, sizeT_31, bytesT_31, und_31, elemT_31, isSliceT_31, zero1_31, zeroT_31, aggT_3, sizeT_3, bytesT_3, und_3, zero1_3, zeroT_3, h0, hl, Int.toNat_natCast, hk, tmD_eq t, hr, callOut_vi, bsTm, oo31, apG_arr, hb']
      (refine (r_inLoop_some ?_).trans h; kernel_rfl)
theorem bad79b (b : D) (x t y : Tm) (us : List Lev) (ls : List Tm) (e : Int) (k : Nat) (hk : x.l[k]? = some t) (hl : (k : Int) < x.l.length) (hr : run Tryz.prog ext (.call 79 [tmV t, dV b] []) = some (.ret [tmV y, iV e] [])) (he : ¬ e = 0) : H79b ext 0 (E79b b x us ls k) (O79b x us ls) = some (.ret [tmV zTm, iV e] []) := by
  have h0 : (0 : Int) ≤ k := by omega
  unfold H79b
  cases us <;> cases ls
  all_goals
    simp only [tmV, tmC_z, tmC, dV, iV, E79b, O79b, ixU, lD_lt hl, List.map_cons, List.map_nil, mkV_nil, mkO_nil, mkV_cons, mkO_cons, List.cons_append, List.nil_append] at hr ⊢
    (rw [show (It.code L79b) = It.code (sub B79 [1, 1, 1, 1, 0, 1, 0, 0]) from rfl]; simp only [B79, K79b, sub, Option.getD_some, Tryz.f79, ↓reduceIte, Nat.one_ne_zero])
    simp only [zS, nilEq, wantedA, opA, eff, boxA, cells, ev, gt, pt, putO, updO, setO, okC, loadA, cutC, fieldAddrA, fieldA, indexAddrA, indexA, builtinA, callOpA, callV, target, ptrV, lenS, binA, intOp, strOp, unA, num, lk, over, allocA, pickA, buildA, fillA, convertA, extractA, ofComp, nilCheckA, makeFuncA, ptrs, ofValue, cellB, Nat.reduceAdd, Nat.reduceSub, Nat.reduceMul, Nat.reduceLT, Nat.reduceLeDiff, Nat.reduceGT, ↓reduceIte, Nat.reduceEqDiff, Nat.reduceBEq, reduceCtorEq, Int.reduceBEq, Int.reduceBNe, Int.reduceLT, Int.reduceLE, Int.reduceGT, Int.reduceGE, aggT_33, sizeT_33, bytesT_33, fieldT_33_0, fieldT_33_1, fieldT_33_2, fieldT_33_3, fieldT_33_4, placesT_33, zeroT_33, aggT_31, sizeT_31, bytesT_31, und_31, elemT_31, isSliceT_31, zero1_31, zeroT_31, aggT_3, sizeT_3, bytesT_3, und_3, zero1_3, zeroT_3, aggT_27, sizeT_27, bytesT_27, und_27, zero1_27, zeroT_27, h0, hl, Int.toNat_natCast, hk, tmD_eq t, hr, callOut_vi, he]
    (refine Eq.trans ?_ rfl; kernel_rfl)
theorem done79b (b : D) (x : Tm) (us : List Lev) (ls : List Tm) : H79b ext 0 (E79b b x us ls x.l.length) (O79b x us ls) = some (.ret [tmV (.mk x.op x.n x.s us true ls true), iV 0] []) := by
  unfold H79b
  cases us <;> cases ls
  all_goals
    simp only [tmV, tmC_z, tmC, dV, iV, E79b, O79b, ixU, Tm.op, Tm.n, Tm.s, Tm.uD, Tm.lD, Tm.u, Tm.zu, Tm.l, Tm.zl, List.map_cons, List.map_nil, mkV_nil, mkO_nil, mkV_cons, mkO_cons, List.cons_append, List.nil_append]
    (rw [show (It.code L79b) = It.code (sub B79 [1, 1, 1, 1, 0, 1, 0, 0]) from rfl]; simp only [B79, K79b, sub, Option.getD_some, Tryz.f79, ↓reduceIte, Nat.one_ne_zero])
    simp only [zS, nilEq, wantedA, opA, eff, boxA, cells, ev, gt, pt, putO, updO, setO, okC, loadA, cutC, fieldAddrA, fieldA, indexAddrA, indexA, builtinA, callOpA, callV, target, ptrV, lenS, binA, intOp, strOp, unA, num, lk, over, allocA, pickA, buildA, fillA, convertA, extractA, ofComp, nilCheckA, makeFuncA, ptrs, ofValue, cellB, Nat.reduceAdd, Nat.reduceSub, Nat.reduceMul, Nat.reduceLT, Nat.reduceLeDiff, Nat.reduceGT, ↓reduceIte, Nat.reduceEqDiff, Nat.reduceBEq, reduceCtorEq, Int.reduceBEq, Int.reduceBNe, Int.reduceLT, Int.reduceLE, Int.reduceGT, Int.reduceGE, aggT_33, sizeT_33, bytesT_33, fieldT_33_0, fieldT_33_1, fieldT_33_2, fieldT_33_3, fieldT_33_4, placesT_33, zeroT_33, aggT_31, sizeT_31, bytesT_31, und_31, elemT_31, isSliceT_31, zero1_31, zeroT_31, aggT_30, sizeT_30, bytesT_30, und_30, elemT_30, isSliceT_30, zero1_30, zeroT_30, aggT_3, sizeT_3, bytesT_3, und_3, zero1_3, zeroT_3, Int.lt_irrefl]
    (refine Eq.trans ?_ rfl; kernel_rfl)
end Go.Proofs.YteenjodhmppgjaaGreatDoor.Am
end
section
/- SetLevels by the reference. -/
namespace Go.Proofs.YteenjodhmppgjaaGreatDoor.Am
open Go
variable (ext : Ext)
set_option maxHeartbeats 8000000
def E81a (b : D) (k : Int) : Env := [(1, dV b), (2, .c (.ptr 0 0)), (4, .c (.ptr 1 0)), (6, .c (.ptr 2 0)), (7, iV k)]
def E81b (b : D) (k : Int) : Env := [(1, dV b), (2, .c (.ptr 0 0)), (4, .c (.ptr 1 0)), (6, .c (.ptr 2 0)), (10, iV k)]
def mkC (i : Nat) : List (List D) → C
  | [] => .d (.v (.slice none 0 0))
  | _ :: _ => .own i
theorem mkC_nil (i : Nat) : mkC i [] = .d (.v (.slice none 0 0)) := rfl
theorem mkC_cons (i : Nat) (a : List D) (r : List (List D)) : mkC i (a :: r) = .own i := rfl
theorem mkC_snoc (i : Nat) (els : List (List D)) (x : List D) : mkC i (els ++ [x]) = .own i := by cases els <;> rfl
def O81 (x : Tm) (us : List Lev) (ls : List Tm) : List O :=
  .box (tmC x) :: .box (tmC zTm) :: .box [.d (.v (.int .i64 x.op)), .d (.v (.int .i64 x.n)), .d (.v (.string x.s)), mkC 3 (us.map levD), mkC (ixU us + 1) (ls.map tmD)] :: (mkO 2 (us.map levD) ++ mkO 5 (ls.map tmD))
theorem enter81 (hx : ext 81 = none) (b : D) (x : Tm) (out : Option Out) (h : H81a ext 0 (E81a b 0) (O81 x [] []) = out) : run Tryz.prog ext (.call 81 [tmV x, dV b] []) = out := by
  unfold H81a at h
  (rw [run_eq]; simp only [stepA, hx, Tryz.func81, Tryz.f81, show retF 81 = false from rfl]; simp only [List.length_cons, List.length_nil, Nat.reduceAdd, Nat.reduceLeDiff, Nat.zero_le, ↓reduceIte, List.zipIdx_cons, List.zipIdx_nil, List.map_cons, List.map_nil])
  simp only [tmV, tmC_z, tmC, dV, iV, E81a, O81, ixU, List.map_nil, mkC_nil, mkO_nil, List.append_nil] at h ⊢
  simp only [zS, nilEq, wantedA, opA, eff, boxA, cells, ev, gt, pt, putO, updO, setO, okC, loadA, cutC, fieldAddrA, fieldA, indexAddrA, indexA, builtinA, callOpA, callV, target, ptrV, lenS, binA, intOp, strOp, unA, num, lk, over, allocA, pickA, buildA, fillA, convertA, extractA, ofComp, nilCheckA, makeFuncA, ptrs, ofValue, cellB, Nat.reduceAdd, Nat.reduceSub, Nat.reduceMul, Nat.reduceLT, Nat.reduceLeDiff, Nat.reduceGT, ↓reduceIte, Nat.reduceEqDiff, Nat.reduceBEq, reduceCtorEq, Int.reduceBEq, Int.reduceBNe, Int.reduceLT, Int.reduceLE, Int.reduceGT, Int.reduceGE, aggT_33, sizeT_33, bytesT_33, fieldT_33_0, fieldT_33_1, fieldT_33_2, fieldT_33_3, fieldT_33_4, placesT_33, zeroT_33, aggT_30, sizeT_30, bytesT_30, und_30, elemT_30, isSliceT_30, zero1_30, zeroT_30, aggT_9, sizeT_9, bytesT_9, und_9, zero1_9, zeroT_9, aggT_3, sizeT_3, bytesT_3, und_3, zero1_3, zeroT_3, lenA_uD]
  (refine (r_inLoop_some ?_).trans h; kernel_rfl)
theorem step81a (b : D) (x : Tm) (u y : Lev) (us : List Lev) (k : Nat) (hb : us.length < 2 ^ 29) (hk : x.u[k]? = some u) (hl : (k : Int) < x.u.length) (hr : run Tryz.prog ext (.call 85 [levV u, dV b] []) = some (.ret [levV y, iV 0] [])) (out : Option Out)
    (h : H81a ext 0 (E81a b (wr ((k : Int) + 1))) (O81 x (us ++ [y]) []) = out) : H81a ext 0 (E81a b k) (O81 x us []) = out := by
  have h0 : (0 : Int) ≤ k := by omega
  unfold H81a at h ⊢
  cases us with
  | nil =>
    simp only [levV, levC, tmC_z, tmC, dV, iV, E81a, O81, ixU, uD_lt hl, List.map_append, List.map_cons, List.map_nil, mkC_nil, mkC_snoc, mkO_snoc, mkO_nil, List.nil_append, List.append_nil, levD_eq y] at h hr ⊢
    (rw [show (It.code L81a) = It.code (sub B81 [1, 1, 0, 1, 0, 0]) from rfl]; simp only [B81, K81a, sub, Option.getD_some, Tryz.f81, ↓reduceIte, Nat.one_ne_zero])
    simp only [zS, nilEq, wantedA, opA, eff, boxA, cells, ev, gt, pt, putO, updO, setO, okC, loadA, cutC, fieldAddrA, fieldA, indexAddrA, indexA, builtinA, callOpA, callV, target, ptrV, lenS, binA, intOp, strOp, unA, num, lk, over, allocA, pickA, buildA, fillA, convertA, extractA, ofComp, nilCheckA, makeFuncA, ptrs, ofValue, cellB, Nat.reduceAdd, Nat.reduceSub, Nat.reduceMul, Nat.reduceLT, Nat.reduceLeDiff, Nat.reduceGT, ↓reduceIte, Nat.reduceEqDiff, Nat.reduceBEq, reduceCtorEq, Int.reduceBEq, Int.reduceBNe, Int.reduceLT, Int.reduceLE, Int.reduceGT, Int.reduceGE, aggT_33, sizeT_33, bytesT_33, fieldT_33_0, fieldT_33_1, fieldT_33_2, fieldT_33_3, fieldT_33_4, placesT_33, zeroT_33, aggT_36, sizeT_36, bytesT_36, fieldT_36_0, fieldT_36_1, placesT_36, zeroT_36, aggT_30, sizeT_30, bytesT_30, und_30, elemT_30, isSliceT_30, zero1_30, zeroT_30, aggT_3, sizeT_3, bytesT_3, und_3, zero1_3, zeroT_3, lenA_uD, h0, hl, Int.toNat_natCast, hk, levD_eq u, hr, callOut_vi, bsLev, no30, apH_arr, Nat.zero_le]
    (refine (r_inLoop_some ?_).trans h; kernel_rfl)
  | cons a r =>
    have hb' : r.length + 1 ≤ 1000000000 := by simp only [List.length_cons] at hb; omega
    simp only [levV, levC, tmC_z, tmC, dV, iV, E81a, O81, ixU, uD_lt hl, List.map_append, List.map_cons, List.map_nil, mkC_nil, mkC_cons, mkC_snoc, mkO_snoc, mkO_nil, mkO_cons, List.cons_append, List.nil_append, List.append_nil, levD_eq y] at h hr ⊢
    (rw [show (It.code L81a) = It.code (sub B81 [1, 1, 0, 1, 0, 0]) from rfl]; simp only [B81, K81a, sub, Option.getD_some, Tryz.f81, ↓reduceIte, Nat.one_ne_zero])
    simp only [zS, nilEq, wantedA, opA, eff, boxA, cells, ev, gt, pt, putO, updO, setO, okC, loadA, cutC, fieldAddrA, fieldA, indexAddrA, indexA, builtinA, callOpA, callV, target, ptrV, lenS, binA, intOp, strOp, unA, num, lk, over, allocA, pickA, buildA, fillA, convertA, extractA, ofComp, nilCheckA, makeFuncA, ptrs, ofValue, cellB, Nat.reduceAdd, Nat.reduceSub, Nat.reduceMul, Nat.reduceLT, Nat.reduceLeDiff, Nat.reduceGT, ↓reduceIte, Nat.reduceEqDiff, Nat.reduceBEq, reduceCtorEq, Int.reduceBEq, Int.reduceBNe, Int.reduceLT, Int.reduceLE, Int.reduceGT, Int.reduceGE, aggT_33, sizeT_33, bytesT_33, fieldT_33_0, fieldT_33_1, fieldT_33_2, fieldT_33_3, fieldT_33_4, placesT_33, zeroT_33, aggT_36, sizeT_36, bytesT_36, fieldT_36_0, fieldT_36_1, placesT_36, zeroT_36, aggT_30, sizeT_30, bytesT_30, und_30, elemT_30, isSliceT_30, zero1_30, zeroT_30, aggT_3, sizeT_3, bytesT_3, und_3, zero1_3, zeroT_3, lenA_uD, h0, hl, Int.toNat_natCast, hk, levD_eq u, hr, callOut_vi, bsLev, oo30, apG_arr, hb']
    (refine (r_inLoop_some ?_).trans h; kernel_rfl)
theorem bad81a (b : D) (x : Tm) (u y : Lev) (us : List Lev) (e : Int) (k : Nat) (hk : x.u[k]? = some u) (hl : (k : Int) < x.u.length) (hr : run Tryz.prog ext (.call 85 [levV u, dV b] []) = some (.ret [levV y, iV e] [])) (he : ¬ e = 0) : H81a ext 0 (E81a b k) (O81 x us []) = some (.ret [tmV zTm, iV e] []) := by
  have h0 : (0 : Int) ≤ k := by omega
  unfold H81a
  cases us
  all_goals
    simp only [levV, levC, tmV, tmC_z, tmC, dV, iV, E81a, O81, ixU, uD_lt hl, List.map_cons, List.map_nil, mkC_nil, mkC_cons, mkO_nil, mkO_cons, List.cons_append, List.nil_append, List.append_nil] at hr ⊢
    (rw [show (It.code L81a) = It.code (sub B81 [1, 1, 0, 1, 0, 0]) from rfl]; simp only [B81, K81a, sub, Option.getD_some, Tryz.f81, ↓reduceIte, Nat.one_ne_zero])
    simp only [zS, nilEq, wantedA, opA, eff, boxA, cells, ev, gt, pt, putO, updO, setO, okC, loadA, cutC, fieldAddrA, fieldA, indexAddrA, indexA, builtinA, callOpA, callV, target, ptrV, lenS, binA, intOp, strOp, unA, num, lk, over, allocA, pickA, buildA, fillA, convertA, extractA, ofComp, nilCheckA, makeFuncA, ptrs, ofValue, cellB, Nat.reduceAdd, Nat.reduceSub, Nat.reduceMul, Nat.reduceLT, Nat.reduceLeDiff, Nat.reduceGT, ↓reduceIte, Nat.reduceEqDiff, Nat.reduceBEq, reduceCtorEq, Int.reduceBEq, Int.reduceBNe, Int.reduceLT, Int.reduceLE, Int.reduceGT, Int.reduceGE, aggT_33, sizeT_33, bytesT_33, fieldT_33_0, fieldT_33_1, fieldT_33_2, fieldT_33_3, fieldT_33_4, placesT_33, zeroT_33, aggT_36, sizeT_36, bytesT_36, fieldT_36_0, fieldT_36_1, placesT_36, zeroT_36, aggT_30, sizeT_30, bytesT_30, und_30, elemT_30, isSliceT_30, zero1_30, zeroT_30, aggT_3, sizeT_3, bytesT_3, und_3, zero1_3, zeroT_3, aggT_27, sizeT_27, bytesT_27, und_27, zero1_27, zeroT_27, lenA_uD, h0, hl, Int.toNat_natCast, hk, levD_eq u, hr, callOut_vi, he]
    (refine Eq.trans ?_ rfl; kernel_rfl)
theorem mid81 (b : D) (x : Tm) (us : List Lev) (out : Option Out) (h : H81b ext 0 (E81b b 0) (O81 x us []) = out) : H81a ext 0 (E81a b x.u.length) (O81 x us []) = out := by
  unfold H81b at h
  unfold H81a
  cases us
  all_goals
    simp only [tmC_z, tmC, dV, iV, E81a, E81b, O81, ixU, List.map_nil, List.map_cons, mkC_nil, mkC_cons, mkO_nil, mkO_cons, List.append_nil] at h ⊢
    (rw [show (It.code L81a) = It.code (sub B81 [1, 1, 0, 1, 0, 0]) from rfl]; simp only [B81, K81a, sub, Option.getD_some, Tryz.f81, ↓reduceIte, Nat.one_ne_zero])
    simp only [zS, nilEq, wantedA, opA, eff, boxA, cells, ev, gt, pt, putO, updO, setO, okC, loadA, cutC, fieldAddrA, fieldA, indexAddrA, indexA, builtinA, callOpA, callV, target, ptrV, lenS, binA, intOp, strOp, unA, num, lk, over, allocA, pickA, buildA, fillA, convertA, extractA, ofComp, nilCheckA, makeFuncA, ptrs, ofValue, cellB, Nat.reduceAdd, Nat.reduceSub, Nat.reduceMul, Nat.reduceLT, Nat.reduceLeDiff, Nat.reduceGT, ↓reduceIte, Nat.reduceEqDiff, Nat.reduceBEq, reduceCtorEq, Int.reduceBEq, Int.reduceBNe, Int.reduceLT, Int.reduceLE, Int.reduceGT, Int.reduceGE, aggT_33, sizeT_33, bytesT_33, fieldT_33_0, fieldT_33_1, fieldT_33_2, fieldT_33_3, fieldT_33_4, placesT_33, zeroT_33, aggT_30, sizeT_30, bytesT_30, und_30, elemT_30, isSliceT_30, zero1_30, zeroT_30, aggT_31, sizeT_31, bytesT_31, und_31, elemT_31, isSliceT_31, zero1_31, zeroT_31, aggT_3, sizeT_3, bytesT_3, und_3, zero1_3, zeroT_3, lenA_uD, lenA_lD, Int.lt_irrefl]
    (refine (r_inLoop_some ?_).trans h; kernel_rfl)
theorem step81b (b : D) (x t y : Tm) (us : List Lev) (ls : List Tm) (k : Nat) (hb : ls.length < 2 ^ 29) (hk : x.l[k]? = some t) (hl : (k : Int) < x.l.length) (hr : run Tryz.prog ext (.call 81 [tmV t, dV b] []) = some (.ret [tmV y, iV 0] [])) (out : Option Out)
    (h : H81b ext 0 (E81b b (wr ((k : Int) + 1))) (O81 x us (ls ++ [y])) = out) : H81b ext 0 (E81b b k) (O81 x us ls) = out := by
  have h0 : (0 : Int) ≤ k := by omega
  unfold H81b at h ⊢
  cases us with
  | nil =>
    cases ls with
    | nil =>
      simp only [tmV, tmC_z, tmC, dV, iV, E81b, O81, ixU, lD_lt hl, List.map_append, List.map_cons, List.map_nil, mkC_nil, mkC_cons, mkC_snoc, mkO_snoc, mkO_nil, mkO_cons, List.cons_append, List.nil_append, List.append_nil, tmD_eq y] at h hr ⊢
      (rw [show (It.code L81b) = It.code (sub B81 [1, 1, 1, 0, 1, 0, 0]) from rfl]; simp only [B81, K81b, sub, Option.getD_some, Tryz.f81, ↓reduceIte, Nat.one_ne_zero])
      simp only [zS, nilEq, wantedA, opA, eff, boxA, cells, ev, gt, pt, putO, updO, setO, okC, loadA, cutC, fieldAddrA, fieldA, indexAddrA, indexA, builtinA, callOpA, callV, target, ptrV, lenS, binA, intOp, strOp, unA, num, lk, over, allocA, pickA, buildA, fillA, convertA, extractA, ofComp, nilCheckA, makeFuncA, ptrs, ofValue, cellB, Nat.reduceAdd, Nat.reduceSub, Nat.reduceMul, Nat.reduceLT, Nat.reduceLeDiff, Nat.reduceGT, ↓reduceIte, Nat.reduceEqDiff, Nat.reduceBEq, reduceCtorEq, Int.reduceBEq, Int.reduceBNe, Int.reduceLT, Int.reduceLE, Int.reduceGT, Int.reduceGE, aggT_33, sizeT_33, bytesT_33, fieldT_33_0, fieldT_33_1, fieldT_33_2, fieldT_33_3, fieldT_33_4, placesT_33, zeroT_33, aggT_31, sizeT_31, bytesT_31, und_31, elemT_31, isSliceT_31, zero1_31, zeroT_31, aggT_3, sizeT_3, bytesT_3, und_3, zero1_3, zeroT_3, lenA_lD, h0, hl, Int.toNat_natCast, hk, tmD_eq t, hr, callOut_vi, bsTm, no31, apH_arr, Nat.zero_le]
      (refine (r_inLoop_some ?_).trans h; kernel_rfl)
    | cons a r =>
      have hb' : r.length + 1 ≤ 1000000000 := by simp only [List.length_cons] at hb; omega
      simp only [tmV, tmC_z, tmC, dV, iV, E81b, O81, ixU, lD_lt hl, List.map_append, List.map_cons, List.map_nil, mkC_nil, mkC_cons, mkC_snoc, mkO_snoc, mkO_nil, mkO_cons, List.cons_append, List.nil_append, List.append_nil, tmD_eq y] at h hr ⊢
      (rw [show (It.code L81b) = It.code (sub B81 [1, 1, 1, 0, 1, 0, 0]) from rfl]; simp only [B81, K81b, sub, Option.getD_some, Tryz.f81, ↓reduceIte, Nat.one_ne_zero])
      simp only [zS, nilEq, wantedA, opA, eff, boxA, cells, ev, gt, pt, putO, updO, setO, okC, loadA, cutC, fieldAddrA, fieldA, indexAddrA, indexA, builtinA, callOpA, callV, target, ptrV, lenS, binA, intOp, strOp, unA, num, lk, over, allocA, pickA, buildA, fillA, convertA, extractA, ofComp, nilCheckA, makeFuncA, ptrs, ofValue, cellB, Nat.reduceAdd, Nat.reduceSub, Nat.reduceMul, Nat.reduceLT, Nat.reduceLeDiff, Nat.reduceGT, ↓reduceIte, Nat.reduceEqDiff, Nat.reduceBEq, reduceCtorEq, Int.reduceBEq, Int.reduceBNe, Int.reduceLT, Int.reduceLE, Int.reduceGT, Int.reduceGE, aggT_33, sizeT_33, bytesT_33, fieldT_33_0, fieldT_33_1, fieldT_33_2, fieldT_33_3, fieldT_33_4, placesT_33, zeroT_33, aggT_31, sizeT_31, bytesT_31, und_31, elemT_31, isSliceT_31, zero1_31, zeroT_31, aggT_3, sizeT_3, bytesT_3, und_3, zero1_3, zeroT_3, lenA_lD, h0, hl, Int.toNat_natCast, hk, tmD_eq t, hr, callOut_vi, bsTm, oo31, apG_arr, hb']
      (refine (r_inLoop_some ?_).trans h; kernel_rfl)
  | cons c us =>
    cases ls with
    | nil =>
      simp only [tmV, tmC_z, tmC, dV, iV, E81b, O81, ixU, lD_lt hl, List.map_append, List.map_cons, List.map_nil, mkC_nil, mkC_cons, mkC_snoc, mkO_snoc, mkO_nil, mkO_cons, List.cons_append, List.nil_append, List.append_nil, tmD_eq y] at h hr ⊢
      (rw [show (It.code L81b) = It.code (sub B81 [1, 1, 1, 0, 1, 0, 0]) from rfl]; simp only [B81, K81b, sub, Option.getD_some, Tryz.f81, ↓reduceIte, Nat.one_ne_zero])
      simp only [zS, nilEq, wantedA, opA, eff, boxA, cells, ev, gt, pt, putO, updO, setO, okC, loadA, cutC, fieldAddrA, fieldA, indexAddrA, indexA, builtinA, callOpA, callV, target, ptrV, lenS, binA, intOp, strOp, unA, num, lk, over, allocA, pickA, buildA, fillA, convertA, extractA, ofComp, nilCheckA, makeFuncA, ptrs, ofValue, cellB, Nat.reduceAdd, Nat.reduceSub, Nat.reduceMul, Nat.reduceLT, Nat.reduceLeDiff, Nat.reduceGT, ↓reduceIte, Nat.reduceEqDiff, Nat.reduceBEq, reduceCtorEq, Int.reduceBEq, Int.reduceBNe, Int.reduceLT, Int.reduceLE, Int.reduceGT, Int.reduceGE, aggT_33, sizeT_33, bytesT_33, fieldT_33_0, fieldT_33_1, fieldT_33_2, fieldT_33_3, fieldT_33_4, placesT_33, zeroT_33, aggT_31, sizeT_31, bytesT_31, und_31, elemT_31, isSliceT_31, zero1_31, zeroT_31, aggT_3, sizeT_3, bytesT_3, und_3, zero1_3, zeroT_3, lenA_lD, h0, hl, Int.toNat_natCast, hk, tmD_eq t, hr, callOut_vi, bsTm, no31, apH_arr, Nat.zero_le]
      (refine (r_inLoop_some ?_).trans h; kernel_rfl)
    | cons a r =>
      have hb' : r.length + 1 ≤ 1000000000 := by simp only [List.length_cons] at hb; omega
      simp only [tmV, tmC_z, tmC, dV, iV, E81b, O81, ixU, lD_lt hl, List.map_append, List.map_cons, List.map_nil, mkC_nil, mkC_cons, mkC_snoc, mkO_snoc, mkO_nil, mkO_cons, List.cons_append, List.nil_append, List.append_nil, tmD_eq y] at h hr ⊢
      (rw [show (It.code L81b) = It.code (sub B81 [1, 1, 1, 0, 1, 0, 0]) from rfl]; simp only [B81, K81b, sub, Option.getD_some, Tryz.f81, ↓reduceIte, Nat.one_ne_zero])
      simp only [zS, nilEq, wantedA, opA, eff, boxA, cells, ev, gt, pt, putO, updO, setO, okC, loadA, cutC, fieldAddrA, fieldA, indexAddrA, indexA, builtinA, callOpA, callV, target, ptrV, lenS, binA, intOp, strOp, unA, num, lk, over, allocA, pickA, buildA, fillA, convertA, extractA, ofComp, nilCheckA, makeFuncA, ptrs, ofValue, cellB, Nat.reduceAdd, Nat.reduceSub, Nat.reduceMul, Nat.reduceLT, Nat.reduceLeDiff, Nat.reduceGT, ↓reduceIte, Nat.reduceEqDiff, Nat.reduceBEq, reduceCtorEq, Int.reduceBEq, Int.reduceBNe, Int.reduceLT, Int.reduceLE, Int.reduceGT, Int.reduceGE, aggT_33, sizeT_33, bytesT_33, fieldT_33_0, fieldT_33_1, fieldT_33_2, fieldT_33_3, fieldT_33_4, placesT_33, zeroT_33, aggT_31, sizeT_31, bytesT_31, und_31, elemT_31, isSliceT_31, zero1_31, zeroT_31, aggT_3, sizeT_3, bytesT_3, und_3, zero1_3, zeroT_3, lenA_lD, h0, hl, Int.toNat_natCast, hk, tmD_eq t, hr, callOut_vi, bsTm, oo31, apG_arr, hb']
      (refine (r_inLoop_some ?_).trans h; kernel_rfl)
theorem bad81b (b : D) (x t y : Tm) (us : List Lev) (ls : List Tm) (e : Int) (k : Nat) (hk : x.l[k]? = some t) (hl : (k : Int) < x.l.length) (hr : run Tryz.prog ext (.call 81 [tmV t, dV b] []) = some (.ret [tmV y, iV e] [])) (he : ¬ e = 0) : H81b ext 0 (E81b b k) (O81 x us ls) = some (.ret [tmV zTm, iV e] []) := by
  have h0 : (0 : Int) ≤ k := by omega
  unfold H81b
  cases us <;> cases ls
  all_goals
    simp only [tmV, tmC_z, tmC, dV, iV, E81b, O81, ixU, lD_lt hl, List.map_cons, List.map_nil, mkC_nil, mkC_cons, mkO_nil, mkO_cons, List.cons_append, List.nil_append, List.append_nil] at hr ⊢
    (rw [show (It.code L81b) = It.code (sub B81 [1, 1, 1, 0, 1, 0, 0]) from rfl]; simp only [B81, K81b, sub, Option.getD_some, Tryz.f81, ↓reduceIte, Nat.one_ne_zero])
    simp only [zS, nilEq, wantedA, opA, eff, boxA, cells, ev, gt, pt, putO, updO, setO, okC, loadA, cutC, fieldAddrA, fieldA, indexAddrA, indexA, builtinA, callOpA, callV, target, ptrV, lenS, binA, intOp, strOp, unA, num, lk, over, allocA, pickA, buildA, fillA, convertA, extractA, ofComp, nilCheckA, makeFuncA, ptrs, ofValue, cellB, Nat.reduceAdd, Nat.reduceSub, Nat.reduceMul, Nat.reduceLT, Nat.reduceLeDiff, Nat.reduceGT, ↓reduceIte, Nat.reduceEqDiff, Nat.reduceBEq, reduceCtorEq, Int.reduceBEq, Int.reduceBNe, Int.reduceLT, Int.reduceLE, Int.reduceGT, Int.reduceGE, aggT_33, sizeT_33, bytesT_33, fieldT_33_0, fieldT_33_1, fieldT_33_2, fieldT_33_3, fieldT_33_4, placesT_33, zeroT_33, aggT_31, sizeT_31, bytesT_31, und_31, elemT_31, isSliceT_31, zero1_31, zeroT_31, aggT_3, sizeT_3, bytesT_3, und_3, zero1_3, zeroT_3, aggT_27, sizeT_27, bytesT_27, und_27, zero1_27, zeroT_27, lenA_lD, h0, hl, Int.toNat_natCast, hk, tmD_eq t, hr, callOut_vi, he]
    (refine Eq.trans ?_ rfl; kernel_rfl)
theorem tmC_mk (a b : Int) (s : ByteArray) (u : List Lev) (zu : Bool) (l : List Tm) (zl : Bool) : tmC (.mk a b s u zu l zl) = [.d (.v (.int .i64 a)), .d (.v (.int .i64 b)), .d (.v (.string s)), .d (listD zu 2 (u.map levD)), .d (listD zl 5 (l.map tmD))] := rfl
theorem done81b (b : D) (x : Tm) (us : List Lev) (ls : List Tm) : H81b ext 0 (E81b b x.l.length) (O81 x us ls) = some (.ret [tmV (.mk x.op x.n x.s us true ls true), iV 0] []) := by
  unfold H81b
  cases us <;> cases ls
  all_goals
    simp only [tmV, tmC_mk, tmC_z, dV, iV, E81b, O81, ixU, List.map_cons, List.map_nil, mkC_nil, mkC_cons, mkO_nil, mkO_cons, List.cons_append, List.nil_append, List.append_nil]
    simp only [tmC]
    (rw [show (It.code L81b) = It.code (sub B81 [1, 1, 1, 0, 1, 0, 0]) from rfl]; simp only [B81, K81b, sub, Option.getD_some, Tryz.f81, ↓reduceIte, Nat.one_ne_zero])
    simp only [zS, nilEq, wantedA, opA, eff, boxA, cells, ev, gt, pt, putO, updO, setO, okC, loadA, cutC, fieldAddrA, fieldA, indexAddrA, indexA, builtinA, callOpA, callV, target, ptrV, lenS, binA, intOp, strOp, unA, num, lk, over, allocA, pickA, buildA, fillA, convertA, extractA, ofComp, nilCheckA, makeFuncA, ptrs, ofValue, cellB, Nat.reduceAdd, Nat.reduceSub, Nat.reduceMul, Nat.reduceLT, Nat.reduceLeDiff, Nat.reduceGT, ↓reduceIte, Nat.reduceEqDiff, Nat.reduceBEq, reduceCtorEq, Int.reduceBEq, Int.reduceBNe, Int.reduceLT, Int.reduceLE, Int.reduceGT, Int.reduceGE, aggT_33, sizeT_33, bytesT_33, fieldT_33_0, fieldT_33_1, fieldT_33_2, fieldT_33_3, fieldT_33_4, placesT_33, zeroT_33, aggT_31, sizeT_31, bytesT_31, und_31, elemT_31, isSliceT_31, zero1_31, zeroT_31, aggT_30, sizeT_30, bytesT_30, und_30, elemT_30, isSliceT_30, zero1_30, zeroT_30, aggT_3, sizeT_3, bytesT_3, und_3, zero1_3, zeroT_3, lenA_lD, Int.lt_irrefl]
    (refine Eq.trans ?_ rfl; kernel_rfl)
end Go.Proofs.YteenjodhmppgjaaGreatDoor.Am
end
section
/- SetLevels: what it answers. -/
namespace Go.Proofs.YteenjodhmppgjaaGreatDoor.Am
open Go
variable (ext : Ext)
set_option maxHeartbeats 8000000
theorem set79 (hx : ext 79 = none) (f : Lev → Lev × Int) (b : D) (hf : ∀ u : Lev, run Tryz.prog ext (.call 84 [levV u, dV b] []) = some (.ret [levV (f u).1, iV (f u).2] [])) :
    ∀ (N : Nat) (x : Tm), x.sz ≤ N → N < 2 ^ 29 → run Tryz.prog ext (.call 79 [tmV x, dV b] []) = some (.ret [tmV (setL f x).1, iV (setL f x).2] [])
  | 0, x, h, _ => by have := x.sz_pos; omega
  | N + 1, x, h, hN => by
    have hul := x.ulen_lt
    have hll := x.len_lt
    refine enter79 ext hx b x _ ?_
    have ha := loop_mapE f x.u (fun k us => H79a ext 0 (E79a b x us k) (O79a x us)) (fun e => some (.ret [tmV zTm, iV e] [])) (fun us => H79b ext 0 (E79b b x us [] 0) (O79b x us [])) (by omega) (fun k u us hk hl he => by
        have hr := hf u
        refine ⟨fun h0 out ho => ?_, fun h0 => ?_⟩
        · rw [h0] at hr
          exact step79a ext b x u _ us k (by omega) hk hl hr out ho
        · exact bad79a ext b x u _ us _ k hk hl hr h0) (fun us _ => mid79 ext b x us _ rfl)
    rw [ha, setL_eq]
    cases mapE f x.u with
    | inr e => rfl
    | inl us =>
      dsimp only
      have hb := loop_mapE (setL f) x.l (fun k ls => H79b ext 0 (E79b b x us ls k) (O79b x us ls)) (fun e => some (.ret [tmV zTm, iV e] [])) (fun ls => some (.ret [tmV (.mk x.op x.n x.s us true ls true), iV 0] [])) (by omega) (fun k t ls hk hl he => by
          have hr := set79 hx f b hf N t (by have := Tm.sz_lt (List.mem_of_getElem? hk); omega) (by omega)
          refine ⟨fun h0 out ho => ?_, fun h0 => ?_⟩
          · rw [h0] at hr
            exact step79b ext b x t _ us ls k (by omega) hk hl hr out ho
          · exact bad79b ext b x t _ us ls _ k hk hl hr h0) (fun ls _ => done79b ext b x us ls)
      rw [hb]
      cases mapE (setL f) x.l <;> rfl
theorem set81 (hx : ext 81 = none) (f : Lev → Lev × Int) (b : D) (hf : ∀ u : Lev, run Tryz.prog ext (.call 85 [levV u, dV b] []) = some (.ret [levV (f u).1, iV (f u).2] [])) :
    ∀ (N : Nat) (x : Tm), x.sz ≤ N → N < 2 ^ 29 → run Tryz.prog ext (.call 81 [tmV x, dV b] []) = some (.ret [tmV (setL f x).1, iV (setL f x).2] [])
  | 0, x, h, _ => by have := x.sz_pos; omega
  | N + 1, x, h, hN => by
    have hul := x.ulen_lt
    have hll := x.len_lt
    refine enter81 ext hx b x _ ?_
    have ha := loop_mapE f x.u (fun k us => H81a ext 0 (E81a b k) (O81 x us [])) (fun e => some (.ret [tmV zTm, iV e] [])) (fun us => H81b ext 0 (E81b b 0) (O81 x us [])) (by omega) (fun k u us hk hl he => by
        have hr := hf u
        refine ⟨fun h0 out ho => ?_, fun h0 => ?_⟩
        · rw [h0] at hr
          exact step81a ext b x u _ us k (by omega) hk hl hr out ho
        · exact bad81a ext b x u _ us _ k hk hl hr h0) (fun us _ => mid81 ext b x us _ rfl)
    rw [ha, setL_eq]
    cases mapE f x.u with
    | inr e => rfl
    | inl us =>
      dsimp only
      have hb := loop_mapE (setL f) x.l (fun k ls => H81b ext 0 (E81b b k) (O81 x us ls)) (fun e => some (.ret [tmV zTm, iV e] [])) (fun ls => some (.ret [tmV (.mk x.op x.n x.s us true ls true), iV 0] [])) (by omega) (fun k t ls hk hl he => by
          have hr := set81 hx f b hf N t (by have := Tm.sz_lt (List.mem_of_getElem? hk); omega) (by omega)
          refine ⟨fun h0 out ho => ?_, fun h0 => ?_⟩
          · rw [h0] at hr
            exact step81b ext b x t _ us ls k (by omega) hk hl hr out ho
          · exact bad81b ext b x t _ us ls _ k hk hl hr h0) (fun ls _ => done81b ext b x us ls)
      rw [hb]
      cases mapE (setL f) x.l <;> rfl
end Go.Proofs.YteenjodhmppgjaaGreatDoor.Am
end
section
/- TypeOf, BodyOf, by the program and by the reference. -/
namespace Go.Proofs.YteenjodhmppgjaaGreatDoor.Am
open Go
variable (ext : Ext)
set_option maxHeartbeats 8000000
def zL0 : Lev := ⟨0, [], true⟩
def zDc : Dc := ⟨⟨#[]⟩, 0, 0, zTm, zTm, zTm, zL0, zL0, [], true⟩
theorem callOut_vd (slot : Nat) (cs : List C) (x : Value) (h : cs.all dataC = true) : callOut [] [] slot (some (.ret [.agg cs, .c (.d (.v x))] [])) = some ⟨.val (.tup [(true, cs), (false, [.d (.v x)])]), [], []⟩ := by
  obtain ⟨_, _, h3⟩ := argCs_data (look := fun _ => none) h
  simp only [callOut, answer, mapO, renV, h3, renC, results1, comp, List.length_nil, Nat.lt_irrefl, if_false]
  split <;> rfl
theorem find_none {x : Tb} {s : ByteArray} (h : x.ds.find? (isNm s) = none) : find x s = -1 := by
  unfold find idxI
  have : x.ds.findIdx? (isNm s) = none := by
    rw [List.findIdx?_eq_none_iff]; rw [List.find?_eq_none] at h; intro y hy; simpa using h y hy
  rw [this]
theorem find_some' {x : Tb} {s : ByteArray} {d : Dc} (h : x.ds.find? (isNm s) = some d) : ∃ k : Nat, find x s = k ∧ x.ds[k]? = some d ∧ (k : Int) < x.ds.length := by
  unfold find idxI
  cases hk : x.ds.findIdx? (isNm s) with
  | none =>
    rw [List.findIdx?_eq_none_iff] at hk
    have := List.find?_some h
    rw [hk d (List.mem_of_find?_eq_some h)] at this; cases this
  | some k =>
    refine ⟨k, rfl, ?_, ?_⟩
    · have := List.findIdx?_eq_some_iff_getElem.1 hk
      obtain ⟨h1, h2, h3⟩ := this
      rw [List.find?_eq_some_iff_getElem] at h
      obtain ⟨h4, i, h5, h6, h7⟩ := h
      have : i = k := by
        rcases Nat.lt_trichotomy i k with hlt | heq | hgt
        · have := h3 i hlt; rw [h6] at this; exact absurd h4 this
        · exact heq
        · have := h7 k hgt; simp [h2] at this
      subst this
      simp [h5, h6]
    · have := (List.findIdx?_eq_some_iff_getElem.1 hk).1; omega
end Go.Proofs.YteenjodhmppgjaaGreatDoor.Am
end
section
/- TypeOf, BodyOf. -/
namespace Go.Proofs.YteenjodhmppgjaaGreatDoor.Am
open Go
variable (ext : Ext)
set_option maxHeartbeats 8000000
end Go.Proofs.YteenjodhmppgjaaGreatDoor.Am
end
section
/- TableTypes: the walk. -/
namespace Go.Proofs.YteenjodhmppgjaaGreatDoor.Am
open Go
variable (ext : Ext)
set_option maxHeartbeats 8000000
set_option maxRecDepth 4000
/-! ### a statement whose order is open, step by step -/
end Go.Proofs.YteenjodhmppgjaaGreatDoor.Am
end
section
/- Subst: the program's answer and the reference's say the same. -/
namespace Go.Proofs.YteenjodhmppgjaaGreatDoor.Am
open Go
theorem mx_max (a b : Int) : mx a b = max a b := by unfold mx; split <;> omega
/-! ### the most that a list has for a variable -/
def lkp (v : Int) : List LV → Int
  | [] => -1
  | y :: l => if y.v = v then max y.p (lkp v l) else lkp v l
def Srt (l : List LV) : Prop := l.Pairwise (fun a b => a.v < b.v)
def NN (l : List LV) : Prop := ∀ y ∈ l, 0 ≤ y.p
theorem lkp_ge (v : Int) : ∀ l, -1 ≤ lkp v l
  | [] => by simp [lkp]
  | y :: l => by have := lkp_ge v l; unfold lkp; split <;> omega
theorem lkp_le (v n : Int) : ∀ l, lkp v l ≤ n ↔ -1 ≤ n ∧ ∀ y ∈ l, y.v = v → y.p ≤ n
  | [] => by simp [lkp]
  | y :: l => by
    have ih := lkp_le v n l
    unfold lkp
    simp only [List.mem_cons, forall_eq_or_imp]
    split
    · rename_i h
      rw [Int.max_le, ih]
      constructor
      · rintro ⟨a, b, c⟩; exact ⟨b, fun _ => a, c⟩
      · rintro ⟨a, b, c⟩; exact ⟨b h, a, c⟩
    · rename_i h
      rw [ih]
      constructor
      · rintro ⟨b, c⟩; exact ⟨b, fun e => absurd e h, c⟩
      · rintro ⟨a, b, c⟩; exact ⟨a, c⟩
theorem le_lkp {v : Int} {l : List LV} {y : LV} (h : y ∈ l) (hv : y.v = v) : y.p ≤ lkp v l := ((lkp_le v (lkp v l) l).1 (Int.le_refl _)).2 y h hv
theorem lkp_sub {v : Int} {l m : List LV} (h : ∀ y ∈ l, y ∈ m) : lkp v l ≤ lkp v m := (lkp_le v _ l).2 ⟨lkp_ge v m, fun y hy hv => le_lkp (h y hy) hv⟩
theorem lkp_congr {v : Int} {l m : List LV} (h : ∀ y, y ∈ l ↔ y ∈ m) : lkp v l = lkp v m := Int.le_antisymm (lkp_sub fun y hy => (h y).1 hy) (lkp_sub fun y hy => (h y).2 hy)
theorem lkp_append (v : Int) : ∀ l m, lkp v (l ++ m) = max (lkp v l) (lkp v m)
  | [], m => by have := lkp_ge v m; simp only [List.nil_append, lkp]; omega
  | y :: l, m => by
    have := lkp_append v l m
    simp only [List.cons_append, lkp]
    split <;> omega
theorem lkp_none {v : Int} {l : List LV} (h : ∀ y ∈ l, y.v ≠ v) : lkp v l = -1 :=
  Int.le_antisymm ((lkp_le v _ l).2 ⟨by omega, fun y hy hv => absurd hv (h y hy)⟩) (lkp_ge v l)
theorem uniq : ∀ {l m : List LV}, Srt l → Srt m → NN l → NN m → (∀ v, lkp v l = lkp v m) → l = m
  | [], [], _, _, _, _, _ => rfl
  | [], y :: m, _, _, _, n2, h => by
    have := le_lkp (v := y.v) (List.mem_cons_self : y ∈ y :: m) rfl
    rw [← h, lkp] at this
    have := n2 y List.mem_cons_self; omega
  | x :: l, [], _, _, n1, _, h => by
    have := le_lkp (v := x.v) (List.mem_cons_self : x ∈ x :: l) rfl
    rw [h, lkp] at this
    have := n1 x List.mem_cons_self; omega
  | x :: l, y :: m, s1, s2, n1, n2, h => by
    obtain ⟨a1, b1⟩ := List.pairwise_cons.1 s1
    obtain ⟨a2, b2⟩ := List.pairwise_cons.1 s2
    have hx := n1 x List.mem_cons_self
    have hy := n2 y List.mem_cons_self
    have lx : lkp x.v l = -1 := lkp_none fun e he => by have := a1 e he; omega
    have ly : lkp y.v m = -1 := lkp_none fun e he => by have := a2 e he; omega
    have hvv : x.v = y.v := by
      rcases Int.lt_trichotomy x.v y.v with hlt | heq | hgt
      · have h1 := h x.v
        rw [lkp_none (l := y :: m) (v := x.v) (by
          intro e he
          rcases List.mem_cons.1 he with rfl | he
          · omega
          · have := a2 e he; omega)] at h1
        simp only [lkp, if_true] at h1
        omega
      · exact heq
      · have h1 := h y.v
        rw [lkp_none (l := x :: l) (v := y.v) (by
          intro e he
          rcases List.mem_cons.1 he with rfl | he
          · omega
          · have := a1 e he; omega)] at h1
        simp only [lkp, if_true] at h1
        omega
    have h1 := h x.v
    rw [← hvv] at ly
    simp only [lkp, hvv, if_true] at h1
    rw [hvv] at lx ly
    have hp : x.p = y.p := by omega
    have e : x = y := by cases x; cases y; simp_all
    subst e
    rw [uniq b1 b2 (fun z hz => n1 z (List.mem_cons_of_mem _ hz)) (fun z hz => n2 z (List.mem_cons_of_mem _ hz)) (fun v => by
      have := h v
      simp only [lkp] at this
      by_cases hv : x.v = v
      · subst hv; rw [lx, ly]
      · simpa [hv] using this)]
/-! ### put -/
def ins (x : LV) : List LV → List LV
  | [] => [x]
  | y :: l => if x.v < y.v then x :: y :: l else if x.v = y.v then ⟨y.v, mx x.p y.p⟩ :: l else y :: ins x l
theorem put_done (x : LV) : ∀ (l a : List LV), (∀ y ∈ l, x.v ≠ y.v) → l.foldl (putStep x) (a, true) = (a ++ l, true)
  | [], a, _ => by simp
  | y :: l, a, h => by
    have h1 := h y List.mem_cons_self
    rw [List.foldl_cons]
    have e : putStep x (a, true) y = (a ++ [y], true) := by simp [putStep, h1]
    rw [e, put_done x l _ fun z hz => h z (List.mem_cons_of_mem _ hz)]
    simp
theorem put_fold (x : LV) : ∀ (l a : List LV), Srt l → (let s := l.foldl (putStep x) (a, false); if s.2 then s.1 else s.1 ++ [x]) = a ++ ins x l
  | [], a, _ => by simp [ins]
  | y :: l, a, h => by
    obtain ⟨h1, h2⟩ := List.pairwise_cons.1 h
    rw [List.foldl_cons]
    unfold ins
    by_cases c : x.v < y.v
    · have e : putStep x (a, false) y = (a ++ [x] ++ [y], true) := by
        have : ¬ x.v = y.v := by omega
        simp [putStep, c, this]
      rw [e, put_done x l _ fun z hz => by have := h1 z hz; omega]
      simp [c]
    · by_cases d : x.v = y.v
      · have e : putStep x (a, false) y = (a ++ [⟨y.v, mx x.p y.p⟩], true) := by
          simp [putStep, d]
        rw [e, put_done x l _ fun z hz => by have := h1 z hz; omega]
        simp [d]
      · have e : putStep x (a, false) y = (a ++ [y], false) := by
          simp [putStep, c, d]
        rw [e]
        have := put_fold x l (a ++ [y]) h2
        rw [this]
        simp [c, d]
theorem putL_ins {l : List LV} (x : LV) (h : Srt l) : putL l x = ins x l := by simpa [putL] using put_fold x l [] h
theorem ins_mem {x y : LV} : ∀ {l : List LV}, y ∈ ins x l → y.v = x.v ∨ y ∈ l
  | [], h => by simp [ins] at h; exact .inl (by rw [h])
  | z :: l, h => by
    unfold ins at h
    split at h
    · rcases List.mem_cons.1 h with rfl | h
      · exact .inl rfl
      · exact .inr h
    · split at h
      · rename_i e
        rcases List.mem_cons.1 h with rfl | h
        · exact .inl e.symm
        · exact .inr (List.mem_cons_of_mem _ h)
      · rcases List.mem_cons.1 h with rfl | h
        · exact .inr List.mem_cons_self
        · rcases ins_mem h with h | h
          · exact .inl h
          · exact .inr (List.mem_cons_of_mem _ h)
theorem ins_srt (x : LV) : ∀ {l : List LV}, Srt l → Srt (ins x l)
  | [], _ => by simp [ins, Srt]
  | y :: l, h => by
    obtain ⟨h1, h2⟩ := List.pairwise_cons.1 h
    unfold ins
    split
    · rename_i c
      refine List.pairwise_cons.2 ⟨fun z hz => ?_, h⟩
      rcases List.mem_cons.1 hz with rfl | hz
      · exact c
      · have := h1 z hz; omega
    · split
      · exact List.pairwise_cons.2 ⟨fun z hz => h1 z hz, h2⟩
      · refine List.pairwise_cons.2 ⟨fun z hz => ?_, ins_srt x h2⟩
        rcases ins_mem hz with hz | hz
        · omega
        · exact h1 z hz
theorem ins_nn {x : LV} (hx : 0 ≤ x.p) : ∀ {l : List LV}, NN l → NN (ins x l)
  | [], _ => by intro y hy; simp [ins] at hy; rw [hy]; exact hx
  | z :: l, h => by
    have hz := h z List.mem_cons_self
    have ih := ins_nn hx (l := l) fun e he => h e (List.mem_cons_of_mem _ he)
    unfold ins
    intro y hy
    split at hy
    · rcases List.mem_cons.1 hy with rfl | hy
      · exact hx
      · exact h y hy
    · split at hy
      · rcases List.mem_cons.1 hy with rfl | hy
        · show 0 ≤ mx x.p z.p
          rw [mx_max]; omega
        · exact h y (List.mem_cons_of_mem _ hy)
      · rcases List.mem_cons.1 hy with rfl | hy
        · exact hz
        · exact ih y hy
theorem ins_lkp (x : LV) (v : Int) : ∀ (l : List LV), lkp v (ins x l) = max (if x.v = v then x.p else -1) (lkp v l)
  | [] => by
    simp only [ins, lkp]
    split <;> omega
  | y :: l => by
    have ih := ins_lkp x v l
    have g := lkp_ge v l
    unfold ins
    split
    · simp only [lkp]
      split <;> split <;> omega
    · split
      · rename_i e
        simp only [lkp, mx_max, e]
        split <;> omega
      · simp only [lkp, ih]
        split <;> split <;> omega
theorem put_all : ∀ (l acc : List LV), Srt acc → NN acc → NN l → Srt (l.foldl putL acc) ∧ NN (l.foldl putL acc) ∧ ∀ v, lkp v (l.foldl putL acc) = max (lkp v acc) (lkp v l)
  | [], acc, h1, h2, _ => ⟨h1, h2, fun v => by have := lkp_ge v acc; simp only [List.foldl_nil, lkp]; omega⟩
  | x :: l, acc, h1, h2, h3 => by
    have hx := h3 x List.mem_cons_self
    rw [List.foldl_cons, putL_ins x h1]
    obtain ⟨a, b, c⟩ := put_all l (ins x acc) (ins_srt x h1) (ins_nn hx h2) fun e he => h3 e (List.mem_cons_of_mem _ he)
    refine ⟨a, b, fun v => ?_⟩
    have := lkp_ge v acc
    have := lkp_ge v l
    rw [c, ins_lkp]
    simp only [lkp]
    split <;> omega
/-! ### join -/
theorem join_mem : ∀ {a b : List LV} {y : LV}, y ∈ joinL a b → (∃ z ∈ a, z.v = y.v ∧ z.p ≤ y.p) ∨ ∃ z ∈ b, z.v = y.v ∧ z.p ≤ y.p
  | [], b, y, h => by rw [joinL] at h; exact .inr ⟨y, h, rfl, Int.le_refl _⟩
  | x :: a, [], y, h => by rw [joinL] at h; exact .inl ⟨y, h, rfl, Int.le_refl _⟩
  | x :: a, z :: b, y, h => by
    rw [joinL] at h
    split at h
    · rcases List.mem_cons.1 h with rfl | h
      · exact .inl ⟨_, List.mem_cons_self, rfl, Int.le_refl _⟩
      · rcases join_mem h with ⟨w, hw, e⟩ | ⟨w, hw, e⟩
        · exact .inl ⟨w, List.mem_cons_of_mem _ hw, e⟩
        · exact .inr ⟨w, hw, e⟩
    · split at h
      · rcases List.mem_cons.1 h with rfl | h
        · exact .inr ⟨_, List.mem_cons_self, rfl, Int.le_refl _⟩
        · rcases join_mem h with ⟨w, hw, e⟩ | ⟨w, hw, e⟩
          · exact .inl ⟨w, hw, e⟩
          · exact .inr ⟨w, List.mem_cons_of_mem _ hw, e⟩
      · rcases List.mem_cons.1 h with rfl | h
        · exact .inl ⟨x, List.mem_cons_self, rfl, by show x.p ≤ mx x.p z.p; rw [mx_max]; omega⟩
        · rcases join_mem h with ⟨w, hw, e⟩ | ⟨w, hw, e⟩
          · exact .inl ⟨w, List.mem_cons_of_mem _ hw, e⟩
          · exact .inr ⟨w, List.mem_cons_of_mem _ hw, e⟩
termination_by a b => a.length + b.length
theorem join_nn {a b : List LV} (h1 : NN a) (h2 : NN b) : NN (joinL a b) := by
  intro y hy
  rcases join_mem hy with ⟨z, hz, e, f⟩ | ⟨z, hz, e, f⟩
  · have := h1 z hz; omega
  · have := h2 z hz; omega
theorem join_srt : ∀ {a b : List LV}, Srt a → Srt b → Srt (joinL a b)
  | [], b, _, h => by rw [joinL]; exact h
  | x :: a, [], h, _ => by rw [joinL]; exact h
  | x :: a, z :: b, h, h' => by
    obtain ⟨h1, h2⟩ := List.pairwise_cons.1 h
    obtain ⟨g1, g2⟩ := List.pairwise_cons.1 h'
    rw [joinL]
    split
    · rename_i c
      refine List.pairwise_cons.2 ⟨fun y hy => ?_, join_srt h2 h'⟩
      rcases join_mem hy with ⟨w, hw, e, _⟩ | ⟨w, hw, e, _⟩
      · have := h1 w hw; omega
      · rcases List.mem_cons.1 hw with rfl | hw
        · omega
        · have := g1 w hw; omega
    · split
      · rename_i c
        refine List.pairwise_cons.2 ⟨fun y hy => ?_, join_srt h g2⟩
        rcases join_mem hy with ⟨w, hw, e, _⟩ | ⟨w, hw, e, _⟩
        · rcases List.mem_cons.1 hw with rfl | hw
          · omega
          · have := h1 w hw; omega
        · have := g1 w hw; omega
      · refine List.pairwise_cons.2 ⟨fun y hy => ?_, join_srt h2 g2⟩
        show x.v < y.v
        rcases join_mem hy with ⟨w, hw, e, _⟩ | ⟨w, hw, e, _⟩
        · have := h1 w hw; omega
        · have := g1 w hw; omega
termination_by a b => a.length + b.length
theorem join_lkp (v : Int) : ∀ (a b : List LV), lkp v (joinL a b) = max (lkp v a) (lkp v b)
  | [], b => by have := lkp_ge v b; rw [joinL]; simp only [lkp]; omega
  | x :: a, [] => by have := lkp_ge v (x :: a); rw [joinL]; simp only [lkp] at this ⊢; omega
  | x :: a, z :: b => by
    rw [joinL]
    split
    · have := join_lkp v a (z :: b)
      simp only [lkp] at this ⊢
      rw [this]
      split <;> split <;> omega
    · split
      · have := join_lkp v (x :: a) b
        simp only [lkp] at this ⊢
        rw [this]
        split <;> split <;> omega
      · have := join_lkp v a b
        have e : x.v = z.v := by omega
        simp only [lkp, mx_max, e, this]
        split <;> omega
termination_by a b => a.length + b.length
/-! ### sorting -/
theorem insR_srt (x : LV) : ∀ (r s : List LV), Srt (r.reverse ++ s) → (∀ y ∈ s, x.v < y.v) → (∀ y ∈ r, y.v ≠ x.v) → Srt (insR x r s)
  | [], s, h, h1, _ => by
    rw [insR]
    exact List.pairwise_cons.2 ⟨h1, by simpa [Srt] using h⟩
  | y :: r, s, h, h1, h2 => by
    have hy := h2 y List.mem_cons_self
    rw [List.reverse_cons, List.append_assoc, List.singleton_append] at h
    unfold insR
    split
    · rename_i c
      refine insR_srt x r (y :: s) h ?_ fun z hz => h2 z (List.mem_cons_of_mem _ hz)
      intro z hz
      rcases List.mem_cons.1 hz with rfl | hz
      · exact c
      · exact h1 z hz
    · rename_i c
      rw [List.reverse_cons, List.append_assoc, List.singleton_append]
      unfold Srt at h ⊢
      rw [List.pairwise_append] at h ⊢
      obtain ⟨p1, p2, p3⟩ := h
      obtain ⟨q1, q2⟩ := List.pairwise_cons.1 p2
      refine ⟨p1, List.pairwise_cons.2 ⟨?_, List.pairwise_cons.2 ⟨h1, q2⟩⟩, ?_⟩
      · intro z hz
        rcases List.mem_cons.1 hz with rfl | hz
        · omega
        · exact q1 z hz
      · intro w hw z hz
        have hwy := p3 w hw y List.mem_cons_self
        rcases List.mem_cons.1 hz with rfl | hz
        · exact hwy
        · rcases List.mem_cons.1 hz with rfl | hz
          · omega
          · have := q1 z hz; omega
theorem isort_srt : ∀ (r acc : List LV), Srt acc → (acc ++ r).Pairwise (fun a b => a.v ≠ b.v) → Srt (isort acc r)
  | [], acc, h, _ => by rw [isort]; exact h
  | x :: r, acc, h, h1 => by
    rw [isort]
    have hx : ∀ y ∈ acc, y.v ≠ x.v := fun y hy => (List.pairwise_append.1 h1).2.2 y hy x List.mem_cons_self
    have hs : Srt (insR x acc.reverse []) := insR_srt x acc.reverse [] (by simpa using h) (by simp) fun y hy => hx y (by simpa using hy)
    refine isort_srt r _ hs ?_
    have hp : ∀ {a b : LV}, a.v ≠ b.v → b.v ≠ a.v := fun h e => h e.symm
    have hs' : (insR x acc.reverse []).Pairwise (fun a b => a.v ≠ b.v) := hs.imp fun {a b} h => by omega
    obtain ⟨p1, p2, p3⟩ := List.pairwise_append.1 h1
    obtain ⟨q1, q2⟩ := List.pairwise_cons.1 p2
    refine List.pairwise_append.2 ⟨hs', q2, fun a ha b hb => ?_⟩
    rcases (insR_mem x acc.reverse [] a).1 ha with rfl | ha | ha
    · exact q1 b hb
    · exact p3 a (by simpa using ha) b (List.mem_cons_of_mem _ hb)
    · cases ha
theorem sortL_srt {l : List LV} (h : l.Pairwise (fun a b => a.v ≠ b.v)) : Srt (sortL l) := by
  cases l with
  | nil => exact List.Pairwise.nil
  | cons a r => unfold sortL; exact isort_srt r [a] (by simp [Srt]) (by simpa using h)
end Go.Proofs.YteenjodhmppgjaaGreatDoor.Am
end
section
/- Subst: the program's answer and the reference's say the same, second part. -/
namespace Go.Proofs.YteenjodhmppgjaaGreatDoor.Am
open Go
/-! ### what is valid -/
theorem valid_ok {x : Lev} (h : x.valid = true) : ∀ y ∈ x.vs, 0 ≤ y.v ∧ 0 ≤ y.p ∧ y.p ≤ 1000 := by
  intro y hy
  obtain ⟨k, hk⟩ := List.getElem?_of_mem hy
  have := okLV_of_valid h hk
  simp [okLV] at this; omega
theorem valid_c {x : Lev} (h : x.valid = true) : 0 ≤ x.c ∧ x.c ≤ 1000 := by
  unfold Lev.valid at h
  simp only [Bool.and_eq_true, decide_eq_true_eq] at h
  exact ⟨h.1.1.1, h.1.1.2⟩
theorem valid_ne {x : Lev} (h : x.valid = true) : x.vs.Pairwise (fun a b => a.v ≠ b.v) := by
  unfold Lev.valid at h
  simp only [Bool.and_eq_true, Option.isNone_iff_eq_none] at h
  have hn := none_iff.1 h.2
  rw [List.pairwise_iff_getElem]
  intro i j hi hj hij e
  have := hn j x.vs[j] (by simp [hj])
  simp only [Nat.zero_add, badLV, Bool.or_eq_false_iff, List.any_eq_false] at this
  have h2 := this.2 x.vs[i] (by
    rw [List.mem_take_iff_getElem]
    exact ⟨i, by omega, rfl⟩)
  simp [e] at h2
/-! ### the most of all -/
theorem le_most (c : Int) : ∀ (l : List LV) (m : Int), c ≤ l.foldl (fun m x => mx m x.p) m ↔ c ≤ m ∨ ∃ y ∈ l, c ≤ y.p
  | [], m => by simp
  | x :: l, m => by
    rw [List.foldl_cons, le_most c l, mx_max]
    simp only [List.mem_cons, exists_eq_or_imp]
    rw [← or_assoc]
    have : c ≤ max m x.p ↔ c ≤ m ∨ c ≤ x.p := by omega
    rw [this]
theorem le_mostI (c : Int) (l : List LV) : c ≤ mostI l ↔ c ≤ -1 ∨ ∃ y ∈ l, c ≤ y.p := le_most c l (-1)
theorem cut_all : ∀ (l : List LV) (c : Int), NN l → 0 ≤ c → l.foldl cutC1 c = if c ≤ mostI l then 0 else c
  | [], c, _, h => by
    have e := le_mostI c []
    rw [List.foldl_nil, if_neg (by
      rw [e]
      rintro (h | ⟨_, h, _⟩)
      · omega
      · cases h)]
  | x :: l, c, h, hc => by
    have hx := h x List.mem_cons_self
    have hl : NN l := fun y hy => h y (List.mem_cons_of_mem _ hy)
    have e := le_mostI c (x :: l)
    have e' := le_mostI c l
    simp only [List.mem_cons, exists_eq_or_imp] at e
    rw [List.foldl_cons]
    have eu : cutC1 c x = if x.p ≥ c then 0 else c := rfl
    rw [eu]
    by_cases h1 : x.p ≥ c
    · rw [if_pos h1, cut_all l 0 hl (by omega), if_pos (e.2 (.inr (.inl h1)))]
      split <;> rfl
    · rw [if_neg h1, cut_all l c hl hc]
      by_cases h2 : c ≤ mostI l
      · rw [if_pos h2, if_pos]
        rw [e]
        rcases e'.1 h2 with h | h
        · exact .inl h
        · exact .inr (.inr h)
      · rw [if_neg h2, if_neg]
        rw [e]
        rintro (h | h | h)
        · omega
        · omega
        · exact h2 (e'.2 (.inr h))
/-! ### what is put for a variable -/
def entR (bys : List Lev) (y : LV) : List LV := (bOf bys y).2.map (moreLV y.p)
def entP (bys : List Lev) (y : LV) : List LV := (sortL (bOf bys y).2).map (moreLV y.p)
theorem bOf_ok {bys : List Lev} {y : LV} (hb : badBy bys y = false) : ((bOf bys y).2.Pairwise fun a b => a.v ≠ b.v) ∧ (∀ z ∈ (bOf bys y).2, 0 ≤ z.p ∧ z.p ≤ 1000) ∧ 0 ≤ (bOf bys y).1 ∧ (bOf bys y).1 ≤ 1000 := by
  unfold badBy at hb
  unfold bOf
  cases h : bys[y.v.toNat]? with
  | none => simp
  | some b =>
    rw [h] at hb
    have hv : b.valid = true := by simpa using hb
    exact ⟨valid_ne hv, fun z hz => (valid_ok hv z hz).2, valid_c hv⟩
theorem more_p {n : Int} {z : LV} (h0 : 0 ≤ n) (h1 : n ≤ 1000) (h2 : 0 ≤ z.p ∧ z.p ≤ 1000) : (moreLV n z).p = z.p + n ∧ (moreLV n z).v = z.v := ⟨wr_id (by omega) (by omega), rfl⟩
theorem map_srt {n : Int} {l : List LV} (h : Srt l) : Srt (l.map (moreLV n)) := by
  unfold Srt at h ⊢
  rw [List.pairwise_map]; exact h
theorem entR_nn {bys : List Lev} {y : LV} (hb : badBy bys y = false) (hy : 0 ≤ y.p ∧ y.p ≤ 1000) : NN (entR bys y) := by
  intro e he
  obtain ⟨z, hz, rfl⟩ := List.mem_map.1 he
  have h := (bOf_ok hb).2.1 z hz
  rw [(more_p hy.1 hy.2 h).1]; omega
theorem ent_mem (bys : List Lev) (y e : LV) : e ∈ entP bys y ↔ e ∈ entR bys y := by
  unfold entP entR
  rw [List.mem_map, List.mem_map]
  simp only [sortL_mem]
theorem entP_nn {bys : List Lev} {y : LV} (hb : badBy bys y = false) (hy : 0 ≤ y.p ∧ y.p ≤ 1000) : NN (entP bys y) := fun e he => entR_nn hb hy e ((ent_mem bys y e).1 he)
theorem entP_srt {bys : List Lev} {y : LV} (hb : badBy bys y = false) : Srt (entP bys y) := map_srt (sortL_srt (bOf_ok hb).1)
/-- The program's fold. -/
theorem foldP (bys : List Lev) : ∀ (ys : List LV) (s : Int × List LV), (∀ y ∈ ys, badBy bys y = false ∧ 0 ≤ y.p ∧ y.p ≤ 1000) → Srt s.2 → NN s.2 →
    Srt (ys.foldl (stepP bys) s).2 ∧ NN (ys.foldl (stepP bys) s).2 ∧ (∀ v, lkp v (ys.foldl (stepP bys) s).2 = max (lkp v s.2) (lkp v (ys.flatMap (entR bys)))) ∧ ∀ n, (ys.foldl (stepP bys) s).1 ≤ n ↔ s.1 ≤ n ∧ ∀ y ∈ ys, (bOf bys y).1 + y.p ≤ n
  | [], s, _, h1, h2 => ⟨h1, h2, fun v => by have := lkp_ge v s.2; simp only [List.foldl_nil, List.flatMap_nil, lkp]; omega, fun n => by simp⟩
  | y :: ys, s, h, h1, h2 => by
    obtain ⟨hb, hy⟩ := h y List.mem_cons_self
    rw [List.foldl_cons]
    obtain ⟨a, b, c, d⟩ := foldP bys ys (stepP bys s y) (fun z hz => h z (List.mem_cons_of_mem _ hz)) (join_srt h1 (entP_srt hb)) (join_nn h2 (entP_nn hb hy))
    refine ⟨a, b, fun v => ?_, fun n => ?_⟩
    · have e1 : lkp v (stepP bys s y).2 = max (lkp v s.2) (lkp v (entR bys y)) := by
        show lkp v (joinL s.2 (entP bys y)) = _
        rw [join_lkp, lkp_congr (ent_mem bys y)]
      rw [c, e1, List.flatMap_cons, lkp_append]; omega
    · have e1 : (stepP bys s y).1 = max s.1 ((bOf bys y).1 + y.p) := by
        have := (bOf_ok hb).2.2
        show mx s.1 (wr ((bOf bys y).1 + y.p)) = _
        rw [mx_max, wr_id (by omega) (by omega)]
      rw [d, e1, Int.max_le]
      simp only [List.mem_cons, forall_eq_or_imp, and_assoc]
/-- The reference's fold. -/
theorem foldR (bys : List Lev) : ∀ (ys : List LV) (s : Int × List LV), (∀ y ∈ ys, 0 ≤ y.v ∧ 0 ≤ y.p ∧ y.p ≤ 1000) →
    if ys.any (badBy bys) = true then foldE (substStep bys) s ys = .inr () else ∃ c, foldE (substStep bys) s ys = .inl (c, s.2 ++ ys.flatMap (entR bys)) ∧ ∀ n, c ≤ n ↔ s.1 ≤ n ∧ ∀ y ∈ ys, y.v < bys.length → (bOf bys y).1 + y.p ≤ n
  | [], s, _ => by
    rw [List.any_nil, if_neg (by simp)]
    exact ⟨s.1, by simp [foldE], by simp⟩
  | y :: ys, s, h => by
    have hy := h y List.mem_cons_self
    have hys : ∀ z ∈ ys, 0 ≤ z.v ∧ 0 ≤ z.p ∧ z.p ≤ 1000 := fun z hz => h z (List.mem_cons_of_mem _ hz)
    rw [List.any_cons]
    simp only [foldE]
    by_cases c : y.v ≥ bys.length
    · have hn : bys[y.v.toNat]? = none := List.getElem?_eq_none (by omega)
      have hb : badBy bys y = false := by unfold badBy; rw [hn]
      have hs : substStep bys s y = .inl (s.1, s.2 ++ [y]) := by unfold substStep; rw [if_pos c]
      have he : entR bys y = [y] := by
        unfold entR bOf; rw [hn]
        simp only [List.map_cons, List.map_nil, moreLV]
        rw [wr_id (by omega) (by omega)]; simp
      rw [hs, hb, Bool.false_or]
      have ih := foldR bys ys (s.1, s.2 ++ [y]) hys
      split
      · rename_i hh; rw [if_pos hh] at ih; exact ih
      · rename_i hh
        rw [if_neg hh] at ih
        obtain ⟨c', e, hc⟩ := ih
        refine ⟨c', by dsimp only; rw [e, List.flatMap_cons, he]; simp, fun n => ?_⟩
        rw [hc]
        simp only [List.mem_cons, forall_eq_or_imp]
        constructor
        · rintro ⟨p, q⟩; exact ⟨p, fun hlt => by omega, q⟩
        · rintro ⟨p, _, q⟩; exact ⟨p, q⟩
    · have hlt : y.v.toNat < bys.length := by omega
      have hg : bys[y.v.toNat]? = some bys[y.v.toNat] := by simp [hlt]
      generalize bys[y.v.toNat] = b at hg
      have hs : substStep bys s y = if b.valid then .inl (mx s.1 (wr (b.c + y.p)), s.2 ++ b.vs.map (moreLV y.p)) else .inr () := by
        unfold substStep; rw [if_neg c, hg]
      have hb : badBy bys y = !b.valid := by unfold badBy; rw [hg]
      rw [hs, hb]
      cases hv : b.valid with
      | false => simp
      | true =>
        have ho : bOf bys y = (b.c, b.vs) := by unfold bOf; rw [hg]
        have he : entR bys y = b.vs.map (moreLV y.p) := by unfold entR; rw [ho]
        have hbc := valid_c hv
        rw [Bool.not_true, Bool.false_or, if_pos rfl]
        have ih := foldR bys ys (mx s.1 (wr (b.c + y.p)), s.2 ++ b.vs.map (moreLV y.p)) hys
        split
        · rename_i hh; rw [if_pos hh] at ih; exact ih
        · rename_i hh
          rw [if_neg hh] at ih
          obtain ⟨c', e, hc⟩ := ih
          refine ⟨c', by dsimp only; rw [e, List.flatMap_cons, he]; simp, fun n => ?_⟩
          rw [hc, mx_max, wr_id (by omega) (by omega), Int.max_le]
          simp only [List.mem_cons, forall_eq_or_imp, ho]
          constructor
          · rintro ⟨⟨p, r⟩, q⟩; exact ⟨p, fun _ => r, q⟩
          · rintro ⟨p, r, q⟩; exact ⟨⟨p, r (by omega)⟩, q⟩
theorem allR_refl {α : Type} (R : α → α → Bool) (h : ∀ x, R x x = true) : ∀ l : List α, allR R l l = true
  | [] => rfl
  | x :: l => by rw [allR, h, allR_refl R h l]; rfl
theorem eqLV_refl (x : LV) : eqLV x x = true := by simp [eqLV]
theorem eqLev_of {x y : Lev} (h1 : x.c = y.c) (h2 : x.vs = y.vs) : eqLev x y = true := by
  unfold eqLev; rw [h1, h2, allR_refl _ eqLV_refl]; simp
/-- Both say the same. -/
theorem subst_same (x : Lev) (bys : List Lev) : (substP x bys).2 = (substR x bys).2 ∧ eqLev (substP x bys).1 (substR x bys).1 = true := by
  unfold substP substR
  cases hv : x.valid with
  | false => exact ⟨rfl, rfl⟩
  | true =>
    rw [if_pos rfl, if_pos rfl]
    have hok := valid_ok hv
    have hR := foldR bys x.vs (x.c, []) hok
    by_cases hb : x.vs.any (badBy bys) = true
    · rw [if_pos hb] at hR
      rw [if_pos hb, hR]; exact ⟨rfl, rfl⟩
    · rw [if_neg hb] at hR
      rw [if_neg hb]
      obtain ⟨cR, e, hcR⟩ := hR
      rw [e]
      dsimp only
      rw [List.nil_append]
      have hgood : ∀ y ∈ x.vs, badBy bys y = false := fun y hy => by simpa using (List.any_eq_false.1 (by simpa using hb)) y hy
      obtain ⟨p1, p2, p3, p4⟩ := foldP bys (sortL x.vs) (x.c, []) (fun y hy => ⟨hgood y ((sortL_mem _ _).1 hy), (hok y ((sortL_mem _ _).1 hy)).2⟩) List.Pairwise.nil (fun _ h => by cases h)
      have hnn : NN (x.vs.flatMap (entR bys)) := by
        intro z hz
        obtain ⟨y, hy, hz⟩ := List.mem_flatMap.1 hz
        exact entR_nn (hgood y hy) (hok y hy).2 z hz
      obtain ⟨q1, q2, q3⟩ := put_all (x.vs.flatMap (entR bys)) [] List.Pairwise.nil (fun _ h => by cases h) hnn
      have hl : ((sortL x.vs).foldl (stepP bys) (x.c, [])).2 = (x.vs.flatMap (entR bys)).foldl putL [] := by
        refine uniq p1 q1 p2 q2 fun v => ?_
        rw [p3, q3, lkp_congr (l := (sortL x.vs).flatMap (entR bys)) (m := x.vs.flatMap (entR bys))]
        intro z
        simp only [List.mem_flatMap, sortL_mem]
      rw [← hl] at q2 q3
      simp only [canonR]
      rw [← hl]
      generalize ((sortL x.vs).foldl (stepP bys) (x.c, [])).2 = l at *
      generalize ((sortL x.vs).foldl (stepP bys) (x.c, [])).1 = cP at *
      have h0 : 0 ≤ cR := by
        have := ((hcR cR).1 (Int.le_refl _)).1
        have := (valid_c hv).1
        omega
      rw [cut_all l cR q2 h0]
      have hRP : cR ≤ cP := by
        rw [hcR]
        have := (p4 cP).1 (Int.le_refl _)
        exact ⟨this.1, fun y hy _ => this.2 y ((sortL_mem _ _).2 hy)⟩
      have hPR : cP ≤ max cR (mostI l) := by
        rw [p4]
        have := (hcR cR).1 (Int.le_refl _)
        refine ⟨by omega, fun y hy => ?_⟩
        have hy' := (sortL_mem _ _).1 hy
        by_cases hlt : y.v < bys.length
        · have := this.2 y hy' hlt; omega
        · have hn : bys[y.v.toNat]? = none := List.getElem?_eq_none (by have := (hok y hy').1; omega)
          have ho : bOf bys y = (0, [⟨y.v, 0⟩]) := by unfold bOf; rw [hn]
          have hmem : y ∈ entR bys y := by
            have := hok y hy'
            unfold entR; rw [ho]
            simp only [List.map_cons, List.map_nil, moreLV, List.mem_singleton]
            rw [wr_id (by omega) (by omega)]; simp
          have h1 : y.p ≤ lkp y.v l := by
            rw [q3]
            have := le_lkp (v := y.v) (List.mem_flatMap.2 ⟨y, hy', hmem⟩ : y ∈ x.vs.flatMap (entR bys)) rfl
            omega
          have h2 : lkp y.v l ≤ mostI l := by
            rw [lkp_le]
            exact ⟨by rw [le_mostI]; exact .inl (by omega), fun z hz _ => by rw [le_mostI]; exact .inr ⟨z, hz, Int.le_refl _⟩⟩
          rw [ho]; dsimp only; omega
      have hc : (if cP ≤ mostI l then 0 else cP) = (if cR ≤ mostI l then 0 else cR) := by
        split <;> split <;> omega
      unfold canonP fitsR
      dsimp only
      rw [hc]
      generalize (if cR ≤ mostI l then 0 else cR) = c
      have hm : mostI l > 1000 ↔ l.any (fun y => decide (y.p > 1000)) = true := by
        have := le_mostI 1001 l
        simp only [List.any_eq_true, decide_eq_true_eq]
        constructor
        · intro h
          rcases this.1 (by omega) with h | ⟨y, hy, h⟩
          · omega
          · exact ⟨y, hy, by omega⟩
        · rintro ⟨y, hy, h⟩
          have := this.2 (.inr ⟨y, hy, by omega⟩)
          omega
      by_cases hbad : c > 1000 ∨ mostI l > 1000 ∨ (l.length : Int) > 8
      · rw [if_pos hbad, if_pos (by rw [← hm]; omega)]; exact ⟨rfl, rfl⟩
      · rw [if_neg hbad, if_neg (by rw [← hm]; omega)]
        exact ⟨rfl, eqLev_of rfl rfl⟩
end Go.Proofs.YteenjodhmppgjaaGreatDoor.Am
end
section
/- TableTypes: the law. -/
namespace Go.Proofs.YteenjodhmppgjaaGreatDoor.Am
open Go
variable (ext : Ext)
theorem mapE_same {α β γ : Type} (f : α → β × Int) (g : α → γ × Int) (R : β → γ → Bool) : ∀ (l : List α), (∀ x ∈ l, (f x).2 = (g x).2 ∧ R (f x).1 (g x).1 = true) →
    (∃ e, mapE f l = .inr e ∧ mapE g l = .inr e) ∨ ∃ r s, mapE f l = .inl r ∧ mapE g l = .inl s ∧ allR R r s = true
  | [], _ => .inr ⟨[], [], rfl, rfl, rfl⟩
  | x :: l, h => by
    obtain ⟨h1, h2⟩ := h x List.mem_cons_self
    simp only [mapE]
    rw [← h1]
    by_cases c : (f x).2 = 0
    · rw [if_pos c, if_pos c]
      rcases mapE_same f g R l (fun y hy => h y (List.mem_cons_of_mem _ hy)) with ⟨e, a, b⟩ | ⟨r, s, a, b, d⟩
      · rw [a, b]; exact .inl ⟨e, rfl, rfl⟩
      · rw [a, b]; exact .inr ⟨_, _, rfl, rfl, by rw [allR, h2, d]; rfl⟩
    · rw [if_neg c, if_neg c]; exact .inl ⟨_, rfl, rfl⟩
theorem eqTm_zTm : eqTm zTm zTm = true := by rw [eqTm_eq]; simp [zTm, Tm.op, Tm.n, Tm.s, Tm.u, Tm.l, allR]
theorem setL_same {f g : Lev → Lev × Int} (h : ∀ u, (f u).2 = (g u).2 ∧ eqLev (f u).1 (g u).1 = true) : ∀ (N : Nat) (x : Tm), x.sz ≤ N → (setL f x).2 = (setL g x).2 ∧ eqTm (setL f x).1 (setL g x).1 = true
  | 0, x, hN => by have := x.sz_pos; omega
  | N + 1, x, hN => by
    rw [setL_eq f, setL_eq g]
    rcases mapE_same f g eqLev x.u (fun u _ => h u) with ⟨e, a, b⟩ | ⟨r, s, a, b, d⟩
    · rw [a, b]; exact ⟨rfl, eqTm_zTm⟩
    · rw [a, b]
      dsimp only
      rcases mapE_same (setL f) (setL g) eqTm x.l (fun y hy => setL_same h N y (by have := Tm.sz_lt hy; omega)) with ⟨e, a', b'⟩ | ⟨r', s', a', b', d'⟩
      · rw [a', b']; exact ⟨rfl, eqTm_zTm⟩
      · rw [a', b']
        refine ⟨rfl, ?_⟩
        rw [eqTm_eq]
        simp [Tm.op, Tm.n, Tm.s, Tm.u, Tm.l, d, d']
theorem mapE_sum {α β : Type} (f : α → β × Int) (g : α → Nat) (g' : β → Nat) : ∀ (l : List α) (r : List β), mapE f l = .inl r → (∀ x ∈ l, g' (f x).1 ≤ 9 * g x) → (r.map g').sum ≤ 9 * (l.map g).sum
  | [], r, h, _ => by cases h; simp
  | x :: l, r, h, hx => by
    simp only [mapE] at h
    split at h
    · split at h
      · rename_i r' e
        cases h
        have := mapE_sum f g g' l r' e fun y hy => hx y (List.mem_cons_of_mem _ hy)
        have := hx x List.mem_cons_self
        simp only [List.map_cons, List.sum_cons]; omega
      · cases h
    · cases h
theorem zTm_sz : zTm.sz = 1 := by rw [Tm.sz_eq]; rfl
theorem setL_sz {f : Lev → Lev × Int} (h : ∀ u, (f u).1.sz ≤ 9) : ∀ (N : Nat) (x : Tm), x.sz ≤ N → (setL f x).1.sz ≤ 9 * x.sz
  | 0, x, hN => by have := x.sz_pos; omega
  | N + 1, x, hN => by
    have hp := x.sz_pos
    rw [setL_eq f]
    split
    · rw [zTm_sz]; omega
    · rename_i u' e
      split
      · rw [zTm_sz]; omega
      · rename_i l' e'
        have h1 := mapE_sum f Lev.sz Lev.sz x.u u' e fun y _ => by have := h y; have := Lev.sz_pos y; omega
        have h2 := mapE_sum (setL f) Tm.sz Tm.sz x.l l' e' fun y hy => setL_sz h N y (by have := Tm.sz_lt hy; omega)
        have hs := Tm.sz_eq (.mk x.op x.n x.s u' true l' true)
        have hs' : (Tm.mk x.op x.n x.s u' true l' true).sz = 1 + (u'.map Lev.sz).sum + (l'.map Tm.sz).sum := hs
        have hx := x.sz_eq
        dsimp only
        omega
theorem canonP_len (c : Int) (l : List LV) (z : Bool) : (canonP c l z).1.vs.length ≤ 8 := by
  unfold canonP
  by_cases h : (if c ≤ mostI l then 0 else c) > 1000 ∨ mostI l > 1000 ∨ (l.length : Int) > 8
  · rw [if_pos h]; simp [zLev]
  · rw [if_neg h]; show l.length ≤ 8; omega
theorem substP_sz (bys : List Lev) (u : Lev) : (substP u bys).1.sz ≤ 9 := by
  unfold substP Lev.sz
  split
  · split
    · simp [zLev]
    · have := canonP_len ((sortL u.vs).foldl (stepP bys) (u.c, [])).1 ((sortL u.vs).foldl (stepP bys) (u.c, [])).2 u.vs.isEmpty
      omega
  · simp [zLev]
end Go.Proofs.YteenjodhmppgjaaGreatDoor.Am
end
section
/- The families: Param, Over, Sort, by the program and by the reference. -/
namespace Go.Proofs.YteenjodhmppgjaaGreatDoor.Am
open Go
variable (ext : Ext)
set_option maxHeartbeats 8000000
def family (x : Tb) (s : ByteArray) : Dc × Bool := match x.ds.find? (isNm s) with
  | none => (zDc, false)
  | some d => if d.kind = 4 then (d, true) else (zDc, false)
theorem fam71 (hx : ext 71 = none) (h22 : ext 22 = none) (h69 : ext 69 = none) (h70 : ext 70 = none) (x : Tb) (s : ByteArray) (hs : x.ds.length < 2 ^ 50) : run Tryz.prog ext (.call 71 [tbV x, sV s] []) = some (.ret [dcV (family x s).1, bV (family x s).2] []) := by
  have hr := find22 ext h22 h69 h70 x s hs
  unfold family
  cases hf : x.ds.find? (isNm s) with
  | none =>
    rw [find_none hf] at hr
    (rw [run_eq]; simp only [stepA, hx, Tryz.func71, Tryz.f71, show retF 71 = false from rfl]; simp only [List.length_cons, List.length_nil, Nat.reduceAdd, Nat.reduceLeDiff, Nat.zero_le, ↓reduceIte, List.zipIdx_cons, List.zipIdx_nil, List.map_cons, List.map_nil])
    simp only [dcV, tbV, tbC, sV, iV, bV] at hr ⊢
    simp only [zS, nilEq, wantedA, opA, eff, boxA, cells, ev, gt, pt, putO, updO, setO, okC, loadA, cutC, fieldAddrA, fieldA, indexAddrA, indexA, builtinA, callOpA, callV, target, ptrV, lenS, binA, intOp, strOp, unA, num, lk, over, allocA, pickA, buildA, fillA, convertA, extractA, ofComp, nilCheckA, makeFuncA, ptrs, ofValue, cellB, Nat.reduceAdd, Nat.reduceSub, Nat.reduceMul, Nat.reduceLT, Nat.reduceLeDiff, Nat.reduceGT, ↓reduceIte, Nat.reduceEqDiff, Nat.reduceBEq, reduceCtorEq, Int.reduceBEq, Int.reduceBNe, Int.reduceLT, Int.reduceLE, Int.reduceGT, Int.reduceGE, aggT_24, sizeT_24, bytesT_24, fieldT_24_0, placesT_24, zeroT_24, aggT_39, sizeT_39, bytesT_39, fieldT_39_0, fieldT_39_1, fieldT_39_2, fieldT_39_3, fieldT_39_4, fieldT_39_5, fieldT_39_6, fieldT_39_7, fieldT_39_8, placesT_39, zeroT_39, aggT_22, sizeT_22, bytesT_22, und_22, elemT_22, isSliceT_22, zero1_22, zeroT_22, aggT_9, sizeT_9, bytesT_9, und_9, zero1_9, zeroT_9, aggT_3, sizeT_3, bytesT_3, und_3, zero1_3, zeroT_3, hr]
    (refine Eq.trans ?_ rfl; kernel_rfl)
  | some d =>
    obtain ⟨k, e1, hk, hl⟩ := find_some' hf
    have h0 : (0 : Int) ≤ k := by omega
    have h0' : ¬ ((k : Int) < 0) := by omega
    rw [e1] at hr
    dsimp only
    by_cases c1 : d.kind = 4
    · rw [if_pos c1]
      (rw [run_eq]; simp only [stepA, hx, Tryz.func71, Tryz.f71, show retF 71 = false from rfl]; simp only [List.length_cons, List.length_nil, Nat.reduceAdd, Nat.reduceLeDiff, Nat.zero_le, ↓reduceIte, List.zipIdx_cons, List.zipIdx_nil, List.map_cons, List.map_nil])
      simp only [dcV, dcC, tbV, tbC, sV, iV, bV, dsD_lt h0 hl] at hr ⊢
      simp only [zS, nilEq, wantedA, opA, eff, boxA, cells, ev, gt, pt, putO, updO, setO, okC, loadA, cutC, fieldAddrA, fieldA, indexAddrA, indexA, builtinA, callOpA, callV, target, ptrV, lenS, binA, intOp, strOp, unA, num, lk, over, allocA, pickA, buildA, fillA, convertA, extractA, ofComp, nilCheckA, makeFuncA, ptrs, ofValue, cellB, Nat.reduceAdd, Nat.reduceSub, Nat.reduceMul, Nat.reduceLT, Nat.reduceLeDiff, Nat.reduceGT, ↓reduceIte, Nat.reduceEqDiff, Nat.reduceBEq, reduceCtorEq, Int.reduceBEq, Int.reduceBNe, Int.reduceLT, Int.reduceLE, Int.reduceGT, Int.reduceGE, aggT_24, sizeT_24, bytesT_24, fieldT_24_0, placesT_24, zeroT_24, aggT_39, sizeT_39, bytesT_39, fieldT_39_0, fieldT_39_1, fieldT_39_2, fieldT_39_3, fieldT_39_4, fieldT_39_5, fieldT_39_6, fieldT_39_7, fieldT_39_8, placesT_39, zeroT_39, aggT_22, sizeT_22, bytesT_22, und_22, elemT_22, isSliceT_22, zero1_22, zeroT_22, aggT_9, sizeT_9, bytesT_9, und_9, zero1_9, zeroT_9, aggT_3, sizeT_3, bytesT_3, und_3, zero1_3, zeroT_3, hr, h0, h0', hl, Int.toNat_natCast, hk, dcD_eq d, c1]
      (refine Eq.trans ?_ rfl; kernel_rfl)
    · rw [if_neg c1]
      (rw [run_eq]; simp only [stepA, hx, Tryz.func71, Tryz.f71, show retF 71 = false from rfl]; simp only [List.length_cons, List.length_nil, Nat.reduceAdd, Nat.reduceLeDiff, Nat.zero_le, ↓reduceIte, List.zipIdx_cons, List.zipIdx_nil, List.map_cons, List.map_nil])
      simp only [dcV, tbV, tbC, sV, iV, bV, dsD_lt h0 hl] at hr ⊢
      simp only [zS, nilEq, wantedA, opA, eff, boxA, cells, ev, gt, pt, putO, updO, setO, okC, loadA, cutC, fieldAddrA, fieldA, indexAddrA, indexA, builtinA, callOpA, callV, target, ptrV, lenS, binA, intOp, strOp, unA, num, lk, over, allocA, pickA, buildA, fillA, convertA, extractA, ofComp, nilCheckA, makeFuncA, ptrs, ofValue, cellB, Nat.reduceAdd, Nat.reduceSub, Nat.reduceMul, Nat.reduceLT, Nat.reduceLeDiff, Nat.reduceGT, ↓reduceIte, Nat.reduceEqDiff, Nat.reduceBEq, reduceCtorEq, Int.reduceBEq, Int.reduceBNe, Int.reduceLT, Int.reduceLE, Int.reduceGT, Int.reduceGE, aggT_24, sizeT_24, bytesT_24, fieldT_24_0, placesT_24, zeroT_24, aggT_39, sizeT_39, bytesT_39, fieldT_39_0, fieldT_39_1, fieldT_39_2, fieldT_39_3, fieldT_39_4, fieldT_39_5, fieldT_39_6, fieldT_39_7, fieldT_39_8, placesT_39, zeroT_39, aggT_22, sizeT_22, bytesT_22, und_22, elemT_22, isSliceT_22, zero1_22, zeroT_22, aggT_9, sizeT_9, bytesT_9, und_9, zero1_9, zeroT_9, aggT_3, sizeT_3, bytesT_3, und_3, zero1_3, zeroT_3, hr, h0, h0', hl, Int.toNat_natCast, hk, dcD_eq d, c1]
      (refine Eq.trans ?_ rfl; kernel_rfl)
theorem fam73 (hx : ext 73 = none) (h37 : ext 37 = none) (x : Tb) (s : ByteArray) (hs : x.ds.length < 2 ^ 50) : run Tryz.prog ext (.call 73 [tbV x, sV s] []) = some (.ret [dcV (family x s).1, bV (family x s).2] []) := by
  have hr := find37 ext h37 x s hs
  unfold family
  cases hf : x.ds.find? (isNm s) with
  | none =>
    rw [find_none hf] at hr
    (rw [run_eq]; simp only [stepA, hx, Tryz.func73, Tryz.f73, show retF 73 = false from rfl]; simp only [List.length_cons, List.length_nil, Nat.reduceAdd, Nat.reduceLeDiff, Nat.zero_le, ↓reduceIte, List.zipIdx_cons, List.zipIdx_nil, List.map_cons, List.map_nil])
    simp only [dcV, tbV, tbC, sV, iV, bV] at hr ⊢
    simp only [zS, nilEq, wantedA, opA, eff, boxA, cells, ev, gt, pt, putO, updO, setO, okC, loadA, cutC, fieldAddrA, fieldA, indexAddrA, indexA, builtinA, callOpA, callV, target, ptrV, lenS, binA, intOp, strOp, unA, num, lk, over, allocA, pickA, buildA, fillA, convertA, extractA, ofComp, nilCheckA, makeFuncA, ptrs, ofValue, cellB, Nat.reduceAdd, Nat.reduceSub, Nat.reduceMul, Nat.reduceLT, Nat.reduceLeDiff, Nat.reduceGT, ↓reduceIte, Nat.reduceEqDiff, Nat.reduceBEq, reduceCtorEq, Int.reduceBEq, Int.reduceBNe, Int.reduceLT, Int.reduceLE, Int.reduceGT, Int.reduceGE, aggT_24, sizeT_24, bytesT_24, fieldT_24_0, placesT_24, zeroT_24, aggT_39, sizeT_39, bytesT_39, fieldT_39_0, fieldT_39_1, fieldT_39_2, fieldT_39_3, fieldT_39_4, fieldT_39_5, fieldT_39_6, fieldT_39_7, fieldT_39_8, placesT_39, zeroT_39, aggT_22, sizeT_22, bytesT_22, und_22, elemT_22, isSliceT_22, zero1_22, zeroT_22, aggT_9, sizeT_9, bytesT_9, und_9, zero1_9, zeroT_9, aggT_3, sizeT_3, bytesT_3, und_3, zero1_3, zeroT_3, hr]
    (refine Eq.trans ?_ rfl; kernel_rfl)
  | some d =>
    obtain ⟨k, e1, hk, hl⟩ := find_some' hf
    have h0 : (0 : Int) ≤ k := by omega
    have h0' : ¬ ((k : Int) < 0) := by omega
    rw [e1] at hr
    dsimp only
    by_cases c1 : d.kind = 4
    · rw [if_pos c1]
      (rw [run_eq]; simp only [stepA, hx, Tryz.func73, Tryz.f73, show retF 73 = false from rfl]; simp only [List.length_cons, List.length_nil, Nat.reduceAdd, Nat.reduceLeDiff, Nat.zero_le, ↓reduceIte, List.zipIdx_cons, List.zipIdx_nil, List.map_cons, List.map_nil])
      simp only [dcV, dcC, tbV, tbC, sV, iV, bV, dsD_lt h0 hl] at hr ⊢
      simp only [zS, nilEq, wantedA, opA, eff, boxA, cells, ev, gt, pt, putO, updO, setO, okC, loadA, cutC, fieldAddrA, fieldA, indexAddrA, indexA, builtinA, callOpA, callV, target, ptrV, lenS, binA, intOp, strOp, unA, num, lk, over, allocA, pickA, buildA, fillA, convertA, extractA, ofComp, nilCheckA, makeFuncA, ptrs, ofValue, cellB, Nat.reduceAdd, Nat.reduceSub, Nat.reduceMul, Nat.reduceLT, Nat.reduceLeDiff, Nat.reduceGT, ↓reduceIte, Nat.reduceEqDiff, Nat.reduceBEq, reduceCtorEq, Int.reduceBEq, Int.reduceBNe, Int.reduceLT, Int.reduceLE, Int.reduceGT, Int.reduceGE, aggT_24, sizeT_24, bytesT_24, fieldT_24_0, placesT_24, zeroT_24, aggT_39, sizeT_39, bytesT_39, fieldT_39_0, fieldT_39_1, fieldT_39_2, fieldT_39_3, fieldT_39_4, fieldT_39_5, fieldT_39_6, fieldT_39_7, fieldT_39_8, placesT_39, zeroT_39, aggT_22, sizeT_22, bytesT_22, und_22, elemT_22, isSliceT_22, zero1_22, zeroT_22, aggT_9, sizeT_9, bytesT_9, und_9, zero1_9, zeroT_9, aggT_3, sizeT_3, bytesT_3, und_3, zero1_3, zeroT_3, hr, h0, h0', hl, Int.toNat_natCast, hk, dcD_eq d, c1]
      (refine Eq.trans ?_ rfl; kernel_rfl)
    · rw [if_neg c1]
      (rw [run_eq]; simp only [stepA, hx, Tryz.func73, Tryz.f73, show retF 73 = false from rfl]; simp only [List.length_cons, List.length_nil, Nat.reduceAdd, Nat.reduceLeDiff, Nat.zero_le, ↓reduceIte, List.zipIdx_cons, List.zipIdx_nil, List.map_cons, List.map_nil])
      simp only [dcV, tbV, tbC, sV, iV, bV, dsD_lt h0 hl] at hr ⊢
      simp only [zS, nilEq, wantedA, opA, eff, boxA, cells, ev, gt, pt, putO, updO, setO, okC, loadA, cutC, fieldAddrA, fieldA, indexAddrA, indexA, builtinA, callOpA, callV, target, ptrV, lenS, binA, intOp, strOp, unA, num, lk, over, allocA, pickA, buildA, fillA, convertA, extractA, ofComp, nilCheckA, makeFuncA, ptrs, ofValue, cellB, Nat.reduceAdd, Nat.reduceSub, Nat.reduceMul, Nat.reduceLT, Nat.reduceLeDiff, Nat.reduceGT, ↓reduceIte, Nat.reduceEqDiff, Nat.reduceBEq, reduceCtorEq, Int.reduceBEq, Int.reduceBNe, Int.reduceLT, Int.reduceLE, Int.reduceGT, Int.reduceGE, aggT_24, sizeT_24, bytesT_24, fieldT_24_0, placesT_24, zeroT_24, aggT_39, sizeT_39, bytesT_39, fieldT_39_0, fieldT_39_1, fieldT_39_2, fieldT_39_3, fieldT_39_4, fieldT_39_5, fieldT_39_6, fieldT_39_7, fieldT_39_8, placesT_39, zeroT_39, aggT_22, sizeT_22, bytesT_22, und_22, elemT_22, isSliceT_22, zero1_22, zeroT_22, aggT_9, sizeT_9, bytesT_9, und_9, zero1_9, zeroT_9, aggT_3, sizeT_3, bytesT_3, und_3, zero1_3, zeroT_3, hr, h0, h0', hl, Int.toNat_natCast, hk, dcD_eq d, c1]
      (refine Eq.trans ?_ rfl; kernel_rfl)
def inst (x : Tb) (s : ByteArray) (n : Nat) : Dc × Int := ((family x s).1, if (family x s).2 = true then if (n : Int) = (family x s).1.levels then 0 else 42 else 3)
theorem inst83 (hx : ext 83 = none) (x : Tb) (s : ByteArray) (z : Bool) (l : List Lev) (ht : run Tryz.prog ext (.call 71 [tbV x, sV s] []) = some (.ret [dcV (family x s).1, bV (family x s).2] [])) :
    run Tryz.prog ext (.call 83 [tbV x, sV s, dV (listD z 2 (l.map levD))] []) = some (.ret [dcV (inst x s l.length).1, iV (inst x s l.length).2] []) := by
  unfold inst
  generalize family x s = p at ht ⊢
  obtain ⟨d, b⟩ := p
  cases b with
  | false =>
    (rw [run_eq]; simp only [stepA, hx, Tryz.func83, Tryz.f83, show retF 83 = false from rfl]; simp only [List.length_cons, List.length_nil, Nat.reduceAdd, Nat.reduceLeDiff, Nat.zero_le, ↓reduceIte, List.zipIdx_cons, List.zipIdx_nil, List.map_cons, List.map_nil])
    simp only [dcV, dcC, tbV, tbC, sV, iV, bV, dV] at ht ⊢
    simp only [zS, nilEq, wantedA, opA, eff, boxA, cells, ev, gt, pt, putO, updO, setO, okC, loadA, cutC, fieldAddrA, fieldA, indexAddrA, indexA, builtinA, callOpA, callV, target, ptrV, lenS, binA, intOp, strOp, unA, num, lk, over, allocA, pickA, buildA, fillA, convertA, extractA, ofComp, nilCheckA, makeFuncA, ptrs, ofValue, cellB, Nat.reduceAdd, Nat.reduceSub, Nat.reduceMul, Nat.reduceLT, Nat.reduceLeDiff, Nat.reduceGT, ↓reduceIte, Nat.reduceEqDiff, Nat.reduceBEq, reduceCtorEq, Int.reduceBEq, Int.reduceBNe, Int.reduceLT, Int.reduceLE, Int.reduceGT, Int.reduceGE, aggT_24, sizeT_24, bytesT_24, fieldT_24_0, placesT_24, zeroT_24, aggT_39, sizeT_39, bytesT_39, fieldT_39_0, fieldT_39_1, fieldT_39_2, fieldT_39_3, fieldT_39_4, fieldT_39_5, fieldT_39_6, fieldT_39_7, fieldT_39_8, placesT_39, zeroT_39, aggT_33, sizeT_33, bytesT_33, fieldT_33_0, fieldT_33_1, fieldT_33_2, fieldT_33_3, fieldT_33_4, placesT_33, zeroT_33, aggT_30, sizeT_30, bytesT_30, und_30, elemT_30, isSliceT_30, zero1_30, zeroT_30, aggT_27, sizeT_27, bytesT_27, und_27, zero1_27, zeroT_27, aggT_9, sizeT_9, bytesT_9, und_9, zero1_9, zeroT_9, aggT_3, sizeT_3, bytesT_3, und_3, zero1_3, zeroT_3, ht, callOut_vd]
    (refine Eq.trans ?_ rfl; kernel_rfl)
  | true =>
    by_cases c : (l.length : Int) = d.levels
    · rw [if_pos rfl, if_pos c]
      (rw [run_eq]; simp only [stepA, hx, Tryz.func83, Tryz.f83, show retF 83 = false from rfl]; simp only [List.length_cons, List.length_nil, Nat.reduceAdd, Nat.reduceLeDiff, Nat.zero_le, ↓reduceIte, List.zipIdx_cons, List.zipIdx_nil, List.map_cons, List.map_nil])
      simp only [dcV, dcC, tbV, tbC, sV, iV, bV, dV] at ht ⊢
      simp only [zS, nilEq, wantedA, opA, eff, boxA, cells, ev, gt, pt, putO, updO, setO, okC, loadA, cutC, fieldAddrA, fieldA, indexAddrA, indexA, builtinA, callOpA, callV, target, ptrV, lenS, binA, intOp, strOp, unA, num, lk, over, allocA, pickA, buildA, fillA, convertA, extractA, ofComp, nilCheckA, makeFuncA, ptrs, ofValue, cellB, Nat.reduceAdd, Nat.reduceSub, Nat.reduceMul, Nat.reduceLT, Nat.reduceLeDiff, Nat.reduceGT, ↓reduceIte, Nat.reduceEqDiff, Nat.reduceBEq, reduceCtorEq, Int.reduceBEq, Int.reduceBNe, Int.reduceLT, Int.reduceLE, Int.reduceGT, Int.reduceGE, aggT_24, sizeT_24, bytesT_24, fieldT_24_0, placesT_24, zeroT_24, aggT_39, sizeT_39, bytesT_39, fieldT_39_0, fieldT_39_1, fieldT_39_2, fieldT_39_3, fieldT_39_4, fieldT_39_5, fieldT_39_6, fieldT_39_7, fieldT_39_8, placesT_39, zeroT_39, aggT_33, sizeT_33, bytesT_33, fieldT_33_0, fieldT_33_1, fieldT_33_2, fieldT_33_3, fieldT_33_4, placesT_33, zeroT_33, aggT_30, sizeT_30, bytesT_30, und_30, elemT_30, isSliceT_30, zero1_30, zeroT_30, aggT_27, sizeT_27, bytesT_27, und_27, zero1_27, zeroT_27, aggT_9, sizeT_9, bytesT_9, und_9, zero1_9, zeroT_9, aggT_3, sizeT_3, bytesT_3, und_3, zero1_3, zeroT_3, ht, callOut_vd, c]
      (refine Eq.trans ?_ rfl; kernel_rfl)
    · rw [if_pos rfl, if_neg c]
      (rw [run_eq]; simp only [stepA, hx, Tryz.func83, Tryz.f83, show retF 83 = false from rfl]; simp only [List.length_cons, List.length_nil, Nat.reduceAdd, Nat.reduceLeDiff, Nat.zero_le, ↓reduceIte, List.zipIdx_cons, List.zipIdx_nil, List.map_cons, List.map_nil])
      simp only [dcV, dcC, tbV, tbC, sV, iV, bV, dV] at ht ⊢
      simp only [zS, nilEq, wantedA, opA, eff, boxA, cells, ev, gt, pt, putO, updO, setO, okC, loadA, cutC, fieldAddrA, fieldA, indexAddrA, indexA, builtinA, callOpA, callV, target, ptrV, lenS, binA, intOp, strOp, unA, num, lk, over, allocA, pickA, buildA, fillA, convertA, extractA, ofComp, nilCheckA, makeFuncA, ptrs, ofValue, cellB, Nat.reduceAdd, Nat.reduceSub, Nat.reduceMul, Nat.reduceLT, Nat.reduceLeDiff, Nat.reduceGT, ↓reduceIte, Nat.reduceEqDiff, Nat.reduceBEq, reduceCtorEq, Int.reduceBEq, Int.reduceBNe, Int.reduceLT, Int.reduceLE, Int.reduceGT, Int.reduceGE, aggT_24, sizeT_24, bytesT_24, fieldT_24_0, placesT_24, zeroT_24, aggT_39, sizeT_39, bytesT_39, fieldT_39_0, fieldT_39_1, fieldT_39_2, fieldT_39_3, fieldT_39_4, fieldT_39_5, fieldT_39_6, fieldT_39_7, fieldT_39_8, placesT_39, zeroT_39, aggT_33, sizeT_33, bytesT_33, fieldT_33_0, fieldT_33_1, fieldT_33_2, fieldT_33_3, fieldT_33_4, placesT_33, zeroT_33, aggT_30, sizeT_30, bytesT_30, und_30, elemT_30, isSliceT_30, zero1_30, zeroT_30, aggT_27, sizeT_27, bytesT_27, und_27, zero1_27, zeroT_27, aggT_9, sizeT_9, bytesT_9, und_9, zero1_9, zeroT_9, aggT_3, sizeT_3, bytesT_3, und_3, zero1_3, zeroT_3, ht, callOut_vd, c]
      (refine Eq.trans ?_ rfl; kernel_rfl)
def paramOf (f : Lev → Lev × Int) (x : Tb) (s : ByteArray) (n : Nat) : Tm × Int := if (inst x s n).2 = 0 then setL f (inst x s n).1.param else (zTm, (inst x s n).2)
def overOf (f : Lev → Lev × Int) (x : Tb) (s : ByteArray) (n : Nat) : Lev × Int := if (inst x s n).2 = 0 then f (inst x s n).1.over else (zL0, (inst x s n).2)
def sortOf (f : Lev → Lev × Int) (x : Tb) (s : ByteArray) (n : Nat) : Lev × Int := if (inst x s n).2 = 0 then f (inst x s n).1.sort else (zL0, (inst x s n).2)
theorem f39_ (hx : ext 39 = none) (f : Lev → Lev × Int) (x : Tb) (s : ByteArray) (z : Bool) (l : List Lev) (ht : run Tryz.prog ext (.call 83 [tbV x, sV s, dV (listD z 2 (l.map levD))] []) = some (.ret [dcV (inst x s l.length).1, iV (inst x s l.length).2] []))
    (hr : run Tryz.prog ext (.call 79 [tmV (inst x s l.length).1.param, dV (listD z 2 (l.map levD))] []) = some (.ret [tmV (setL f (inst x s l.length).1.param).1, iV (setL f (inst x s l.length).1.param).2] [])) :
    run Tryz.prog ext (.call 39 [tbV x, sV s, dV (listD z 2 (l.map levD))] []) = some (.ret [tmV (paramOf f x s l.length).1, iV (paramOf f x s l.length).2] []) := by
  unfold paramOf
  generalize inst x s l.length = p at ht hr ⊢
  obtain ⟨d, e⟩ := p
  by_cases c : e = 0
  · subst c
    rw [if_pos rfl]
    generalize setL f d.param = q at hr ⊢
    (rw [run_eq]; simp only [stepA, hx, Tryz.func39, Tryz.f39, show retF 39 = false from rfl]; simp only [List.length_cons, List.length_nil, Nat.reduceAdd, Nat.reduceLeDiff, Nat.zero_le, ↓reduceIte, List.zipIdx_cons, List.zipIdx_nil, List.map_cons, List.map_nil])
    simp only [dcV, dcC, tbV, tbC, tmV, tmC, sV, iV, bV, dV] at ht hr ⊢
    simp only [zS, nilEq, wantedA, opA, eff, boxA, cells, ev, gt, pt, putO, updO, setO, okC, loadA, cutC, fieldAddrA, fieldA, indexAddrA, indexA, builtinA, callOpA, callV, target, ptrV, lenS, binA, intOp, strOp, unA, num, lk, over, allocA, pickA, buildA, fillA, convertA, extractA, ofComp, nilCheckA, makeFuncA, ptrs, ofValue, cellB, Nat.reduceAdd, Nat.reduceSub, Nat.reduceMul, Nat.reduceLT, Nat.reduceLeDiff, Nat.reduceGT, ↓reduceIte, Nat.reduceEqDiff, Nat.reduceBEq, reduceCtorEq, Int.reduceBEq, Int.reduceBNe, Int.reduceLT, Int.reduceLE, Int.reduceGT, Int.reduceGE, aggT_24, sizeT_24, bytesT_24, fieldT_24_0, placesT_24, zeroT_24, aggT_39, sizeT_39, bytesT_39, fieldT_39_0, fieldT_39_1, fieldT_39_2, fieldT_39_3, fieldT_39_4, fieldT_39_5, fieldT_39_6, fieldT_39_7, fieldT_39_8, placesT_39, zeroT_39, aggT_33, sizeT_33, bytesT_33, fieldT_33_0, fieldT_33_1, fieldT_33_2, fieldT_33_3, fieldT_33_4, placesT_33, zeroT_33, aggT_36, sizeT_36, bytesT_36, fieldT_36_0, fieldT_36_1, placesT_36, zeroT_36, aggT_30, sizeT_30, bytesT_30, und_30, elemT_30, isSliceT_30, zero1_30, zeroT_30, aggT_27, sizeT_27, bytesT_27, und_27, zero1_27, zeroT_27, aggT_9, sizeT_9, bytesT_9, und_9, zero1_9, zeroT_9, aggT_3, sizeT_3, bytesT_3, und_3, zero1_3, zeroT_3, ht, callOut_vd, hr]
    (refine Eq.trans ?_ rfl; kernel_rfl)
  · rw [if_neg c]
    (rw [run_eq]; simp only [stepA, hx, Tryz.func39, Tryz.f39, show retF 39 = false from rfl]; simp only [List.length_cons, List.length_nil, Nat.reduceAdd, Nat.reduceLeDiff, Nat.zero_le, ↓reduceIte, List.zipIdx_cons, List.zipIdx_nil, List.map_cons, List.map_nil])
    simp only [dcV, dcC, tbV, tbC, tmV, tmC_z, tmC, sV, iV, bV, dV] at ht ⊢
    simp only [zS, nilEq, wantedA, opA, eff, boxA, cells, ev, gt, pt, putO, updO, setO, okC, loadA, cutC, fieldAddrA, fieldA, indexAddrA, indexA, builtinA, callOpA, callV, target, ptrV, lenS, binA, intOp, strOp, unA, num, lk, over, allocA, pickA, buildA, fillA, convertA, extractA, ofComp, nilCheckA, makeFuncA, ptrs, ofValue, cellB, Nat.reduceAdd, Nat.reduceSub, Nat.reduceMul, Nat.reduceLT, Nat.reduceLeDiff, Nat.reduceGT, ↓reduceIte, Nat.reduceEqDiff, Nat.reduceBEq, reduceCtorEq, Int.reduceBEq, Int.reduceBNe, Int.reduceLT, Int.reduceLE, Int.reduceGT, Int.reduceGE, aggT_24, sizeT_24, bytesT_24, fieldT_24_0, placesT_24, zeroT_24, aggT_39, sizeT_39, bytesT_39, fieldT_39_0, fieldT_39_1, fieldT_39_2, fieldT_39_3, fieldT_39_4, fieldT_39_5, fieldT_39_6, fieldT_39_7, fieldT_39_8, placesT_39, zeroT_39, aggT_33, sizeT_33, bytesT_33, fieldT_33_0, fieldT_33_1, fieldT_33_2, fieldT_33_3, fieldT_33_4, placesT_33, zeroT_33, aggT_36, sizeT_36, bytesT_36, fieldT_36_0, fieldT_36_1, placesT_36, zeroT_36, aggT_30, sizeT_30, bytesT_30, und_30, elemT_30, isSliceT_30, zero1_30, zeroT_30, aggT_27, sizeT_27, bytesT_27, und_27, zero1_27, zeroT_27, aggT_9, sizeT_9, bytesT_9, und_9, zero1_9, zeroT_9, aggT_3, sizeT_3, bytesT_3, und_3, zero1_3, zeroT_3, ht, callOut_vd, c]
    (refine Eq.trans ?_ rfl; kernel_rfl)
theorem f41_ (hx : ext 41 = none) (f : Lev → Lev × Int) (x : Tb) (s : ByteArray) (z : Bool) (l : List Lev) (ht : run Tryz.prog ext (.call 83 [tbV x, sV s, dV (listD z 2 (l.map levD))] []) = some (.ret [dcV (inst x s l.length).1, iV (inst x s l.length).2] []))
    (hr : run Tryz.prog ext (.call 84 [levV (inst x s l.length).1.over, dV (listD z 2 (l.map levD))] []) = some (.ret [levV (f (inst x s l.length).1.over).1, iV (f (inst x s l.length).1.over).2] [])) :
    run Tryz.prog ext (.call 41 [tbV x, sV s, dV (listD z 2 (l.map levD))] []) = some (.ret [levV (overOf f x s l.length).1, iV (overOf f x s l.length).2] []) := by
  unfold overOf
  generalize inst x s l.length = p at ht hr ⊢
  obtain ⟨d, e⟩ := p
  by_cases c : e = 0
  · subst c
    rw [if_pos rfl]
    generalize f d.over = q at hr ⊢
    (rw [run_eq]; simp only [stepA, hx, Tryz.func41, Tryz.f41, show retF 41 = false from rfl]; simp only [List.length_cons, List.length_nil, Nat.reduceAdd, Nat.reduceLeDiff, Nat.zero_le, ↓reduceIte, List.zipIdx_cons, List.zipIdx_nil, List.map_cons, List.map_nil])
    simp only [dcV, dcC, tbV, tbC, levV, levC, sV, iV, bV, dV] at ht hr ⊢
    simp only [zS, nilEq, wantedA, opA, eff, boxA, cells, ev, gt, pt, putO, updO, setO, okC, loadA, cutC, fieldAddrA, fieldA, indexAddrA, indexA, builtinA, callOpA, callV, target, ptrV, lenS, binA, intOp, strOp, unA, num, lk, over, allocA, pickA, buildA, fillA, convertA, extractA, ofComp, nilCheckA, makeFuncA, ptrs, ofValue, cellB, Nat.reduceAdd, Nat.reduceSub, Nat.reduceMul, Nat.reduceLT, Nat.reduceLeDiff, Nat.reduceGT, ↓reduceIte, Nat.reduceEqDiff, Nat.reduceBEq, reduceCtorEq, Int.reduceBEq, Int.reduceBNe, Int.reduceLT, Int.reduceLE, Int.reduceGT, Int.reduceGE, aggT_24, sizeT_24, bytesT_24, fieldT_24_0, placesT_24, zeroT_24, aggT_39, sizeT_39, bytesT_39, fieldT_39_0, fieldT_39_1, fieldT_39_2, fieldT_39_3, fieldT_39_4, fieldT_39_5, fieldT_39_6, fieldT_39_7, fieldT_39_8, placesT_39, zeroT_39, aggT_33, sizeT_33, bytesT_33, fieldT_33_0, fieldT_33_1, fieldT_33_2, fieldT_33_3, fieldT_33_4, placesT_33, zeroT_33, aggT_36, sizeT_36, bytesT_36, fieldT_36_0, fieldT_36_1, placesT_36, zeroT_36, aggT_30, sizeT_30, bytesT_30, und_30, elemT_30, isSliceT_30, zero1_30, zeroT_30, aggT_27, sizeT_27, bytesT_27, und_27, zero1_27, zeroT_27, aggT_9, sizeT_9, bytesT_9, und_9, zero1_9, zeroT_9, aggT_3, sizeT_3, bytesT_3, und_3, zero1_3, zeroT_3, ht, callOut_vd, hr]
    (refine Eq.trans ?_ rfl; kernel_rfl)
  · rw [if_neg c]
    (rw [run_eq]; simp only [stepA, hx, Tryz.func41, Tryz.f41, show retF 41 = false from rfl]; simp only [List.length_cons, List.length_nil, Nat.reduceAdd, Nat.reduceLeDiff, Nat.zero_le, ↓reduceIte, List.zipIdx_cons, List.zipIdx_nil, List.map_cons, List.map_nil])
    simp only [dcV, dcC, tbV, tbC, levV, levC, sV, iV, bV, dV] at ht ⊢
    simp only [zS, nilEq, wantedA, opA, eff, boxA, cells, ev, gt, pt, putO, updO, setO, okC, loadA, cutC, fieldAddrA, fieldA, indexAddrA, indexA, builtinA, callOpA, callV, target, ptrV, lenS, binA, intOp, strOp, unA, num, lk, over, allocA, pickA, buildA, fillA, convertA, extractA, ofComp, nilCheckA, makeFuncA, ptrs, ofValue, cellB, Nat.reduceAdd, Nat.reduceSub, Nat.reduceMul, Nat.reduceLT, Nat.reduceLeDiff, Nat.reduceGT, ↓reduceIte, Nat.reduceEqDiff, Nat.reduceBEq, reduceCtorEq, Int.reduceBEq, Int.reduceBNe, Int.reduceLT, Int.reduceLE, Int.reduceGT, Int.reduceGE, aggT_24, sizeT_24, bytesT_24, fieldT_24_0, placesT_24, zeroT_24, aggT_39, sizeT_39, bytesT_39, fieldT_39_0, fieldT_39_1, fieldT_39_2, fieldT_39_3, fieldT_39_4, fieldT_39_5, fieldT_39_6, fieldT_39_7, fieldT_39_8, placesT_39, zeroT_39, aggT_33, sizeT_33, bytesT_33, fieldT_33_0, fieldT_33_1, fieldT_33_2, fieldT_33_3, fieldT_33_4, placesT_33, zeroT_33, aggT_36, sizeT_36, bytesT_36, fieldT_36_0, fieldT_36_1, placesT_36, zeroT_36, aggT_30, sizeT_30, bytesT_30, und_30, elemT_30, isSliceT_30, zero1_30, zeroT_30, aggT_27, sizeT_27, bytesT_27, und_27, zero1_27, zeroT_27, aggT_9, sizeT_9, bytesT_9, und_9, zero1_9, zeroT_9, aggT_3, sizeT_3, bytesT_3, und_3, zero1_3, zeroT_3, ht, callOut_vd, c]
    (refine Eq.trans ?_ rfl; kernel_rfl)
theorem f44_ (hx : ext 44 = none) (f : Lev → Lev × Int) (x : Tb) (s : ByteArray) (z : Bool) (l : List Lev) (ht : run Tryz.prog ext (.call 83 [tbV x, sV s, dV (listD z 2 (l.map levD))] []) = some (.ret [dcV (inst x s l.length).1, iV (inst x s l.length).2] []))
    (hr : run Tryz.prog ext (.call 84 [levV (inst x s l.length).1.sort, dV (listD z 2 (l.map levD))] []) = some (.ret [levV (f (inst x s l.length).1.sort).1, iV (f (inst x s l.length).1.sort).2] [])) :
    run Tryz.prog ext (.call 44 [tbV x, sV s, dV (listD z 2 (l.map levD))] []) = some (.ret [levV (sortOf f x s l.length).1, iV (sortOf f x s l.length).2] []) := by
  unfold sortOf
  generalize inst x s l.length = p at ht hr ⊢
  obtain ⟨d, e⟩ := p
  by_cases c : e = 0
  · subst c
    rw [if_pos rfl]
    generalize f d.sort = q at hr ⊢
    (rw [run_eq]; simp only [stepA, hx, Tryz.func44, Tryz.f44, show retF 44 = false from rfl]; simp only [List.length_cons, List.length_nil, Nat.reduceAdd, Nat.reduceLeDiff, Nat.zero_le, ↓reduceIte, List.zipIdx_cons, List.zipIdx_nil, List.map_cons, List.map_nil])
    simp only [dcV, dcC, tbV, tbC, levV, levC, sV, iV, bV, dV] at ht hr ⊢
    simp only [zS, nilEq, wantedA, opA, eff, boxA, cells, ev, gt, pt, putO, updO, setO, okC, loadA, cutC, fieldAddrA, fieldA, indexAddrA, indexA, builtinA, callOpA, callV, target, ptrV, lenS, binA, intOp, strOp, unA, num, lk, over, allocA, pickA, buildA, fillA, convertA, extractA, ofComp, nilCheckA, makeFuncA, ptrs, ofValue, cellB, Nat.reduceAdd, Nat.reduceSub, Nat.reduceMul, Nat.reduceLT, Nat.reduceLeDiff, Nat.reduceGT, ↓reduceIte, Nat.reduceEqDiff, Nat.reduceBEq, reduceCtorEq, Int.reduceBEq, Int.reduceBNe, Int.reduceLT, Int.reduceLE, Int.reduceGT, Int.reduceGE, aggT_24, sizeT_24, bytesT_24, fieldT_24_0, placesT_24, zeroT_24, aggT_39, sizeT_39, bytesT_39, fieldT_39_0, fieldT_39_1, fieldT_39_2, fieldT_39_3, fieldT_39_4, fieldT_39_5, fieldT_39_6, fieldT_39_7, fieldT_39_8, placesT_39, zeroT_39, aggT_33, sizeT_33, bytesT_33, fieldT_33_0, fieldT_33_1, fieldT_33_2, fieldT_33_3, fieldT_33_4, placesT_33, zeroT_33, aggT_36, sizeT_36, bytesT_36, fieldT_36_0, fieldT_36_1, placesT_36, zeroT_36, aggT_30, sizeT_30, bytesT_30, und_30, elemT_30, isSliceT_30, zero1_30, zeroT_30, aggT_27, sizeT_27, bytesT_27, und_27, zero1_27, zeroT_27, aggT_9, sizeT_9, bytesT_9, und_9, zero1_9, zeroT_9, aggT_3, sizeT_3, bytesT_3, und_3, zero1_3, zeroT_3, ht, callOut_vd, hr]
    (refine Eq.trans ?_ rfl; kernel_rfl)
  · rw [if_neg c]
    (rw [run_eq]; simp only [stepA, hx, Tryz.func44, Tryz.f44, show retF 44 = false from rfl]; simp only [List.length_cons, List.length_nil, Nat.reduceAdd, Nat.reduceLeDiff, Nat.zero_le, ↓reduceIte, List.zipIdx_cons, List.zipIdx_nil, List.map_cons, List.map_nil])
    simp only [dcV, dcC, tbV, tbC, levV, levC, sV, iV, bV, dV] at ht ⊢
    simp only [zS, nilEq, wantedA, opA, eff, boxA, cells, ev, gt, pt, putO, updO, setO, okC, loadA, cutC, fieldAddrA, fieldA, indexAddrA, indexA, builtinA, callOpA, callV, target, ptrV, lenS, binA, intOp, strOp, unA, num, lk, over, allocA, pickA, buildA, fillA, convertA, extractA, ofComp, nilCheckA, makeFuncA, ptrs, ofValue, cellB, Nat.reduceAdd, Nat.reduceSub, Nat.reduceMul, Nat.reduceLT, Nat.reduceLeDiff, Nat.reduceGT, ↓reduceIte, Nat.reduceEqDiff, Nat.reduceBEq, reduceCtorEq, Int.reduceBEq, Int.reduceBNe, Int.reduceLT, Int.reduceLE, Int.reduceGT, Int.reduceGE, aggT_24, sizeT_24, bytesT_24, fieldT_24_0, placesT_24, zeroT_24, aggT_39, sizeT_39, bytesT_39, fieldT_39_0, fieldT_39_1, fieldT_39_2, fieldT_39_3, fieldT_39_4, fieldT_39_5, fieldT_39_6, fieldT_39_7, fieldT_39_8, placesT_39, zeroT_39, aggT_33, sizeT_33, bytesT_33, fieldT_33_0, fieldT_33_1, fieldT_33_2, fieldT_33_3, fieldT_33_4, placesT_33, zeroT_33, aggT_36, sizeT_36, bytesT_36, fieldT_36_0, fieldT_36_1, placesT_36, zeroT_36, aggT_30, sizeT_30, bytesT_30, und_30, elemT_30, isSliceT_30, zero1_30, zeroT_30, aggT_27, sizeT_27, bytesT_27, und_27, zero1_27, zeroT_27, aggT_9, sizeT_9, bytesT_9, und_9, zero1_9, zeroT_9, aggT_3, sizeT_3, bytesT_3, und_3, zero1_3, zeroT_3, ht, callOut_vd, c]
    (refine Eq.trans ?_ rfl; kernel_rfl)
theorem f40_ (hx : ext 40 = none) (f : Lev → Lev × Int) (x : Tb) (s : ByteArray) (z : Bool) (l : List Lev) (ht : run Tryz.prog ext (.call 73 [tbV x, sV s] []) = some (.ret [dcV (family x s).1, bV (family x s).2] []))
    (hr : run Tryz.prog ext (.call 81 [tmV (family x s).1.param, dV (listD z 2 (l.map levD))] []) = some (.ret [tmV (setL f (family x s).1.param).1, iV (setL f (family x s).1.param).2] [])) :
    run Tryz.prog ext (.call 40 [tbV x, sV s, dV (listD z 2 (l.map levD))] []) = some (.ret [tmV (paramOf f x s l.length).1, iV (paramOf f x s l.length).2] []) := by
  unfold paramOf inst
  generalize family x s = p at ht hr ⊢
  obtain ⟨d, b⟩ := p
  cases b with
  | false =>
    (rw [run_eq]; simp only [stepA, hx, Tryz.func40, Tryz.f40, show retF 40 = false from rfl]; simp only [List.length_cons, List.length_nil, Nat.reduceAdd, Nat.reduceLeDiff, Nat.zero_le, ↓reduceIte, List.zipIdx_cons, List.zipIdx_nil, List.map_cons, List.map_nil])
    simp only [dcV, dcC, tbV, tbC, tmV, tmC_z, tmC, sV, iV, bV, dV] at ht ⊢
    simp only [zS, nilEq, wantedA, opA, eff, boxA, cells, ev, gt, pt, putO, updO, setO, okC, loadA, cutC, fieldAddrA, fieldA, indexAddrA, indexA, builtinA, callOpA, callV, target, ptrV, lenS, binA, intOp, strOp, unA, num, lk, over, allocA, pickA, buildA, fillA, convertA, extractA, ofComp, nilCheckA, makeFuncA, ptrs, ofValue, cellB, Nat.reduceAdd, Nat.reduceSub, Nat.reduceMul, Nat.reduceLT, Nat.reduceLeDiff, Nat.reduceGT, ↓reduceIte, Nat.reduceEqDiff, Nat.reduceBEq, reduceCtorEq, Int.reduceBEq, Int.reduceBNe, Int.reduceLT, Int.reduceLE, Int.reduceGT, Int.reduceGE, aggT_24, sizeT_24, bytesT_24, fieldT_24_0, placesT_24, zeroT_24, aggT_39, sizeT_39, bytesT_39, fieldT_39_0, fieldT_39_1, fieldT_39_2, fieldT_39_3, fieldT_39_4, fieldT_39_5, fieldT_39_6, fieldT_39_7, fieldT_39_8, placesT_39, zeroT_39, aggT_33, sizeT_33, bytesT_33, fieldT_33_0, fieldT_33_1, fieldT_33_2, fieldT_33_3, fieldT_33_4, placesT_33, zeroT_33, aggT_36, sizeT_36, bytesT_36, fieldT_36_0, fieldT_36_1, placesT_36, zeroT_36, aggT_30, sizeT_30, bytesT_30, und_30, elemT_30, isSliceT_30, zero1_30, zeroT_30, aggT_27, sizeT_27, bytesT_27, und_27, zero1_27, zeroT_27, aggT_9, sizeT_9, bytesT_9, und_9, zero1_9, zeroT_9, aggT_3, sizeT_3, bytesT_3, und_3, zero1_3, zeroT_3, ht, callOut_vd]
    (refine Eq.trans ?_ rfl; kernel_rfl)
  | true =>
    by_cases c : (l.length : Int) = d.levels
    · dsimp only
      rw [if_pos rfl, if_pos c, if_pos rfl]
      generalize setL f d.param = q at hr ⊢
      (rw [run_eq]; simp only [stepA, hx, Tryz.func40, Tryz.f40, show retF 40 = false from rfl]; simp only [List.length_cons, List.length_nil, Nat.reduceAdd, Nat.reduceLeDiff, Nat.zero_le, ↓reduceIte, List.zipIdx_cons, List.zipIdx_nil, List.map_cons, List.map_nil])
      simp only [dcV, dcC, tbV, tbC, tmV, tmC, sV, iV, bV, dV] at ht hr ⊢
      simp only [zS, nilEq, wantedA, opA, eff, boxA, cells, ev, gt, pt, putO, updO, setO, okC, loadA, cutC, fieldAddrA, fieldA, indexAddrA, indexA, builtinA, callOpA, callV, target, ptrV, lenS, binA, intOp, strOp, unA, num, lk, over, allocA, pickA, buildA, fillA, convertA, extractA, ofComp, nilCheckA, makeFuncA, ptrs, ofValue, cellB, Nat.reduceAdd, Nat.reduceSub, Nat.reduceMul, Nat.reduceLT, Nat.reduceLeDiff, Nat.reduceGT, ↓reduceIte, Nat.reduceEqDiff, Nat.reduceBEq, reduceCtorEq, Int.reduceBEq, Int.reduceBNe, Int.reduceLT, Int.reduceLE, Int.reduceGT, Int.reduceGE, aggT_24, sizeT_24, bytesT_24, fieldT_24_0, placesT_24, zeroT_24, aggT_39, sizeT_39, bytesT_39, fieldT_39_0, fieldT_39_1, fieldT_39_2, fieldT_39_3, fieldT_39_4, fieldT_39_5, fieldT_39_6, fieldT_39_7, fieldT_39_8, placesT_39, zeroT_39, aggT_33, sizeT_33, bytesT_33, fieldT_33_0, fieldT_33_1, fieldT_33_2, fieldT_33_3, fieldT_33_4, placesT_33, zeroT_33, aggT_36, sizeT_36, bytesT_36, fieldT_36_0, fieldT_36_1, placesT_36, zeroT_36, aggT_30, sizeT_30, bytesT_30, und_30, elemT_30, isSliceT_30, zero1_30, zeroT_30, aggT_27, sizeT_27, bytesT_27, und_27, zero1_27, zeroT_27, aggT_9, sizeT_9, bytesT_9, und_9, zero1_9, zeroT_9, aggT_3, sizeT_3, bytesT_3, und_3, zero1_3, zeroT_3, ht, callOut_vd, c, hr]
      (refine Eq.trans ?_ rfl; kernel_rfl)
    · dsimp only
      rw [if_pos rfl, if_neg c]
      (rw [run_eq]; simp only [stepA, hx, Tryz.func40, Tryz.f40, show retF 40 = false from rfl]; simp only [List.length_cons, List.length_nil, Nat.reduceAdd, Nat.reduceLeDiff, Nat.zero_le, ↓reduceIte, List.zipIdx_cons, List.zipIdx_nil, List.map_cons, List.map_nil])
      simp only [dcV, dcC, tbV, tbC, tmV, tmC_z, tmC, sV, iV, bV, dV] at ht ⊢
      simp only [zS, nilEq, wantedA, opA, eff, boxA, cells, ev, gt, pt, putO, updO, setO, okC, loadA, cutC, fieldAddrA, fieldA, indexAddrA, indexA, builtinA, callOpA, callV, target, ptrV, lenS, binA, intOp, strOp, unA, num, lk, over, allocA, pickA, buildA, fillA, convertA, extractA, ofComp, nilCheckA, makeFuncA, ptrs, ofValue, cellB, Nat.reduceAdd, Nat.reduceSub, Nat.reduceMul, Nat.reduceLT, Nat.reduceLeDiff, Nat.reduceGT, ↓reduceIte, Nat.reduceEqDiff, Nat.reduceBEq, reduceCtorEq, Int.reduceBEq, Int.reduceBNe, Int.reduceLT, Int.reduceLE, Int.reduceGT, Int.reduceGE, aggT_24, sizeT_24, bytesT_24, fieldT_24_0, placesT_24, zeroT_24, aggT_39, sizeT_39, bytesT_39, fieldT_39_0, fieldT_39_1, fieldT_39_2, fieldT_39_3, fieldT_39_4, fieldT_39_5, fieldT_39_6, fieldT_39_7, fieldT_39_8, placesT_39, zeroT_39, aggT_33, sizeT_33, bytesT_33, fieldT_33_0, fieldT_33_1, fieldT_33_2, fieldT_33_3, fieldT_33_4, placesT_33, zeroT_33, aggT_36, sizeT_36, bytesT_36, fieldT_36_0, fieldT_36_1, placesT_36, zeroT_36, aggT_30, sizeT_30, bytesT_30, und_30, elemT_30, isSliceT_30, zero1_30, zeroT_30, aggT_27, sizeT_27, bytesT_27, und_27, zero1_27, zeroT_27, aggT_9, sizeT_9, bytesT_9, und_9, zero1_9, zeroT_9, aggT_3, sizeT_3, bytesT_3, und_3, zero1_3, zeroT_3, ht, callOut_vd, c]
      (refine Eq.trans ?_ rfl; kernel_rfl)
theorem f42_ (hx : ext 42 = none) (f : Lev → Lev × Int) (x : Tb) (s : ByteArray) (z : Bool) (l : List Lev) (ht : run Tryz.prog ext (.call 73 [tbV x, sV s] []) = some (.ret [dcV (family x s).1, bV (family x s).2] []))
    (hr : run Tryz.prog ext (.call 85 [levV (family x s).1.over, dV (listD z 2 (l.map levD))] []) = some (.ret [levV (f (family x s).1.over).1, iV (f (family x s).1.over).2] [])) :
    run Tryz.prog ext (.call 42 [tbV x, sV s, dV (listD z 2 (l.map levD))] []) = some (.ret [levV (overOf f x s l.length).1, iV (overOf f x s l.length).2] []) := by
  unfold overOf inst
  generalize family x s = p at ht hr ⊢
  obtain ⟨d, b⟩ := p
  cases b with
  | false =>
    (rw [run_eq]; simp only [stepA, hx, Tryz.func42, Tryz.f42, show retF 42 = false from rfl]; simp only [List.length_cons, List.length_nil, Nat.reduceAdd, Nat.reduceLeDiff, Nat.zero_le, ↓reduceIte, List.zipIdx_cons, List.zipIdx_nil, List.map_cons, List.map_nil])
    simp only [dcV, dcC, tbV, tbC, levV, levC, sV, iV, bV, dV] at ht ⊢
    simp only [zS, nilEq, wantedA, opA, eff, boxA, cells, ev, gt, pt, putO, updO, setO, okC, loadA, cutC, fieldAddrA, fieldA, indexAddrA, indexA, builtinA, callOpA, callV, target, ptrV, lenS, binA, intOp, strOp, unA, num, lk, over, allocA, pickA, buildA, fillA, convertA, extractA, ofComp, nilCheckA, makeFuncA, ptrs, ofValue, cellB, Nat.reduceAdd, Nat.reduceSub, Nat.reduceMul, Nat.reduceLT, Nat.reduceLeDiff, Nat.reduceGT, ↓reduceIte, Nat.reduceEqDiff, Nat.reduceBEq, reduceCtorEq, Int.reduceBEq, Int.reduceBNe, Int.reduceLT, Int.reduceLE, Int.reduceGT, Int.reduceGE, aggT_24, sizeT_24, bytesT_24, fieldT_24_0, placesT_24, zeroT_24, aggT_39, sizeT_39, bytesT_39, fieldT_39_0, fieldT_39_1, fieldT_39_2, fieldT_39_3, fieldT_39_4, fieldT_39_5, fieldT_39_6, fieldT_39_7, fieldT_39_8, placesT_39, zeroT_39, aggT_33, sizeT_33, bytesT_33, fieldT_33_0, fieldT_33_1, fieldT_33_2, fieldT_33_3, fieldT_33_4, placesT_33, zeroT_33, aggT_36, sizeT_36, bytesT_36, fieldT_36_0, fieldT_36_1, placesT_36, zeroT_36, aggT_30, sizeT_30, bytesT_30, und_30, elemT_30, isSliceT_30, zero1_30, zeroT_30, aggT_27, sizeT_27, bytesT_27, und_27, zero1_27, zeroT_27, aggT_9, sizeT_9, bytesT_9, und_9, zero1_9, zeroT_9, aggT_3, sizeT_3, bytesT_3, und_3, zero1_3, zeroT_3, ht, callOut_vd]
    (refine Eq.trans ?_ rfl; kernel_rfl)
  | true =>
    by_cases c : (l.length : Int) = d.levels
    · dsimp only
      rw [if_pos rfl, if_pos c, if_pos rfl]
      generalize f d.over = q at hr ⊢
      (rw [run_eq]; simp only [stepA, hx, Tryz.func42, Tryz.f42, show retF 42 = false from rfl]; simp only [List.length_cons, List.length_nil, Nat.reduceAdd, Nat.reduceLeDiff, Nat.zero_le, ↓reduceIte, List.zipIdx_cons, List.zipIdx_nil, List.map_cons, List.map_nil])
      simp only [dcV, dcC, tbV, tbC, levV, levC, sV, iV, bV, dV] at ht hr ⊢
      simp only [zS, nilEq, wantedA, opA, eff, boxA, cells, ev, gt, pt, putO, updO, setO, okC, loadA, cutC, fieldAddrA, fieldA, indexAddrA, indexA, builtinA, callOpA, callV, target, ptrV, lenS, binA, intOp, strOp, unA, num, lk, over, allocA, pickA, buildA, fillA, convertA, extractA, ofComp, nilCheckA, makeFuncA, ptrs, ofValue, cellB, Nat.reduceAdd, Nat.reduceSub, Nat.reduceMul, Nat.reduceLT, Nat.reduceLeDiff, Nat.reduceGT, ↓reduceIte, Nat.reduceEqDiff, Nat.reduceBEq, reduceCtorEq, Int.reduceBEq, Int.reduceBNe, Int.reduceLT, Int.reduceLE, Int.reduceGT, Int.reduceGE, aggT_24, sizeT_24, bytesT_24, fieldT_24_0, placesT_24, zeroT_24, aggT_39, sizeT_39, bytesT_39, fieldT_39_0, fieldT_39_1, fieldT_39_2, fieldT_39_3, fieldT_39_4, fieldT_39_5, fieldT_39_6, fieldT_39_7, fieldT_39_8, placesT_39, zeroT_39, aggT_33, sizeT_33, bytesT_33, fieldT_33_0, fieldT_33_1, fieldT_33_2, fieldT_33_3, fieldT_33_4, placesT_33, zeroT_33, aggT_36, sizeT_36, bytesT_36, fieldT_36_0, fieldT_36_1, placesT_36, zeroT_36, aggT_30, sizeT_30, bytesT_30, und_30, elemT_30, isSliceT_30, zero1_30, zeroT_30, aggT_27, sizeT_27, bytesT_27, und_27, zero1_27, zeroT_27, aggT_9, sizeT_9, bytesT_9, und_9, zero1_9, zeroT_9, aggT_3, sizeT_3, bytesT_3, und_3, zero1_3, zeroT_3, ht, callOut_vd, c, hr]
      (refine Eq.trans ?_ rfl; kernel_rfl)
    · dsimp only
      rw [if_pos rfl, if_neg c]
      (rw [run_eq]; simp only [stepA, hx, Tryz.func42, Tryz.f42, show retF 42 = false from rfl]; simp only [List.length_cons, List.length_nil, Nat.reduceAdd, Nat.reduceLeDiff, Nat.zero_le, ↓reduceIte, List.zipIdx_cons, List.zipIdx_nil, List.map_cons, List.map_nil])
      simp only [dcV, dcC, tbV, tbC, levV, levC, sV, iV, bV, dV] at ht ⊢
      simp only [zS, nilEq, wantedA, opA, eff, boxA, cells, ev, gt, pt, putO, updO, setO, okC, loadA, cutC, fieldAddrA, fieldA, indexAddrA, indexA, builtinA, callOpA, callV, target, ptrV, lenS, binA, intOp, strOp, unA, num, lk, over, allocA, pickA, buildA, fillA, convertA, extractA, ofComp, nilCheckA, makeFuncA, ptrs, ofValue, cellB, Nat.reduceAdd, Nat.reduceSub, Nat.reduceMul, Nat.reduceLT, Nat.reduceLeDiff, Nat.reduceGT, ↓reduceIte, Nat.reduceEqDiff, Nat.reduceBEq, reduceCtorEq, Int.reduceBEq, Int.reduceBNe, Int.reduceLT, Int.reduceLE, Int.reduceGT, Int.reduceGE, aggT_24, sizeT_24, bytesT_24, fieldT_24_0, placesT_24, zeroT_24, aggT_39, sizeT_39, bytesT_39, fieldT_39_0, fieldT_39_1, fieldT_39_2, fieldT_39_3, fieldT_39_4, fieldT_39_5, fieldT_39_6, fieldT_39_7, fieldT_39_8, placesT_39, zeroT_39, aggT_33, sizeT_33, bytesT_33, fieldT_33_0, fieldT_33_1, fieldT_33_2, fieldT_33_3, fieldT_33_4, placesT_33, zeroT_33, aggT_36, sizeT_36, bytesT_36, fieldT_36_0, fieldT_36_1, placesT_36, zeroT_36, aggT_30, sizeT_30, bytesT_30, und_30, elemT_30, isSliceT_30, zero1_30, zeroT_30, aggT_27, sizeT_27, bytesT_27, und_27, zero1_27, zeroT_27, aggT_9, sizeT_9, bytesT_9, und_9, zero1_9, zeroT_9, aggT_3, sizeT_3, bytesT_3, und_3, zero1_3, zeroT_3, ht, callOut_vd, c]
      (refine Eq.trans ?_ rfl; kernel_rfl)
theorem f45_ (hx : ext 45 = none) (f : Lev → Lev × Int) (x : Tb) (s : ByteArray) (z : Bool) (l : List Lev) (ht : run Tryz.prog ext (.call 73 [tbV x, sV s] []) = some (.ret [dcV (family x s).1, bV (family x s).2] []))
    (hr : run Tryz.prog ext (.call 85 [levV (family x s).1.sort, dV (listD z 2 (l.map levD))] []) = some (.ret [levV (f (family x s).1.sort).1, iV (f (family x s).1.sort).2] [])) :
    run Tryz.prog ext (.call 45 [tbV x, sV s, dV (listD z 2 (l.map levD))] []) = some (.ret [levV (sortOf f x s l.length).1, iV (sortOf f x s l.length).2] []) := by
  unfold sortOf inst
  generalize family x s = p at ht hr ⊢
  obtain ⟨d, b⟩ := p
  cases b with
  | false =>
    (rw [run_eq]; simp only [stepA, hx, Tryz.func45, Tryz.f45, show retF 45 = false from rfl]; simp only [List.length_cons, List.length_nil, Nat.reduceAdd, Nat.reduceLeDiff, Nat.zero_le, ↓reduceIte, List.zipIdx_cons, List.zipIdx_nil, List.map_cons, List.map_nil])
    simp only [dcV, dcC, tbV, tbC, levV, levC, sV, iV, bV, dV] at ht ⊢
    simp only [zS, nilEq, wantedA, opA, eff, boxA, cells, ev, gt, pt, putO, updO, setO, okC, loadA, cutC, fieldAddrA, fieldA, indexAddrA, indexA, builtinA, callOpA, callV, target, ptrV, lenS, binA, intOp, strOp, unA, num, lk, over, allocA, pickA, buildA, fillA, convertA, extractA, ofComp, nilCheckA, makeFuncA, ptrs, ofValue, cellB, Nat.reduceAdd, Nat.reduceSub, Nat.reduceMul, Nat.reduceLT, Nat.reduceLeDiff, Nat.reduceGT, ↓reduceIte, Nat.reduceEqDiff, Nat.reduceBEq, reduceCtorEq, Int.reduceBEq, Int.reduceBNe, Int.reduceLT, Int.reduceLE, Int.reduceGT, Int.reduceGE, aggT_24, sizeT_24, bytesT_24, fieldT_24_0, placesT_24, zeroT_24, aggT_39, sizeT_39, bytesT_39, fieldT_39_0, fieldT_39_1, fieldT_39_2, fieldT_39_3, fieldT_39_4, fieldT_39_5, fieldT_39_6, fieldT_39_7, fieldT_39_8, placesT_39, zeroT_39, aggT_33, sizeT_33, bytesT_33, fieldT_33_0, fieldT_33_1, fieldT_33_2, fieldT_33_3, fieldT_33_4, placesT_33, zeroT_33, aggT_36, sizeT_36, bytesT_36, fieldT_36_0, fieldT_36_1, placesT_36, zeroT_36, aggT_30, sizeT_30, bytesT_30, und_30, elemT_30, isSliceT_30, zero1_30, zeroT_30, aggT_27, sizeT_27, bytesT_27, und_27, zero1_27, zeroT_27, aggT_9, sizeT_9, bytesT_9, und_9, zero1_9, zeroT_9, aggT_3, sizeT_3, bytesT_3, und_3, zero1_3, zeroT_3, ht, callOut_vd]
    (refine Eq.trans ?_ rfl; kernel_rfl)
  | true =>
    by_cases c : (l.length : Int) = d.levels
    · dsimp only
      rw [if_pos rfl, if_pos c, if_pos rfl]
      generalize f d.sort = q at hr ⊢
      (rw [run_eq]; simp only [stepA, hx, Tryz.func45, Tryz.f45, show retF 45 = false from rfl]; simp only [List.length_cons, List.length_nil, Nat.reduceAdd, Nat.reduceLeDiff, Nat.zero_le, ↓reduceIte, List.zipIdx_cons, List.zipIdx_nil, List.map_cons, List.map_nil])
      simp only [dcV, dcC, tbV, tbC, levV, levC, sV, iV, bV, dV] at ht hr ⊢
      simp only [zS, nilEq, wantedA, opA, eff, boxA, cells, ev, gt, pt, putO, updO, setO, okC, loadA, cutC, fieldAddrA, fieldA, indexAddrA, indexA, builtinA, callOpA, callV, target, ptrV, lenS, binA, intOp, strOp, unA, num, lk, over, allocA, pickA, buildA, fillA, convertA, extractA, ofComp, nilCheckA, makeFuncA, ptrs, ofValue, cellB, Nat.reduceAdd, Nat.reduceSub, Nat.reduceMul, Nat.reduceLT, Nat.reduceLeDiff, Nat.reduceGT, ↓reduceIte, Nat.reduceEqDiff, Nat.reduceBEq, reduceCtorEq, Int.reduceBEq, Int.reduceBNe, Int.reduceLT, Int.reduceLE, Int.reduceGT, Int.reduceGE, aggT_24, sizeT_24, bytesT_24, fieldT_24_0, placesT_24, zeroT_24, aggT_39, sizeT_39, bytesT_39, fieldT_39_0, fieldT_39_1, fieldT_39_2, fieldT_39_3, fieldT_39_4, fieldT_39_5, fieldT_39_6, fieldT_39_7, fieldT_39_8, placesT_39, zeroT_39, aggT_33, sizeT_33, bytesT_33, fieldT_33_0, fieldT_33_1, fieldT_33_2, fieldT_33_3, fieldT_33_4, placesT_33, zeroT_33, aggT_36, sizeT_36, bytesT_36, fieldT_36_0, fieldT_36_1, placesT_36, zeroT_36, aggT_30, sizeT_30, bytesT_30, und_30, elemT_30, isSliceT_30, zero1_30, zeroT_30, aggT_27, sizeT_27, bytesT_27, und_27, zero1_27, zeroT_27, aggT_9, sizeT_9, bytesT_9, und_9, zero1_9, zeroT_9, aggT_3, sizeT_3, bytesT_3, und_3, zero1_3, zeroT_3, ht, callOut_vd, c, hr]
      (refine Eq.trans ?_ rfl; kernel_rfl)
    · dsimp only
      rw [if_pos rfl, if_neg c]
      (rw [run_eq]; simp only [stepA, hx, Tryz.func45, Tryz.f45, show retF 45 = false from rfl]; simp only [List.length_cons, List.length_nil, Nat.reduceAdd, Nat.reduceLeDiff, Nat.zero_le, ↓reduceIte, List.zipIdx_cons, List.zipIdx_nil, List.map_cons, List.map_nil])
      simp only [dcV, dcC, tbV, tbC, levV, levC, sV, iV, bV, dV] at ht ⊢
      simp only [zS, nilEq, wantedA, opA, eff, boxA, cells, ev, gt, pt, putO, updO, setO, okC, loadA, cutC, fieldAddrA, fieldA, indexAddrA, indexA, builtinA, callOpA, callV, target, ptrV, lenS, binA, intOp, strOp, unA, num, lk, over, allocA, pickA, buildA, fillA, convertA, extractA, ofComp, nilCheckA, makeFuncA, ptrs, ofValue, cellB, Nat.reduceAdd, Nat.reduceSub, Nat.reduceMul, Nat.reduceLT, Nat.reduceLeDiff, Nat.reduceGT, ↓reduceIte, Nat.reduceEqDiff, Nat.reduceBEq, reduceCtorEq, Int.reduceBEq, Int.reduceBNe, Int.reduceLT, Int.reduceLE, Int.reduceGT, Int.reduceGE, aggT_24, sizeT_24, bytesT_24, fieldT_24_0, placesT_24, zeroT_24, aggT_39, sizeT_39, bytesT_39, fieldT_39_0, fieldT_39_1, fieldT_39_2, fieldT_39_3, fieldT_39_4, fieldT_39_5, fieldT_39_6, fieldT_39_7, fieldT_39_8, placesT_39, zeroT_39, aggT_33, sizeT_33, bytesT_33, fieldT_33_0, fieldT_33_1, fieldT_33_2, fieldT_33_3, fieldT_33_4, placesT_33, zeroT_33, aggT_36, sizeT_36, bytesT_36, fieldT_36_0, fieldT_36_1, placesT_36, zeroT_36, aggT_30, sizeT_30, bytesT_30, und_30, elemT_30, isSliceT_30, zero1_30, zeroT_30, aggT_27, sizeT_27, bytesT_27, und_27, zero1_27, zeroT_27, aggT_9, sizeT_9, bytesT_9, und_9, zero1_9, zeroT_9, aggT_3, sizeT_3, bytesT_3, und_3, zero1_3, zeroT_3, ht, callOut_vd, c]
      (refine Eq.trans ?_ rfl; kernel_rfl)
end Go.Proofs.YteenjodhmppgjaaGreatDoor.Am
end
section
/- Copies of levels; variables; what a place binds. -/
namespace Go.Proofs.YteenjodhmppgjaaGreatDoor.Am
open Go
variable (ext : Ext)
set_option maxHeartbeats 8000000
noncomputable def B49 : Code := (Tryz.f49.body.getD .skip)
noncomputable def L49a : Code := sub B49 [1, 1, 0, 1, 0, 0]
noncomputable def K49a : List It := [.inBlock 0, .code (sub B49 [1, 1, 1])]
noncomputable def H49a (ext : Ext) (m : Nat) (env : Env) (loc : List O) : Option Out := run Tryz.prog ext (.k ⟨26, m, [.cell 2 36], false⟩ (.code L49a :: .inLoop L49a :: K49a) env loc)
noncomputable def B89 : Code := (Tryz.f89.body.getD .skip)
noncomputable def L89a : Code := sub B89 [1, 1, 0, 1, 0, 0]
noncomputable def K89a : List It := [.inBlock 0, .code (sub B89 [1, 1, 1])]
noncomputable def H89a (ext : Ext) (m : Nat) (env : Env) (loc : List O) : Option Out := run Tryz.prog ext (.k ⟨20, m, [.tmp 2], false⟩ (.code L89a :: .inLoop L89a :: K89a) env loc)
theorem mapE_pure {α β : Type} (g : α → β) : ∀ l : List α, mapE (fun x => (g x, 0)) l = .inl (l.map g)
  | [] => rfl
  | x :: l => by simp only [mapE, mapE_pure g l, if_true, List.map_cons]
def cpLev (u : Lev) : Lev := ⟨u.c, u.vs, true⟩
def E49 (k : Int) : Env := [(1, .c (.ptr 0 0)), (2, .c (.ptr 1 0)), (3, .c (.ptr 2 0)), (4, iV k)]
def O49 (u : Lev) (vs : List LV) : List O := .box (levC u) :: .box (levC zL0) :: .box [.d (.v (.int .i64 u.c)), mkC 3 (vs.map lvD)] :: mkO 2 (vs.map lvD)
theorem levC_z0 : levC zL0 = [.d (.v (.int .i64 0)), .d (.v (.slice none 0 0))] := rfl
theorem lvD_eqF (x : LV) : lvD x = [.v (.int .i64 x.v), .v (.int .i64 x.p)] := rfl
theorem vd_lt {u : Lev} {k : Nat} (h : (k : Int) < u.vs.length) : u.d = .s 2 (u.vs.map lvD) := by unfold Lev.d; exact listD_of_lt (b := k) (by omega) (by simpa using h)
theorem enter49 (hx : ext 49 = none) (u : Lev) (out : Option Out) (h : H49a ext 0 (E49 0) (O49 u []) = out) : run Tryz.prog ext (.call 49 [levV u] []) = out := by
  unfold H49a at h
  (rw [run_eq]; simp only [stepA, hx, Tryz.func49, Tryz.f49, show retF 49 = false from rfl]; simp only [List.length_cons, List.length_nil, Nat.reduceAdd, Nat.reduceLeDiff, Nat.zero_le, ↓reduceIte, List.zipIdx_cons, List.zipIdx_nil, List.map_cons, List.map_nil])
  simp only [levV, levC_z0, levC, dV, iV, E49, O49, List.map_nil, mkC_nil, mkO_nil] at h ⊢
  simp only [zS, nilEq, wantedA, opA, eff, boxA, cells, ev, gt, pt, putO, updO, setO, okC, loadA, cutC, fieldAddrA, fieldA, indexAddrA, indexA, builtinA, callOpA, callV, target, ptrV, lenS, binA, intOp, strOp, unA, num, lk, over, allocA, pickA, buildA, fillA, convertA, extractA, ofComp, nilCheckA, makeFuncA, ptrs, ofValue, cellB, Nat.reduceAdd, Nat.reduceSub, Nat.reduceMul, Nat.reduceLT, Nat.reduceLeDiff, Nat.reduceGT, ↓reduceIte, Nat.reduceEqDiff, Nat.reduceBEq, reduceCtorEq, Int.reduceBEq, Int.reduceBNe, Int.reduceLT, Int.reduceLE, Int.reduceGT, Int.reduceGE, aggT_36, sizeT_36, bytesT_36, fieldT_36_0, fieldT_36_1, placesT_36, zeroT_36, aggT_34, sizeT_34, bytesT_34, und_34, elemT_34, isSliceT_34, zero1_34, zeroT_34, aggT_30, sizeT_30, bytesT_30, und_30, elemT_30, isSliceT_30, zero1_30, zeroT_30, aggT_3, sizeT_3, bytesT_3, und_3, zero1_3, zeroT_3]
  (refine (r_inLoop_some ?_).trans h; kernel_rfl)
theorem step49 (u : Lev) (x : LV) (vs : List LV) (k : Nat) (hb : vs.length < 2 ^ 29) (hk : u.vs[k]? = some x) (hl : (k : Int) < u.vs.length) (out : Option Out)
    (h : H49a ext 0 (E49 (wr ((k : Int) + 1))) (O49 u (vs ++ [x])) = out) : H49a ext 0 (E49 k) (O49 u vs) = out := by
  have h0 : (0 : Int) ≤ k := by omega
  unfold H49a at h ⊢
  cases vs with
  | nil =>
    simp only [levC_z0, levC, dV, iV, E49, O49, vd_lt hl, List.map_append, List.map_cons, List.map_nil, mkC_nil, mkC_snoc, mkO_snoc, mkO_nil, List.nil_append, lvD_eqF x] at h ⊢
    (rw [show (It.code L49a) = It.code (sub B49 [1, 1, 0, 1, 0, 0]) from rfl]; simp only [B49, K49a, sub, Option.getD_some, Tryz.f49, ↓reduceIte, Nat.one_ne_zero])
    simp only [zS, nilEq, wantedA, opA, eff, boxA, cells, ev, gt, pt, putO, updO, setO, okC, loadA, cutC, fieldAddrA, fieldA, indexAddrA, indexA, builtinA, callOpA, callV, target, ptrV, lenS, binA, intOp, strOp, unA, num, lk, over, allocA, pickA, buildA, fillA, convertA, extractA, ofComp, nilCheckA, makeFuncA, ptrs, ofValue, cellB, Nat.reduceAdd, Nat.reduceSub, Nat.reduceMul, Nat.reduceLT, Nat.reduceLeDiff, Nat.reduceGT, ↓reduceIte, Nat.reduceEqDiff, Nat.reduceBEq, reduceCtorEq, Int.reduceBEq, Int.reduceBNe, Int.reduceLT, Int.reduceLE, Int.reduceGT, Int.reduceGE, aggT_36, sizeT_36, bytesT_36, fieldT_36_0, fieldT_36_1, placesT_36, zeroT_36, aggT_34, sizeT_34, bytesT_34, und_34, elemT_34, isSliceT_34, zero1_34, zeroT_34, aggT_110, sizeT_110, bytesT_110, fieldT_110_0, fieldT_110_1, placesT_110, zeroT_110, aggT_3, sizeT_3, bytesT_3, und_3, zero1_3, zeroT_3, drawA, holes_succ, holes_zero, Array.size, List.length, lenA_vd, h0, hl, Int.toNat_natCast, hk, lvD_eqF x, bsLV, no34, apH_arr, Nat.zero_le]
    rw [afterDraw_some _ _ _ _ (by kernel_rfl)]
    simp only [zS, nilEq, wantedA, opA, eff, boxA, cells, ev, gt, pt, putO, updO, setO, okC, loadA, cutC, fieldAddrA, fieldA, indexAddrA, indexA, builtinA, callOpA, callV, target, ptrV, lenS, binA, intOp, strOp, unA, num, lk, over, allocA, pickA, buildA, fillA, convertA, extractA, ofComp, nilCheckA, makeFuncA, ptrs, ofValue, cellB, Nat.reduceAdd, Nat.reduceSub, Nat.reduceMul, Nat.reduceLT, Nat.reduceLeDiff, Nat.reduceGT, ↓reduceIte, Nat.reduceEqDiff, Nat.reduceBEq, reduceCtorEq, Int.reduceBEq, Int.reduceBNe, Int.reduceLT, Int.reduceLE, Int.reduceGT, Int.reduceGE, aggT_3, sizeT_3, bytesT_3, und_3, zero1_3, zeroT_3]
    (refine (r_inLoop_some ?_).trans h; kernel_rfl)
  | cons a r =>
    have hb' : r.length + 1 ≤ 1000000000 := by simp only [List.length_cons] at hb; omega
    simp only [levC_z0, levC, dV, iV, E49, O49, vd_lt hl, List.map_append, List.map_cons, List.map_nil, mkC_cons, mkC_snoc, mkO_snoc, mkO_cons, List.cons_append, List.nil_append, lvD_eqF x] at h ⊢
    (rw [show (It.code L49a) = It.code (sub B49 [1, 1, 0, 1, 0, 0]) from rfl]; simp only [B49, K49a, sub, Option.getD_some, Tryz.f49, ↓reduceIte, Nat.one_ne_zero])
    simp only [zS, nilEq, wantedA, opA, eff, boxA, cells, ev, gt, pt, putO, updO, setO, okC, loadA, cutC, fieldAddrA, fieldA, indexAddrA, indexA, builtinA, callOpA, callV, target, ptrV, lenS, binA, intOp, strOp, unA, num, lk, over, allocA, pickA, buildA, fillA, convertA, extractA, ofComp, nilCheckA, makeFuncA, ptrs, ofValue, cellB, Nat.reduceAdd, Nat.reduceSub, Nat.reduceMul, Nat.reduceLT, Nat.reduceLeDiff, Nat.reduceGT, ↓reduceIte, Nat.reduceEqDiff, Nat.reduceBEq, reduceCtorEq, Int.reduceBEq, Int.reduceBNe, Int.reduceLT, Int.reduceLE, Int.reduceGT, Int.reduceGE, aggT_36, sizeT_36, bytesT_36, fieldT_36_0, fieldT_36_1, placesT_36, zeroT_36, aggT_34, sizeT_34, bytesT_34, und_34, elemT_34, isSliceT_34, zero1_34, zeroT_34, aggT_110, sizeT_110, bytesT_110, fieldT_110_0, fieldT_110_1, placesT_110, zeroT_110, aggT_3, sizeT_3, bytesT_3, und_3, zero1_3, zeroT_3, drawA, holes_succ, holes_zero, Array.size, List.length, lenA_vd, h0, hl, Int.toNat_natCast, hk, lvD_eqF x, bsLV, oo34, apG_arr, hb']
    rw [afterDraw_some _ _ _ _ (by kernel_rfl)]
    simp only [zS, nilEq, wantedA, opA, eff, boxA, cells, ev, gt, pt, putO, updO, setO, okC, loadA, cutC, fieldAddrA, fieldA, indexAddrA, indexA, builtinA, callOpA, callV, target, ptrV, lenS, binA, intOp, strOp, unA, num, lk, over, allocA, pickA, buildA, fillA, convertA, extractA, ofComp, nilCheckA, makeFuncA, ptrs, ofValue, cellB, Nat.reduceAdd, Nat.reduceSub, Nat.reduceMul, Nat.reduceLT, Nat.reduceLeDiff, Nat.reduceGT, ↓reduceIte, Nat.reduceEqDiff, Nat.reduceBEq, reduceCtorEq, Int.reduceBEq, Int.reduceBNe, Int.reduceLT, Int.reduceLE, Int.reduceGT, Int.reduceGE, aggT_3, sizeT_3, bytesT_3, und_3, zero1_3, zeroT_3]
    (refine (r_inLoop_some ?_).trans h; kernel_rfl)
theorem done49 (u : Lev) (vs : List LV) : H49a ext 0 (E49 u.vs.length) (O49 u vs) = some (.ret [levV ⟨u.c, vs, true⟩] []) := by
  unfold H49a
  cases vs
  all_goals
    simp only [levV, levC, levC_z0, dV, iV, E49, O49, List.map_cons, List.map_nil, mkC_nil, mkC_cons, mkO_nil, mkO_cons]
    (rw [show (It.code L49a) = It.code (sub B49 [1, 1, 0, 1, 0, 0]) from rfl]; simp only [B49, K49a, sub, Option.getD_some, Tryz.f49, ↓reduceIte, Nat.one_ne_zero])
    simp only [zS, nilEq, wantedA, opA, eff, boxA, cells, ev, gt, pt, putO, updO, setO, okC, loadA, cutC, fieldAddrA, fieldA, indexAddrA, indexA, builtinA, callOpA, callV, target, ptrV, lenS, binA, intOp, strOp, unA, num, lk, over, allocA, pickA, buildA, fillA, convertA, extractA, ofComp, nilCheckA, makeFuncA, ptrs, ofValue, cellB, Nat.reduceAdd, Nat.reduceSub, Nat.reduceMul, Nat.reduceLT, Nat.reduceLeDiff, Nat.reduceGT, ↓reduceIte, Nat.reduceEqDiff, Nat.reduceBEq, reduceCtorEq, Int.reduceBEq, Int.reduceBNe, Int.reduceLT, Int.reduceLE, Int.reduceGT, Int.reduceGE, aggT_36, sizeT_36, bytesT_36, fieldT_36_0, fieldT_36_1, placesT_36, zeroT_36, aggT_34, sizeT_34, bytesT_34, und_34, elemT_34, isSliceT_34, zero1_34, zeroT_34, aggT_3, sizeT_3, bytesT_3, und_3, zero1_3, zeroT_3, lenA_vd, Int.lt_irrefl]
    (refine Eq.trans ?_ rfl; kernel_rfl)
theorem copy49 (hx : ext 49 = none) (u : Lev) (hs : u.vs.length < 2 ^ 29) : run Tryz.prog ext (.call 49 [levV u] []) = some (.ret [levV (cpLev u)] []) := by
  refine enter49 ext hx u _ ?_
  have := loop_mapE (fun x : LV => (x, (0 : Int))) u.vs (fun k vs => H49a ext 0 (E49 k) (O49 u vs)) (fun _ => none) (fun vs => some (.ret [levV ⟨u.c, vs, true⟩] [])) (by omega)
    (fun k x vs hk hl he => ⟨fun _ out ho => step49 ext u x vs k (by omega) hk hl out ho, fun h => absurd rfl h⟩) (fun vs _ => done49 ext u vs)
  rw [this, mapE_pure (fun x => x)]
  simp [cpLev]
def E89 (D : D) (us : List Lev) (k : Int) : Env := [(0, dV D), (3, mkV 0 (us.map levD)), (4, iV k)]
theorem enter89 (hx : ext 89 = none) (D : D) (out : Option Out) (h : H89a ext 0 (E89 D [] 0) [] = out) : run Tryz.prog ext (.call 89 [dV D] []) = out := by
  unfold H89a at h
  (rw [run_eq]; simp only [stepA, hx, Tryz.func89, Tryz.f89, show retF 89 = false from rfl]; simp only [List.length_cons, List.length_nil, Nat.reduceAdd, Nat.reduceLeDiff, Nat.zero_le, ↓reduceIte, List.zipIdx_cons, List.zipIdx_nil, List.map_cons, List.map_nil])
  simp only [dV, iV, E89, List.map_nil, mkV_nil] at h ⊢
  simp only [zS, nilEq, wantedA, opA, eff, boxA, cells, ev, gt, pt, putO, updO, setO, okC, loadA, cutC, fieldAddrA, fieldA, indexAddrA, indexA, builtinA, callOpA, callV, target, ptrV, lenS, binA, intOp, strOp, unA, num, lk, over, allocA, pickA, buildA, fillA, convertA, extractA, ofComp, nilCheckA, makeFuncA, ptrs, ofValue, cellB, Nat.reduceAdd, Nat.reduceSub, Nat.reduceMul, Nat.reduceLT, Nat.reduceLeDiff, Nat.reduceGT, ↓reduceIte, Nat.reduceEqDiff, Nat.reduceBEq, reduceCtorEq, Int.reduceBEq, Int.reduceBNe, Int.reduceLT, Int.reduceLE, Int.reduceGT, Int.reduceGE, aggT_36, sizeT_36, bytesT_36, fieldT_36_0, fieldT_36_1, placesT_36, zeroT_36, aggT_30, sizeT_30, bytesT_30, und_30, elemT_30, isSliceT_30, zero1_30, zeroT_30, aggT_3, sizeT_3, bytesT_3, und_3, zero1_3, zeroT_3]
  (refine (r_inLoop_some ?_).trans h; kernel_rfl)
theorem step89 (z : Bool) (l : List Lev) (u y : Lev) (us : List Lev) (k : Nat) (hb : us.length < 2 ^ 29) (hk : l[k]? = some u) (hl : (k : Int) < l.length) (hr : run Tryz.prog ext (.call 49 [levV u] []) = some (.ret [levV y] [])) (out : Option Out)
    (h : H89a ext 0 (E89 (listD z 2 (l.map levD)) (us ++ [y]) (wr ((k : Int) + 1))) (mkO 2 ((us ++ [y]).map levD)) = out) : H89a ext 0 (E89 (listD z 2 (l.map levD)) us k) (mkO 2 (us.map levD)) = out := by
  have h0 : (0 : Int) ≤ k := by omega
  have hd : listD z 2 (l.map levD) = .s 2 (l.map levD) := listD_of_lt h0 (by simpa using hl)
  unfold H89a at h ⊢
  cases us with
  | nil =>
    simp only [levV, levC, dV, iV, E89, hd, List.map_append, List.map_cons, List.map_nil, mkV_nil, mkV_snoc, mkO_snoc, mkO_nil, List.nil_append, levD_eq y] at h hr ⊢
    (rw [show (It.code L89a) = It.code (sub B89 [1, 1, 0, 1, 0, 0]) from rfl]; simp only [B89, K89a, sub, Option.getD_some, Tryz.f89, ↓reduceIte, Nat.one_ne_zero])
    simp only [zS, nilEq, wantedA, opA, eff, boxA, cells, ev, gt, pt, putO, updO, setO, okC, loadA, cutC, fieldAddrA, fieldA, indexAddrA, indexA, builtinA, callOpA, callV, target, ptrV, lenS, binA, intOp, strOp, unA, num, lk, over, allocA, pickA, buildA, fillA, convertA, extractA, ofComp, nilCheckA, makeFuncA, ptrs, ofValue, cellB, Nat.reduceAdd, Nat.reduceSub, Nat.reduceMul, Nat.reduceLT, Nat.reduceLeDiff, Nat.reduceGT, ↓reduceIte, Nat.reduceEqDiff, Nat.reduceBEq, reduceCtorEq, Int.reduceBEq, Int.reduceBNe, Int.reduceLT, Int.reduceLE, Int.reduceGT, Int.reduceGE, aggT_36, sizeT_36, bytesT_36, fieldT_36_0, fieldT_36_1, placesT_36, zeroT_36, aggT_30, sizeT_30, bytesT_30, und_30, elemT_30, isSliceT_30, zero1_30, zeroT_30, aggT_3, sizeT_3, bytesT_3, und_3, zero1_3, zeroT_3, h0, hl, Int.toNat_natCast, hk, levD_eq u, hr, bsLev, no30, apH_arr, Nat.zero_le]
    (refine (r_inLoop_some ?_).trans h; kernel_rfl)
  | cons a r =>
    have hb' : r.length + 1 ≤ 1000000000 := by simp only [List.length_cons] at hb; omega
    simp only [levV, levC, dV, iV, E89, hd, List.map_append, List.map_cons, List.map_nil, mkV_cons, mkV_snoc, mkO_snoc, mkO_cons, List.cons_append, List.nil_append, levD_eq y] at h hr ⊢
    (rw [show (It.code L89a) = It.code (sub B89 [1, 1, 0, 1, 0, 0]) from rfl]; simp only [B89, K89a, sub, Option.getD_some, Tryz.f89, ↓reduceIte, Nat.one_ne_zero])
    simp only [zS, nilEq, wantedA, opA, eff, boxA, cells, ev, gt, pt, putO, updO, setO, okC, loadA, cutC, fieldAddrA, fieldA, indexAddrA, indexA, builtinA, callOpA, callV, target, ptrV, lenS, binA, intOp, strOp, unA, num, lk, over, allocA, pickA, buildA, fillA, convertA, extractA, ofComp, nilCheckA, makeFuncA, ptrs, ofValue, cellB, Nat.reduceAdd, Nat.reduceSub, Nat.reduceMul, Nat.reduceLT, Nat.reduceLeDiff, Nat.reduceGT, ↓reduceIte, Nat.reduceEqDiff, Nat.reduceBEq, reduceCtorEq, Int.reduceBEq, Int.reduceBNe, Int.reduceLT, Int.reduceLE, Int.reduceGT, Int.reduceGE, aggT_36, sizeT_36, bytesT_36, fieldT_36_0, fieldT_36_1, placesT_36, zeroT_36, aggT_30, sizeT_30, bytesT_30, und_30, elemT_30, isSliceT_30, zero1_30, zeroT_30, aggT_3, sizeT_3, bytesT_3, und_3, zero1_3, zeroT_3, h0, hl, Int.toNat_natCast, hk, levD_eq u, hr, bsLev, oo30, apG_arr, hb']
    (refine (r_inLoop_some ?_).trans h; kernel_rfl)
theorem done89 (z : Bool) (l us : List Lev) : H89a ext 0 (E89 (listD z 2 (l.map levD)) us l.length) (mkO 2 (us.map levD)) = some (.ret [dV (listD true 2 (us.map levD))] []) := by
  unfold H89a
  cases us
  all_goals
    simp only [dV, iV, E89, List.map_cons, List.map_nil, mkV_nil, mkV_cons, mkO_nil, mkO_cons]
    (rw [show (It.code L89a) = It.code (sub B89 [1, 1, 0, 1, 0, 0]) from rfl]; simp only [B89, K89a, sub, Option.getD_some, Tryz.f89, ↓reduceIte, Nat.one_ne_zero])
    simp only [zS, nilEq, wantedA, opA, eff, boxA, cells, ev, gt, pt, putO, updO, setO, okC, loadA, cutC, fieldAddrA, fieldA, indexAddrA, indexA, builtinA, callOpA, callV, target, ptrV, lenS, binA, intOp, strOp, unA, num, lk, over, allocA, pickA, buildA, fillA, convertA, extractA, ofComp, nilCheckA, makeFuncA, ptrs, ofValue, cellB, Nat.reduceAdd, Nat.reduceSub, Nat.reduceMul, Nat.reduceLT, Nat.reduceLeDiff, Nat.reduceGT, ↓reduceIte, Nat.reduceEqDiff, Nat.reduceBEq, reduceCtorEq, Int.reduceBEq, Int.reduceBNe, Int.reduceLT, Int.reduceLE, Int.reduceGT, Int.reduceGE, aggT_30, sizeT_30, bytesT_30, und_30, elemT_30, isSliceT_30, zero1_30, zeroT_30, aggT_3, sizeT_3, bytesT_3, und_3, zero1_3, zeroT_3, Int.lt_irrefl]
    (refine Eq.trans ?_ rfl; kernel_rfl)
theorem copy89 (hx : ext 89 = none) (h49 : ext 49 = none) (z : Bool) (l : List Lev) (hs : l.length < 2 ^ 29) (hv : ∀ u ∈ l, u.vs.length < 2 ^ 29) : run Tryz.prog ext (.call 89 [dV (listD z 2 (l.map levD))] []) = some (.ret [dV (listD true 2 ((l.map cpLev).map levD))] []) := by
  refine enter89 ext hx _ _ ?_
  have := loop_mapE (fun u : Lev => (cpLev u, (0 : Int))) l (fun k us => H89a ext 0 (E89 (listD z 2 (l.map levD)) us k) (mkO 2 (us.map levD))) (fun _ => none) (fun us => some (.ret [dV (listD true 2 (us.map levD))] [])) (by omega)
    (fun k u us hk hl he => ⟨fun _ out ho => step89 ext z l u _ us k (by omega) hk hl (copy49 ext h49 u (hv u (List.mem_of_getElem? hk))) out ho, fun h => absurd rfl h⟩) (fun us _ => done89 ext z l us)
  rw [mapE_pure cpLev] at this
  exact this
def withL (x : Tm) : Tm := .mk x.op x.n x.s (x.u.map cpLev) true [] true
theorem with204 (hx : ext 204 = none) (h89 : ext 89 = none) (h49 : ext 49 = none) (x : Tm) (hs : x.sz < 2 ^ 29) : run Tryz.prog ext (.call 204 [tmV x, dV (.v (.slice none 0 0))] []) = some (.ret [tmV (withL x)] []) := by
  have hr := copy89 ext h89 h49 x.zu x.u (by have := x.ulen_lt; omega) (fun u hu => by have := Tm.lev_lt hu; unfold Lev.sz at this; omega)
  have e : listD x.zu 2 (x.u.map levD) = x.uD := rfl
  rw [e] at hr
  (rw [run_eq]; simp only [stepA, hx, Tryz.func204, Tryz.f204, show retF 204 = false from rfl]; simp only [List.length_cons, List.length_nil, Nat.reduceAdd, Nat.reduceLeDiff, Nat.zero_le, ↓reduceIte, List.zipIdx_cons, List.zipIdx_nil, List.map_cons, List.map_nil])
  simp only [tmV, tmC_mk, withL, dV] at hr ⊢
  simp only [tmC]
  simp only [zS, nilEq, wantedA, opA, eff, boxA, cells, ev, gt, pt, putO, updO, setO, okC, loadA, cutC, fieldAddrA, fieldA, indexAddrA, indexA, builtinA, callOpA, callV, target, ptrV, lenS, binA, intOp, strOp, unA, num, lk, over, allocA, pickA, buildA, fillA, convertA, extractA, ofComp, nilCheckA, makeFuncA, ptrs, ofValue, cellB, Nat.reduceAdd, Nat.reduceSub, Nat.reduceMul, Nat.reduceLT, Nat.reduceLeDiff, Nat.reduceGT, ↓reduceIte, Nat.reduceEqDiff, Nat.reduceBEq, reduceCtorEq, Int.reduceBEq, Int.reduceBNe, Int.reduceLT, Int.reduceLE, Int.reduceGT, Int.reduceGE, aggT_33, sizeT_33, bytesT_33, fieldT_33_0, fieldT_33_1, fieldT_33_2, fieldT_33_3, fieldT_33_4, placesT_33, zeroT_33, aggT_30, sizeT_30, bytesT_30, und_30, elemT_30, isSliceT_30, zero1_30, zeroT_30, aggT_31, sizeT_31, bytesT_31, und_31, elemT_31, isSliceT_31, zero1_31, zeroT_31, aggT_9, sizeT_9, bytesT_9, und_9, zero1_9, zeroT_9, aggT_3, sizeT_3, bytesT_3, und_3, zero1_3, zeroT_3, drawA, holes_succ, holes_zero, Array.size, List.length, hr]
  rw [afterDraw_some _ _ _ _ (by kernel_rfl)]
  simp only [zS, nilEq, wantedA, opA, eff, boxA, cells, ev, gt, pt, putO, updO, setO, okC, loadA, cutC, fieldAddrA, fieldA, indexAddrA, indexA, builtinA, callOpA, callV, target, ptrV, lenS, binA, intOp, strOp, unA, num, lk, over, allocA, pickA, buildA, fillA, convertA, extractA, ofComp, nilCheckA, makeFuncA, ptrs, ofValue, cellB, Nat.reduceAdd, Nat.reduceSub, Nat.reduceMul, Nat.reduceLT, Nat.reduceLeDiff, Nat.reduceGT, ↓reduceIte, Nat.reduceEqDiff, Nat.reduceBEq, reduceCtorEq, Int.reduceBEq, Int.reduceBNe, Int.reduceLT, Int.reduceLE, Int.reduceGT, Int.reduceGE, aggT_33, sizeT_33, bytesT_33, fieldT_33_0, fieldT_33_1, fieldT_33_2, fieldT_33_3, fieldT_33_4, placesT_33, zeroT_33]
  (refine Eq.trans ?_ rfl; kernel_rfl)
def isVar (x : Tm) : Bool := decide (x.op = 1) && (decide (0 ≤ x.n) && decide (x.n ≤ 2147483648))
theorem var202 (hx : ext 202 = none) (x : Tm) : run Tryz.prog ext (.call 202 [tmV x] []) = some (.ret [bV (isVar x)] []) := by
  unfold isVar
  by_cases a : x.op = 1
  · by_cases b : 0 ≤ x.n
    · by_cases c : x.n ≤ 2147483648
      · (rw [run_eq]; simp only [stepA, hx, Tryz.func202, Tryz.f202, show retF 202 = false from rfl]; simp only [List.length_cons, List.length_nil, Nat.reduceAdd, Nat.reduceLeDiff, Nat.zero_le, ↓reduceIte, List.zipIdx_cons, List.zipIdx_nil, List.map_cons, List.map_nil])
        simp only [tmV, tmC, bV]
        simp only [zS, nilEq, wantedA, opA, eff, boxA, cells, ev, gt, pt, putO, updO, setO, okC, loadA, cutC, fieldAddrA, fieldA, indexAddrA, indexA, builtinA, callOpA, callV, target, ptrV, lenS, binA, intOp, strOp, unA, num, lk, over, allocA, pickA, buildA, fillA, convertA, extractA, ofComp, nilCheckA, makeFuncA, ptrs, ofValue, cellB, Nat.reduceAdd, Nat.reduceSub, Nat.reduceMul, Nat.reduceLT, Nat.reduceLeDiff, Nat.reduceGT, ↓reduceIte, Nat.reduceEqDiff, Nat.reduceBEq, reduceCtorEq, Int.reduceBEq, Int.reduceBNe, Int.reduceLT, Int.reduceLE, Int.reduceGT, Int.reduceGE, aggT_33, sizeT_33, bytesT_33, fieldT_33_0, fieldT_33_1, fieldT_33_2, fieldT_33_3, fieldT_33_4, placesT_33, zeroT_33, aggT_3, sizeT_3, bytesT_3, und_3, zero1_3, zeroT_3, ge_iff_le, a, b, c]
        (refine Eq.trans ?_ rfl; kernel_rfl)
      · (rw [run_eq]; simp only [stepA, hx, Tryz.func202, Tryz.f202, show retF 202 = false from rfl]; simp only [List.length_cons, List.length_nil, Nat.reduceAdd, Nat.reduceLeDiff, Nat.zero_le, ↓reduceIte, List.zipIdx_cons, List.zipIdx_nil, List.map_cons, List.map_nil])
        simp only [tmV, tmC, bV]
        simp only [zS, nilEq, wantedA, opA, eff, boxA, cells, ev, gt, pt, putO, updO, setO, okC, loadA, cutC, fieldAddrA, fieldA, indexAddrA, indexA, builtinA, callOpA, callV, target, ptrV, lenS, binA, intOp, strOp, unA, num, lk, over, allocA, pickA, buildA, fillA, convertA, extractA, ofComp, nilCheckA, makeFuncA, ptrs, ofValue, cellB, Nat.reduceAdd, Nat.reduceSub, Nat.reduceMul, Nat.reduceLT, Nat.reduceLeDiff, Nat.reduceGT, ↓reduceIte, Nat.reduceEqDiff, Nat.reduceBEq, reduceCtorEq, Int.reduceBEq, Int.reduceBNe, Int.reduceLT, Int.reduceLE, Int.reduceGT, Int.reduceGE, aggT_33, sizeT_33, bytesT_33, fieldT_33_0, fieldT_33_1, fieldT_33_2, fieldT_33_3, fieldT_33_4, placesT_33, zeroT_33, aggT_3, sizeT_3, bytesT_3, und_3, zero1_3, zeroT_3, ge_iff_le, a, b, c]
        (refine Eq.trans ?_ rfl; kernel_rfl)
    · (rw [run_eq]; simp only [stepA, hx, Tryz.func202, Tryz.f202, show retF 202 = false from rfl]; simp only [List.length_cons, List.length_nil, Nat.reduceAdd, Nat.reduceLeDiff, Nat.zero_le, ↓reduceIte, List.zipIdx_cons, List.zipIdx_nil, List.map_cons, List.map_nil])
      simp only [tmV, tmC, bV]
      simp only [zS, nilEq, wantedA, opA, eff, boxA, cells, ev, gt, pt, putO, updO, setO, okC, loadA, cutC, fieldAddrA, fieldA, indexAddrA, indexA, builtinA, callOpA, callV, target, ptrV, lenS, binA, intOp, strOp, unA, num, lk, over, allocA, pickA, buildA, fillA, convertA, extractA, ofComp, nilCheckA, makeFuncA, ptrs, ofValue, cellB, Nat.reduceAdd, Nat.reduceSub, Nat.reduceMul, Nat.reduceLT, Nat.reduceLeDiff, Nat.reduceGT, ↓reduceIte, Nat.reduceEqDiff, Nat.reduceBEq, reduceCtorEq, Int.reduceBEq, Int.reduceBNe, Int.reduceLT, Int.reduceLE, Int.reduceGT, Int.reduceGE, aggT_33, sizeT_33, bytesT_33, fieldT_33_0, fieldT_33_1, fieldT_33_2, fieldT_33_3, fieldT_33_4, placesT_33, zeroT_33, aggT_3, sizeT_3, bytesT_3, und_3, zero1_3, zeroT_3, ge_iff_le, a, b]
      (refine Eq.trans ?_ rfl; kernel_rfl)
  · (rw [run_eq]; simp only [stepA, hx, Tryz.func202, Tryz.f202, show retF 202 = false from rfl]; simp only [List.length_cons, List.length_nil, Nat.reduceAdd, Nat.reduceLeDiff, Nat.zero_le, ↓reduceIte, List.zipIdx_cons, List.zipIdx_nil, List.map_cons, List.map_nil])
    simp only [tmV, tmC, bV]
    simp only [zS, nilEq, wantedA, opA, eff, boxA, cells, ev, gt, pt, putO, updO, setO, okC, loadA, cutC, fieldAddrA, fieldA, indexAddrA, indexA, builtinA, callOpA, callV, target, ptrV, lenS, binA, intOp, strOp, unA, num, lk, over, allocA, pickA, buildA, fillA, convertA, extractA, ofComp, nilCheckA, makeFuncA, ptrs, ofValue, cellB, Nat.reduceAdd, Nat.reduceSub, Nat.reduceMul, Nat.reduceLT, Nat.reduceLeDiff, Nat.reduceGT, ↓reduceIte, Nat.reduceEqDiff, Nat.reduceBEq, reduceCtorEq, Int.reduceBEq, Int.reduceBNe, Int.reduceLT, Int.reduceLE, Int.reduceGT, Int.reduceGE, aggT_33, sizeT_33, bytesT_33, fieldT_33_0, fieldT_33_1, fieldT_33_2, fieldT_33_3, fieldT_33_4, placesT_33, zeroT_33, aggT_3, sizeT_3, bytesT_3, und_3, zero1_3, zeroT_3, ge_iff_le, a]
    (refine Eq.trans ?_ rfl; kernel_rfl)
theorem var200 (hx : ext 200 = none) (x : Tm) : run Tryz.prog ext (.call 200 [tmV x] []) = some (.ret [bV (isVar x)] []) := by
  unfold isVar
  by_cases a : x.op = 1
  · by_cases b : 0 ≤ x.n
    · by_cases c : x.n ≤ 2147483648
      · (rw [run_eq]; simp only [stepA, hx, Tryz.func200, Tryz.f200, show retF 200 = false from rfl]; simp only [List.length_cons, List.length_nil, Nat.reduceAdd, Nat.reduceLeDiff, Nat.zero_le, ↓reduceIte, List.zipIdx_cons, List.zipIdx_nil, List.map_cons, List.map_nil])
        simp only [tmV, tmC, bV]
        simp only [zS, nilEq, wantedA, opA, eff, boxA, cells, ev, gt, pt, putO, updO, setO, okC, loadA, cutC, fieldAddrA, fieldA, indexAddrA, indexA, builtinA, callOpA, callV, target, ptrV, lenS, binA, intOp, strOp, unA, num, lk, over, allocA, pickA, buildA, fillA, convertA, extractA, ofComp, nilCheckA, makeFuncA, ptrs, ofValue, cellB, Nat.reduceAdd, Nat.reduceSub, Nat.reduceMul, Nat.reduceLT, Nat.reduceLeDiff, Nat.reduceGT, ↓reduceIte, Nat.reduceEqDiff, Nat.reduceBEq, reduceCtorEq, Int.reduceBEq, Int.reduceBNe, Int.reduceLT, Int.reduceLE, Int.reduceGT, Int.reduceGE, aggT_33, sizeT_33, bytesT_33, fieldT_33_0, fieldT_33_1, fieldT_33_2, fieldT_33_3, fieldT_33_4, placesT_33, zeroT_33, aggT_3, sizeT_3, bytesT_3, und_3, zero1_3, zeroT_3, ge_iff_le, a, b, c]
        (refine Eq.trans ?_ rfl; kernel_rfl)
      · (rw [run_eq]; simp only [stepA, hx, Tryz.func200, Tryz.f200, show retF 200 = false from rfl]; simp only [List.length_cons, List.length_nil, Nat.reduceAdd, Nat.reduceLeDiff, Nat.zero_le, ↓reduceIte, List.zipIdx_cons, List.zipIdx_nil, List.map_cons, List.map_nil])
        simp only [tmV, tmC, bV]
        simp only [zS, nilEq, wantedA, opA, eff, boxA, cells, ev, gt, pt, putO, updO, setO, okC, loadA, cutC, fieldAddrA, fieldA, indexAddrA, indexA, builtinA, callOpA, callV, target, ptrV, lenS, binA, intOp, strOp, unA, num, lk, over, allocA, pickA, buildA, fillA, convertA, extractA, ofComp, nilCheckA, makeFuncA, ptrs, ofValue, cellB, Nat.reduceAdd, Nat.reduceSub, Nat.reduceMul, Nat.reduceLT, Nat.reduceLeDiff, Nat.reduceGT, ↓reduceIte, Nat.reduceEqDiff, Nat.reduceBEq, reduceCtorEq, Int.reduceBEq, Int.reduceBNe, Int.reduceLT, Int.reduceLE, Int.reduceGT, Int.reduceGE, aggT_33, sizeT_33, bytesT_33, fieldT_33_0, fieldT_33_1, fieldT_33_2, fieldT_33_3, fieldT_33_4, placesT_33, zeroT_33, aggT_3, sizeT_3, bytesT_3, und_3, zero1_3, zeroT_3, ge_iff_le, a, b, c]
        (refine Eq.trans ?_ rfl; kernel_rfl)
    · (rw [run_eq]; simp only [stepA, hx, Tryz.func200, Tryz.f200, show retF 200 = false from rfl]; simp only [List.length_cons, List.length_nil, Nat.reduceAdd, Nat.reduceLeDiff, Nat.zero_le, ↓reduceIte, List.zipIdx_cons, List.zipIdx_nil, List.map_cons, List.map_nil])
      simp only [tmV, tmC, bV]
      simp only [zS, nilEq, wantedA, opA, eff, boxA, cells, ev, gt, pt, putO, updO, setO, okC, loadA, cutC, fieldAddrA, fieldA, indexAddrA, indexA, builtinA, callOpA, callV, target, ptrV, lenS, binA, intOp, strOp, unA, num, lk, over, allocA, pickA, buildA, fillA, convertA, extractA, ofComp, nilCheckA, makeFuncA, ptrs, ofValue, cellB, Nat.reduceAdd, Nat.reduceSub, Nat.reduceMul, Nat.reduceLT, Nat.reduceLeDiff, Nat.reduceGT, ↓reduceIte, Nat.reduceEqDiff, Nat.reduceBEq, reduceCtorEq, Int.reduceBEq, Int.reduceBNe, Int.reduceLT, Int.reduceLE, Int.reduceGT, Int.reduceGE, aggT_33, sizeT_33, bytesT_33, fieldT_33_0, fieldT_33_1, fieldT_33_2, fieldT_33_3, fieldT_33_4, placesT_33, zeroT_33, aggT_3, sizeT_3, bytesT_3, und_3, zero1_3, zeroT_3, ge_iff_le, a, b]
      (refine Eq.trans ?_ rfl; kernel_rfl)
  · (rw [run_eq]; simp only [stepA, hx, Tryz.func200, Tryz.f200, show retF 200 = false from rfl]; simp only [List.length_cons, List.length_nil, Nat.reduceAdd, Nat.reduceLeDiff, Nat.zero_le, ↓reduceIte, List.zipIdx_cons, List.zipIdx_nil, List.map_cons, List.map_nil])
    simp only [tmV, tmC, bV]
    simp only [zS, nilEq, wantedA, opA, eff, boxA, cells, ev, gt, pt, putO, updO, setO, okC, loadA, cutC, fieldAddrA, fieldA, indexAddrA, indexA, builtinA, callOpA, callV, target, ptrV, lenS, binA, intOp, strOp, unA, num, lk, over, allocA, pickA, buildA, fillA, convertA, extractA, ofComp, nilCheckA, makeFuncA, ptrs, ofValue, cellB, Nat.reduceAdd, Nat.reduceSub, Nat.reduceMul, Nat.reduceLT, Nat.reduceLeDiff, Nat.reduceGT, ↓reduceIte, Nat.reduceEqDiff, Nat.reduceBEq, reduceCtorEq, Int.reduceBEq, Int.reduceBNe, Int.reduceLT, Int.reduceLE, Int.reduceGT, Int.reduceGE, aggT_33, sizeT_33, bytesT_33, fieldT_33_0, fieldT_33_1, fieldT_33_2, fieldT_33_3, fieldT_33_4, placesT_33, zeroT_33, aggT_3, sizeT_3, bytesT_3, und_3, zero1_3, zeroT_3, ge_iff_le, a]
    (refine Eq.trans ?_ rfl; kernel_rfl)
end Go.Proofs.YteenjodhmppgjaaGreatDoor.Am
end
