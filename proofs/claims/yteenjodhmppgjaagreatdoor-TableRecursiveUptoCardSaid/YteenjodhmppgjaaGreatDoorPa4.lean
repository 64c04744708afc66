/- Part 4 of the proof of the card of TableRecursive, second form: no statement of its own; no conditions. -/
import Derived.Test.YteenjodhmppgjaaGreatDoorPa3
set_option linter.unusedSimpArgs false
set_option linter.unusedVariables false
set_option linter.defProp false
set_option linter.unusedSectionVars false
section
/- Lists of numbers and of strings: equality, the place of one, appends, the assumptions. -/
namespace Go.Proofs.YteenjodhmppgjaaGreatDoor.Am
open Go
variable (ext : Ext)
set_option maxHeartbeats 8000000
set_option maxRecDepth 4000
noncomputable def B27 : Code := (Tryz.f27.body.getD .skip)
noncomputable def L27a : Code := sub B27 [1, 1, 0, 1, 0, 0]
noncomputable def K27a : List It := [.inBlock 0, .code (sub B27 [1, 1, 1])]
noncomputable def H27a (ext : Ext) (m : Nat) (env : Env) (loc : List O) : Option Out := run Tryz.prog ext (.k ⟨26, m, [.tmp 4], false⟩ (.code L27a :: .inLoop L27a :: K27a) env loc)
noncomputable def B28 : Code := (Tryz.f28.body.getD .skip)
noncomputable def L28a : Code := sub B28 [1, 1, 0, 1, 0, 0]
noncomputable def K28a : List It := [.inBlock 0, .code (sub B28 [1, 1, 1])]
noncomputable def H28a (ext : Ext) (m : Nat) (env : Env) (loc : List O) : Option Out := run Tryz.prog ext (.k ⟨26, m, [.tmp 4], false⟩ (.code L28a :: .inLoop L28a :: K28a) env loc)


noncomputable def B186 : Code := (Tryz.f186.body.getD .skip)
noncomputable def L186a : Code := sub B186 [1, 0, 1, 0, 0]
noncomputable def K186a : List It := [.inBlock 0, .code (sub B186 [1, 1])]
noncomputable def H186a (ext : Ext) (m : Nat) (env : Env) (loc : List O) : Option Out := run Tryz.prog ext (.k ⟨19, m, [.tmp 4], false⟩ (.code L186a :: .inLoop L186a :: K186a) env loc)
noncomputable def B189 : Code := (Tryz.f189.body.getD .skip)
noncomputable def L189a : Code := sub B189 [1, 0, 1, 0, 0]
noncomputable def K189a : List It := [.inBlock 0, .code (sub B189 [1, 1])]
noncomputable def H189a (ext : Ext) (m : Nat) (env : Env) (loc : List O) : Option Out := run Tryz.prog ext (.k ⟨19, m, [.tmp 4], false⟩ (.code L189a :: .inLoop L189a :: K189a) env loc)
def inD (n : Int) : List D := [.v (.int .i64 n)]
def stD (s : ByteArray) : List D := [.v (.string s)]
theorem inD_eq (n : Int) : inD n = [.v (.int .i64 n)] := rfl
theorem stD_eq (s : ByteArray) : stD s = [.v (.string s)] := rfl
theorem z43 : (zeroT Tryz.prog 3).map List.length = some 1 := by rw [zeroT_3]; rfl
theorem z52 : (zeroT Tryz.prog 9).map List.length = some 1 := by rw [zeroT_9]; rfl
theorem i43 : (zeroT Tryz.prog 3).isSome = true := by rw [zeroT_3]; rfl
theorem i52 : (zeroT Tryz.prog 9).isSome = true := by rw [zeroT_9]; rfl
theorem bsIn {look : Look} {slot : Nat} {a : Int} : buildSliceA Tryz.prog look slot 43 1 [(0, .c (.d (.v (.int .i64 a))))] = some ⟨.val (.c (.own slot)), [(slot, .arr 1 [[.v (.int .i64 a)]])], []⟩ :=
  bs_one (cs := [.d (.v (.int .i64 a))]) elemT_43 sizeT_3 i43 rfl rfl rfl (by decide) (by decide)
theorem bsSt {look : Look} {slot : Nat} {a : ByteArray} : buildSliceA Tryz.prog look slot 52 1 [(0, .c (.d (.v (.string a))))] = some ⟨.val (.c (.own slot)), [(slot, .arr 1 [[.v (.string a)]])], []⟩ :=
  bs_one (cs := [.d (.v (.string a))]) elemT_52 sizeT_9 i52 rfl rfl rfl (by decide) (by decide)
section
variable (look : Look) (slot id j : Nat)
theorem oo43 : appendA Tryz.prog look slot [43, 43] [.c (.own id), .c (.own j)] = apG 1 8 slot id j (look id) (look j) := app_oo elemT_43 sizeT_3 bytesT_3 z43 (by decide) id j
theorem no43 : appendA Tryz.prog look slot [43, 43] [.c (.d (.v (.slice none 0 0))), .c (.own j)] = apH 1 8 slot j (look j) := app_no elemT_43 sizeT_3 bytesT_3 z43 (by decide) j
theorem oo52 : appendA Tryz.prog look slot [52, 52] [.c (.own id), .c (.own j)] = apG 1 16 slot id j (look id) (look j) := app_oo elemT_52 sizeT_9 bytesT_9 z52 (by decide) id j
theorem no52 : appendA Tryz.prog look slot [52, 52] [.c (.d (.v (.slice none 0 0))), .c (.own j)] = apH 1 16 slot j (look j) := app_no elemT_52 sizeT_9 bytesT_9 z52 (by decide) j
end
/-! ### equality -/
def eqIn (a b : Int) : Bool := a == b
def eqSt (a b : ByteArray) : Bool := a.toList == b.toList
def E27 (a b : D) (k : Int) : Env := [(0, dV a), (1, dV b), (5, iV k)]
theorem eq27 (hx : ext 27 = none) (z z' : Bool) (l m : List Int) (hs : l.length < 2 ^ 50) : run Tryz.prog ext (.call 27 [dV (listD z 1 (l.map inD)), dV (listD z' 1 (m.map inD))] []) = some (.ret [bV (allR eqIn l m)] []) := by
  by_cases h2 : (l.length : Int) = m.length
  case neg =>
    have e : allR eqIn l m = false := by
      cases hh : allR eqIn l m with
      | false => rfl
      | true => have := allR_len hh; omega
    rw [e]
    (rw [run_eq]; simp only [stepA, hx, Tryz.func27, Tryz.f27, show retF 27 = false from rfl]; simp only [List.length_cons, List.length_nil, Nat.reduceAdd, Nat.reduceLeDiff, Nat.zero_le, ↓reduceIte, List.zipIdx_cons, List.zipIdx_nil, List.map_cons, List.map_nil])
    simp only [dV, bV]
    simp only [zS, nilEq, wantedA, opA, eff, boxA, cells, ev, gt, pt, putO, updO, setO, okC, loadA, cutC, fieldAddrA, fieldA, indexAddrA, indexA, builtinA, callOpA, callV, target, ptrV, lenS, binA, intOp, strOp, unA, num, lk, over, allocA, pickA, buildA, fillA, convertA, extractA, ofComp, nilCheckA, makeFuncA, ptrs, ofValue, cellB, Nat.reduceAdd, Nat.reduceSub, Nat.reduceMul, Nat.reduceLT, Nat.reduceLeDiff, Nat.reduceGT, ↓reduceIte, Nat.reduceEqDiff, Nat.reduceBEq, reduceCtorEq, Int.reduceBEq, Int.reduceBNe, Int.reduceLT, Int.reduceLE, Int.reduceGT, Int.reduceGE, aggT_43, sizeT_43, bytesT_43, und_43, elemT_43, isSliceT_43, zero1_43, zeroT_43, aggT_3, sizeT_3, bytesT_3, und_3, zero1_3, zeroT_3, h2]
    (refine Eq.trans ?_ rfl; kernel_rfl)
  have he : ∀ out, H27a ext 0 (E27 (listD z 1 (l.map inD)) (listD z' 1 (m.map inD)) 0) [] = out → run Tryz.prog ext (.call 27 [dV (listD z 1 (l.map inD)), dV (listD z' 1 (m.map inD))] []) = out := by
    intro out h
    unfold H27a at h
    (rw [run_eq]; simp only [stepA, hx, Tryz.func27, Tryz.f27, show retF 27 = false from rfl]; simp only [List.length_cons, List.length_nil, Nat.reduceAdd, Nat.reduceLeDiff, Nat.zero_le, ↓reduceIte, List.zipIdx_cons, List.zipIdx_nil, List.map_cons, List.map_nil])
    simp only [dV, iV, E27] at h ⊢
    simp only [zS, nilEq, wantedA, opA, eff, boxA, cells, ev, gt, pt, putO, updO, setO, okC, loadA, cutC, fieldAddrA, fieldA, indexAddrA, indexA, builtinA, callOpA, callV, target, ptrV, lenS, binA, intOp, strOp, unA, num, lk, over, allocA, pickA, buildA, fillA, convertA, extractA, ofComp, nilCheckA, makeFuncA, ptrs, ofValue, cellB, Nat.reduceAdd, Nat.reduceSub, Nat.reduceMul, Nat.reduceLT, Nat.reduceLeDiff, Nat.reduceGT, ↓reduceIte, Nat.reduceEqDiff, Nat.reduceBEq, reduceCtorEq, Int.reduceBEq, Int.reduceBNe, Int.reduceLT, Int.reduceLE, Int.reduceGT, Int.reduceGE, aggT_43, sizeT_43, bytesT_43, und_43, elemT_43, isSliceT_43, zero1_43, zeroT_43, aggT_3, sizeT_3, bytesT_3, und_3, zero1_3, zeroT_3, h2]
    (refine (r_inLoop_some ?_).trans h; kernel_rfl)
  refine he _ ?_
  have := loop_findK l (fun k => H27a ext 0 (E27 (listD z 1 (l.map inD)) (listD z' 1 (m.map inD)) k) []) (pairP eqIn m) (fun _ => some (.ret [bV false] [])) (some (.ret [bV true] [])) (by omega) (fun k a hk hl => by
      have h0 : (0 : Int) ≤ k := by omega
      have hl2 : (k : Int) < m.length := by omega
      have hlt : k < m.length := by omega
      have hb : m[k]? = some m[k] := by simp [hlt]
      generalize m[k] = b at hb
      have hd : listD z 1 (l.map inD) = .s 1 (l.map inD) := listD_of_lt h0 (by simpa using hl)
      have hd2 : listD z' 1 (m.map inD) = .s 1 (m.map inD) := listD_of_lt h0 (by simpa using hl2)
      have hpp : pairP eqIn m k a = !eqIn a b := by unfold pairP; rw [hb]
      unfold H27a
      rw [hpp]
      refine ⟨fun hp => ?_, fun hp out h => ?_⟩
      · have hp' : (a == b) = false := by simpa [eqIn] using hp
        have hp2 : (a != b) = true := by simp [bne, hp']
        simp only [dV, iV, bV, E27, hd, hd2]
        (rw [show (It.code L27a) = It.code (sub B27 [1, 1, 0, 1, 0, 0]) from rfl]; simp only [B27, K27a, sub, Option.getD_some, Tryz.f27, ↓reduceIte, Nat.one_ne_zero])
        simp only [zS, nilEq, wantedA, opA, eff, boxA, cells, ev, gt, pt, putO, updO, setO, okC, loadA, cutC, fieldAddrA, fieldA, indexAddrA, indexA, builtinA, callOpA, callV, target, ptrV, lenS, binA, intOp, strOp, unA, num, lk, over, allocA, pickA, buildA, fillA, convertA, extractA, ofComp, nilCheckA, makeFuncA, ptrs, ofValue, cellB, Nat.reduceAdd, Nat.reduceSub, Nat.reduceMul, Nat.reduceLT, Nat.reduceLeDiff, Nat.reduceGT, ↓reduceIte, Nat.reduceEqDiff, Nat.reduceBEq, reduceCtorEq, Int.reduceBEq, Int.reduceBNe, Int.reduceLT, Int.reduceLE, Int.reduceGT, Int.reduceGE, aggT_43, sizeT_43, bytesT_43, und_43, elemT_43, isSliceT_43, zero1_43, zeroT_43, aggT_3, sizeT_3, bytesT_3, und_3, zero1_3, zeroT_3, drawA, holes_succ, holes_zero, Array.size, List.length, h0, hl, hl2, Int.toNat_natCast, hk, hb, inD, hp2]
        rw [afterDraw_some _ _ _ _ (by kernel_rfl)]
        simp only [zS, nilEq, wantedA, opA, eff, boxA, cells, ev, gt, pt, putO, updO, setO, okC, loadA, cutC, fieldAddrA, fieldA, indexAddrA, indexA, builtinA, callOpA, callV, target, ptrV, lenS, binA, intOp, strOp, unA, num, lk, over, allocA, pickA, buildA, fillA, convertA, extractA, ofComp, nilCheckA, makeFuncA, ptrs, ofValue, cellB, Nat.reduceAdd, Nat.reduceSub, Nat.reduceMul, Nat.reduceLT, Nat.reduceLeDiff, Nat.reduceGT, ↓reduceIte, Nat.reduceEqDiff, Nat.reduceBEq, reduceCtorEq, Int.reduceBEq, Int.reduceBNe, Int.reduceLT, Int.reduceLE, Int.reduceGT, Int.reduceGE]
        (refine Eq.trans ?_ rfl; kernel_rfl)
      · have hp' : (a == b) = true := by simpa [eqIn] using hp
        have hp2 : (a != b) = false := by simp [bne, hp']
        simp only [dV, iV, bV, E27, hd, hd2] at h ⊢
        (rw [show (It.code L27a) = It.code (sub B27 [1, 1, 0, 1, 0, 0]) from rfl]; simp only [B27, K27a, sub, Option.getD_some, Tryz.f27, ↓reduceIte, Nat.one_ne_zero])
        simp only [zS, nilEq, wantedA, opA, eff, boxA, cells, ev, gt, pt, putO, updO, setO, okC, loadA, cutC, fieldAddrA, fieldA, indexAddrA, indexA, builtinA, callOpA, callV, target, ptrV, lenS, binA, intOp, strOp, unA, num, lk, over, allocA, pickA, buildA, fillA, convertA, extractA, ofComp, nilCheckA, makeFuncA, ptrs, ofValue, cellB, Nat.reduceAdd, Nat.reduceSub, Nat.reduceMul, Nat.reduceLT, Nat.reduceLeDiff, Nat.reduceGT, ↓reduceIte, Nat.reduceEqDiff, Nat.reduceBEq, reduceCtorEq, Int.reduceBEq, Int.reduceBNe, Int.reduceLT, Int.reduceLE, Int.reduceGT, Int.reduceGE, aggT_43, sizeT_43, bytesT_43, und_43, elemT_43, isSliceT_43, zero1_43, zeroT_43, aggT_3, sizeT_3, bytesT_3, und_3, zero1_3, zeroT_3, drawA, holes_succ, holes_zero, Array.size, List.length, h0, hl, hl2, Int.toNat_natCast, hk, hb, inD, hp2]
        rw [afterDraw_some _ _ _ _ (by kernel_rfl)]
        simp only [zS, nilEq, wantedA, opA, eff, boxA, cells, ev, gt, pt, putO, updO, setO, okC, loadA, cutC, fieldAddrA, fieldA, indexAddrA, indexA, builtinA, callOpA, callV, target, ptrV, lenS, binA, intOp, strOp, unA, num, lk, over, allocA, pickA, buildA, fillA, convertA, extractA, ofComp, nilCheckA, makeFuncA, ptrs, ofValue, cellB, Nat.reduceAdd, Nat.reduceSub, Nat.reduceMul, Nat.reduceLT, Nat.reduceLeDiff, Nat.reduceGT, ↓reduceIte, Nat.reduceEqDiff, Nat.reduceBEq, reduceCtorEq, Int.reduceBEq, Int.reduceBNe, Int.reduceLT, Int.reduceLE, Int.reduceGT, Int.reduceGE]
        (refine (r_inLoop_some ?_).trans h; kernel_rfl)) (by
      unfold H27a
      simp only [dV, iV, bV, E27]
      (rw [show (It.code L27a) = It.code (sub B27 [1, 1, 0, 1, 0, 0]) from rfl]; simp only [B27, K27a, sub, Option.getD_some, Tryz.f27, ↓reduceIte, Nat.one_ne_zero])
      simp only [zS, nilEq, wantedA, opA, eff, boxA, cells, ev, gt, pt, putO, updO, setO, okC, loadA, cutC, fieldAddrA, fieldA, indexAddrA, indexA, builtinA, callOpA, callV, target, ptrV, lenS, binA, intOp, strOp, unA, num, lk, over, allocA, pickA, buildA, fillA, convertA, extractA, ofComp, nilCheckA, makeFuncA, ptrs, ofValue, cellB, Nat.reduceAdd, Nat.reduceSub, Nat.reduceMul, Nat.reduceLT, Nat.reduceLeDiff, Nat.reduceGT, ↓reduceIte, Nat.reduceEqDiff, Nat.reduceBEq, reduceCtorEq, Int.reduceBEq, Int.reduceBNe, Int.reduceLT, Int.reduceLE, Int.reduceGT, Int.reduceGE, aggT_43, sizeT_43, bytesT_43, und_43, elemT_43, isSliceT_43, zero1_43, zeroT_43, aggT_3, sizeT_3, bytesT_3, und_3, zero1_3, zeroT_3, Int.lt_irrefl]
      (refine Eq.trans ?_ rfl; kernel_rfl))
  rw [this]
  exact pairs_res eqIn l m (by omega)
def E28 (a b : D) (k : Int) : Env := [(0, dV a), (1, dV b), (5, iV k)]
theorem eq28 (hx : ext 28 = none) (z z' : Bool) (l m : List ByteArray) (hs : l.length < 2 ^ 50) : run Tryz.prog ext (.call 28 [dV (listD z 1 (l.map stD)), dV (listD z' 1 (m.map stD))] []) = some (.ret [bV (allR eqSt l m)] []) := by
  by_cases h2 : (l.length : Int) = m.length
  case neg =>
    have e : allR eqSt l m = false := by
      cases hh : allR eqSt l m with
      | false => rfl
      | true => have := allR_len hh; omega
    rw [e]
    (rw [run_eq]; simp only [stepA, hx, Tryz.func28, Tryz.f28, show retF 28 = false from rfl]; simp only [List.length_cons, List.length_nil, Nat.reduceAdd, Nat.reduceLeDiff, Nat.zero_le, ↓reduceIte, List.zipIdx_cons, List.zipIdx_nil, List.map_cons, List.map_nil])
    simp only [dV, bV]
    simp only [zS, nilEq, wantedA, opA, eff, boxA, cells, ev, gt, pt, putO, updO, setO, okC, loadA, cutC, fieldAddrA, fieldA, indexAddrA, indexA, builtinA, callOpA, callV, target, ptrV, lenS, binA, intOp, strOp, unA, num, lk, over, allocA, pickA, buildA, fillA, convertA, extractA, ofComp, nilCheckA, makeFuncA, ptrs, ofValue, cellB, Nat.reduceAdd, Nat.reduceSub, Nat.reduceMul, Nat.reduceLT, Nat.reduceLeDiff, Nat.reduceGT, ↓reduceIte, Nat.reduceEqDiff, Nat.reduceBEq, reduceCtorEq, Int.reduceBEq, Int.reduceBNe, Int.reduceLT, Int.reduceLE, Int.reduceGT, Int.reduceGE, aggT_52, sizeT_52, bytesT_52, und_52, elemT_52, isSliceT_52, zero1_52, zeroT_52, aggT_3, sizeT_3, bytesT_3, und_3, zero1_3, zeroT_3, h2]
    (refine Eq.trans ?_ rfl; kernel_rfl)
  have he : ∀ out, H28a ext 0 (E28 (listD z 1 (l.map stD)) (listD z' 1 (m.map stD)) 0) [] = out → run Tryz.prog ext (.call 28 [dV (listD z 1 (l.map stD)), dV (listD z' 1 (m.map stD))] []) = out := by
    intro out h
    unfold H28a at h
    (rw [run_eq]; simp only [stepA, hx, Tryz.func28, Tryz.f28, show retF 28 = false from rfl]; simp only [List.length_cons, List.length_nil, Nat.reduceAdd, Nat.reduceLeDiff, Nat.zero_le, ↓reduceIte, List.zipIdx_cons, List.zipIdx_nil, List.map_cons, List.map_nil])
    simp only [dV, iV, E28] at h ⊢
    simp only [zS, nilEq, wantedA, opA, eff, boxA, cells, ev, gt, pt, putO, updO, setO, okC, loadA, cutC, fieldAddrA, fieldA, indexAddrA, indexA, builtinA, callOpA, callV, target, ptrV, lenS, binA, intOp, strOp, unA, num, lk, over, allocA, pickA, buildA, fillA, convertA, extractA, ofComp, nilCheckA, makeFuncA, ptrs, ofValue, cellB, Nat.reduceAdd, Nat.reduceSub, Nat.reduceMul, Nat.reduceLT, Nat.reduceLeDiff, Nat.reduceGT, ↓reduceIte, Nat.reduceEqDiff, Nat.reduceBEq, reduceCtorEq, Int.reduceBEq, Int.reduceBNe, Int.reduceLT, Int.reduceLE, Int.reduceGT, Int.reduceGE, aggT_52, sizeT_52, bytesT_52, und_52, elemT_52, isSliceT_52, zero1_52, zeroT_52, aggT_3, sizeT_3, bytesT_3, und_3, zero1_3, zeroT_3, h2]
    (refine (r_inLoop_some ?_).trans h; kernel_rfl)
  refine he _ ?_
  have := loop_findK l (fun k => H28a ext 0 (E28 (listD z 1 (l.map stD)) (listD z' 1 (m.map stD)) k) []) (pairP eqSt m) (fun _ => some (.ret [bV false] [])) (some (.ret [bV true] [])) (by omega) (fun k a hk hl => by
      have h0 : (0 : Int) ≤ k := by omega
      have hl2 : (k : Int) < m.length := by omega
      have hlt : k < m.length := by omega
      have hb : m[k]? = some m[k] := by simp [hlt]
      generalize m[k] = b at hb
      have hd : listD z 1 (l.map stD) = .s 1 (l.map stD) := listD_of_lt h0 (by simpa using hl)
      have hd2 : listD z' 1 (m.map stD) = .s 1 (m.map stD) := listD_of_lt h0 (by simpa using hl2)
      have hpp : pairP eqSt m k a = !eqSt a b := by unfold pairP; rw [hb]
      unfold H28a
      rw [hpp]
      refine ⟨fun hp => ?_, fun hp out h => ?_⟩
      · have hp' : (a.toList == b.toList) = false := by simpa [eqSt] using hp
        simp only [dV, iV, bV, E28, hd, hd2]
        (rw [show (It.code L28a) = It.code (sub B28 [1, 1, 0, 1, 0, 0]) from rfl]; simp only [B28, K28a, sub, Option.getD_some, Tryz.f28, ↓reduceIte, Nat.one_ne_zero])
        simp only [zS, nilEq, wantedA, opA, eff, boxA, cells, ev, gt, pt, putO, updO, setO, okC, loadA, cutC, fieldAddrA, fieldA, indexAddrA, indexA, builtinA, callOpA, callV, target, ptrV, lenS, binA, intOp, strOp, unA, num, lk, over, allocA, pickA, buildA, fillA, convertA, extractA, ofComp, nilCheckA, makeFuncA, ptrs, ofValue, cellB, Nat.reduceAdd, Nat.reduceSub, Nat.reduceMul, Nat.reduceLT, Nat.reduceLeDiff, Nat.reduceGT, ↓reduceIte, Nat.reduceEqDiff, Nat.reduceBEq, reduceCtorEq, Int.reduceBEq, Int.reduceBNe, Int.reduceLT, Int.reduceLE, Int.reduceGT, Int.reduceGE, aggT_52, sizeT_52, bytesT_52, und_52, elemT_52, isSliceT_52, zero1_52, zeroT_52, aggT_9, sizeT_9, bytesT_9, und_9, zero1_9, zeroT_9, aggT_3, sizeT_3, bytesT_3, und_3, zero1_3, zeroT_3, drawA, holes_succ, holes_zero, Array.size, List.length, h0, hl, hl2, Int.toNat_natCast, hk, hb, stD, hp']
        rw [afterDraw_some _ _ _ _ (by kernel_rfl)]
        simp only [zS, nilEq, wantedA, opA, eff, boxA, cells, ev, gt, pt, putO, updO, setO, okC, loadA, cutC, fieldAddrA, fieldA, indexAddrA, indexA, builtinA, callOpA, callV, target, ptrV, lenS, binA, intOp, strOp, unA, num, lk, over, allocA, pickA, buildA, fillA, convertA, extractA, ofComp, nilCheckA, makeFuncA, ptrs, ofValue, cellB, Nat.reduceAdd, Nat.reduceSub, Nat.reduceMul, Nat.reduceLT, Nat.reduceLeDiff, Nat.reduceGT, ↓reduceIte, Nat.reduceEqDiff, Nat.reduceBEq, reduceCtorEq, Int.reduceBEq, Int.reduceBNe, Int.reduceLT, Int.reduceLE, Int.reduceGT, Int.reduceGE]
        (refine Eq.trans ?_ rfl; kernel_rfl)
      · have hp' : (a.toList == b.toList) = true := by simpa [eqSt] using hp
        simp only [dV, iV, bV, E28, hd, hd2] at h ⊢
        (rw [show (It.code L28a) = It.code (sub B28 [1, 1, 0, 1, 0, 0]) from rfl]; simp only [B28, K28a, sub, Option.getD_some, Tryz.f28, ↓reduceIte, Nat.one_ne_zero])
        simp only [zS, nilEq, wantedA, opA, eff, boxA, cells, ev, gt, pt, putO, updO, setO, okC, loadA, cutC, fieldAddrA, fieldA, indexAddrA, indexA, builtinA, callOpA, callV, target, ptrV, lenS, binA, intOp, strOp, unA, num, lk, over, allocA, pickA, buildA, fillA, convertA, extractA, ofComp, nilCheckA, makeFuncA, ptrs, ofValue, cellB, Nat.reduceAdd, Nat.reduceSub, Nat.reduceMul, Nat.reduceLT, Nat.reduceLeDiff, Nat.reduceGT, ↓reduceIte, Nat.reduceEqDiff, Nat.reduceBEq, reduceCtorEq, Int.reduceBEq, Int.reduceBNe, Int.reduceLT, Int.reduceLE, Int.reduceGT, Int.reduceGE, aggT_52, sizeT_52, bytesT_52, und_52, elemT_52, isSliceT_52, zero1_52, zeroT_52, aggT_9, sizeT_9, bytesT_9, und_9, zero1_9, zeroT_9, aggT_3, sizeT_3, bytesT_3, und_3, zero1_3, zeroT_3, drawA, holes_succ, holes_zero, Array.size, List.length, h0, hl, hl2, Int.toNat_natCast, hk, hb, stD, hp']
        rw [afterDraw_some _ _ _ _ (by kernel_rfl)]
        simp only [zS, nilEq, wantedA, opA, eff, boxA, cells, ev, gt, pt, putO, updO, setO, okC, loadA, cutC, fieldAddrA, fieldA, indexAddrA, indexA, builtinA, callOpA, callV, target, ptrV, lenS, binA, intOp, strOp, unA, num, lk, over, allocA, pickA, buildA, fillA, convertA, extractA, ofComp, nilCheckA, makeFuncA, ptrs, ofValue, cellB, Nat.reduceAdd, Nat.reduceSub, Nat.reduceMul, Nat.reduceLT, Nat.reduceLeDiff, Nat.reduceGT, ↓reduceIte, Nat.reduceEqDiff, Nat.reduceBEq, reduceCtorEq, Int.reduceBEq, Int.reduceBNe, Int.reduceLT, Int.reduceLE, Int.reduceGT, Int.reduceGE]
        (refine (r_inLoop_some ?_).trans h; kernel_rfl)) (by
      unfold H28a
      simp only [dV, iV, bV, E28]
      (rw [show (It.code L28a) = It.code (sub B28 [1, 1, 0, 1, 0, 0]) from rfl]; simp only [B28, K28a, sub, Option.getD_some, Tryz.f28, ↓reduceIte, Nat.one_ne_zero])
      simp only [zS, nilEq, wantedA, opA, eff, boxA, cells, ev, gt, pt, putO, updO, setO, okC, loadA, cutC, fieldAddrA, fieldA, indexAddrA, indexA, builtinA, callOpA, callV, target, ptrV, lenS, binA, intOp, strOp, unA, num, lk, over, allocA, pickA, buildA, fillA, convertA, extractA, ofComp, nilCheckA, makeFuncA, ptrs, ofValue, cellB, Nat.reduceAdd, Nat.reduceSub, Nat.reduceMul, Nat.reduceLT, Nat.reduceLeDiff, Nat.reduceGT, ↓reduceIte, Nat.reduceEqDiff, Nat.reduceBEq, reduceCtorEq, Int.reduceBEq, Int.reduceBNe, Int.reduceLT, Int.reduceLE, Int.reduceGT, Int.reduceGE, aggT_52, sizeT_52, bytesT_52, und_52, elemT_52, isSliceT_52, zero1_52, zeroT_52, aggT_3, sizeT_3, bytesT_3, und_3, zero1_3, zeroT_3, Int.lt_irrefl]
      (refine Eq.trans ?_ rfl; kernel_rfl))
  rw [this]
  exact pairs_res eqSt l m (by omega)
/-! ### the place of a string -/
def ixOf (o : Option Nat) : Int := match o with | some k => k | none => -1
theorem has189 (hx : ext 189 = none) (z : Bool) (l : List ByteArray) (s : ByteArray) (hs : l.length < 2 ^ 50) : run Tryz.prog ext (.call 189 [dV (listD z 1 (l.map stD)), sV s] []) = some (.ret [iV (ixOf (l.findIdx? fun a => a.toList == s.toList))] []) := by
  have he : ∀ out, H189a ext 0 [(0, dV (listD z 1 (l.map stD))), (1, sV s), (5, iV 0)] [] = out → run Tryz.prog ext (.call 189 [dV (listD z 1 (l.map stD)), sV s] []) = out := by
    intro out h
    unfold H189a at h
    (rw [run_eq]; simp only [stepA, hx, Tryz.func189, Tryz.f189, show retF 189 = false from rfl]; simp only [List.length_cons, List.length_nil, Nat.reduceAdd, Nat.reduceLeDiff, Nat.zero_le, ↓reduceIte, List.zipIdx_cons, List.zipIdx_nil, List.map_cons, List.map_nil])
    simp only [dV, iV, sV] at h ⊢
    simp only [zS, nilEq, wantedA, opA, eff, boxA, cells, ev, gt, pt, putO, updO, setO, okC, loadA, cutC, fieldAddrA, fieldA, indexAddrA, indexA, builtinA, callOpA, callV, target, ptrV, lenS, binA, intOp, strOp, unA, num, lk, over, allocA, pickA, buildA, fillA, convertA, extractA, ofComp, nilCheckA, makeFuncA, ptrs, ofValue, cellB, Nat.reduceAdd, Nat.reduceSub, Nat.reduceMul, Nat.reduceLT, Nat.reduceLeDiff, Nat.reduceGT, ↓reduceIte, Nat.reduceEqDiff, Nat.reduceBEq, reduceCtorEq, Int.reduceBEq, Int.reduceBNe, Int.reduceLT, Int.reduceLE, Int.reduceGT, Int.reduceGE, aggT_52, sizeT_52, bytesT_52, und_52, elemT_52, isSliceT_52, zero1_52, zeroT_52, aggT_3, sizeT_3, bytesT_3, und_3, zero1_3, zeroT_3]
    (refine (r_inLoop_some ?_).trans h; kernel_rfl)
  refine he _ ?_
  have := loop_find l (fun k => H189a ext 0 [(0, dV (listD z 1 (l.map stD))), (1, sV s), (5, iV k)] []) (fun a => a.toList == s.toList) (fun k => some (.ret [iV k] [])) (some (.ret [iV (-1)] [])) (by omega) (fun k a hk hl => by
      have h0 : (0 : Int) ≤ k := by omega
      have hd : listD z 1 (l.map stD) = .s 1 (l.map stD) := listD_of_lt h0 (by simpa using hl)
      unfold H189a
      refine ⟨fun hp => ?_, fun hp out h => ?_⟩
      · simp only [dV, iV, sV, hd]
        (rw [show (It.code L189a) = It.code (sub B189 [1, 0, 1, 0, 0]) from rfl]; simp only [B189, K189a, sub, Option.getD_some, Tryz.f189, ↓reduceIte, Nat.one_ne_zero])
        simp only [zS, nilEq, wantedA, opA, eff, boxA, cells, ev, gt, pt, putO, updO, setO, okC, loadA, cutC, fieldAddrA, fieldA, indexAddrA, indexA, builtinA, callOpA, callV, target, ptrV, lenS, binA, intOp, strOp, unA, num, lk, over, allocA, pickA, buildA, fillA, convertA, extractA, ofComp, nilCheckA, makeFuncA, ptrs, ofValue, cellB, Nat.reduceAdd, Nat.reduceSub, Nat.reduceMul, Nat.reduceLT, Nat.reduceLeDiff, Nat.reduceGT, ↓reduceIte, Nat.reduceEqDiff, Nat.reduceBEq, reduceCtorEq, Int.reduceBEq, Int.reduceBNe, Int.reduceLT, Int.reduceLE, Int.reduceGT, Int.reduceGE, aggT_52, sizeT_52, bytesT_52, und_52, elemT_52, isSliceT_52, zero1_52, zeroT_52, aggT_9, sizeT_9, bytesT_9, und_9, zero1_9, zeroT_9, aggT_3, sizeT_3, bytesT_3, und_3, zero1_3, zeroT_3, h0, hl, Int.toNat_natCast, hk, stD, hp]
        (refine Eq.trans ?_ rfl; kernel_rfl)
      · simp only [dV, iV, sV, hd] at h ⊢
        (rw [show (It.code L189a) = It.code (sub B189 [1, 0, 1, 0, 0]) from rfl]; simp only [B189, K189a, sub, Option.getD_some, Tryz.f189, ↓reduceIte, Nat.one_ne_zero])
        simp only [zS, nilEq, wantedA, opA, eff, boxA, cells, ev, gt, pt, putO, updO, setO, okC, loadA, cutC, fieldAddrA, fieldA, indexAddrA, indexA, builtinA, callOpA, callV, target, ptrV, lenS, binA, intOp, strOp, unA, num, lk, over, allocA, pickA, buildA, fillA, convertA, extractA, ofComp, nilCheckA, makeFuncA, ptrs, ofValue, cellB, Nat.reduceAdd, Nat.reduceSub, Nat.reduceMul, Nat.reduceLT, Nat.reduceLeDiff, Nat.reduceGT, ↓reduceIte, Nat.reduceEqDiff, Nat.reduceBEq, reduceCtorEq, Int.reduceBEq, Int.reduceBNe, Int.reduceLT, Int.reduceLE, Int.reduceGT, Int.reduceGE, aggT_52, sizeT_52, bytesT_52, und_52, elemT_52, isSliceT_52, zero1_52, zeroT_52, aggT_9, sizeT_9, bytesT_9, und_9, zero1_9, zeroT_9, aggT_3, sizeT_3, bytesT_3, und_3, zero1_3, zeroT_3, h0, hl, Int.toNat_natCast, hk, stD, hp]
        (refine (r_inLoop_some ?_).trans h; kernel_rfl)) (by
      unfold H189a
      simp only [dV, iV, sV]
      (rw [show (It.code L189a) = It.code (sub B189 [1, 0, 1, 0, 0]) from rfl]; simp only [B189, K189a, sub, Option.getD_some, Tryz.f189, ↓reduceIte, Nat.one_ne_zero])
      simp only [zS, nilEq, wantedA, opA, eff, boxA, cells, ev, gt, pt, putO, updO, setO, okC, loadA, cutC, fieldAddrA, fieldA, indexAddrA, indexA, builtinA, callOpA, callV, target, ptrV, lenS, binA, intOp, strOp, unA, num, lk, over, allocA, pickA, buildA, fillA, convertA, extractA, ofComp, nilCheckA, makeFuncA, ptrs, ofValue, cellB, Nat.reduceAdd, Nat.reduceSub, Nat.reduceMul, Nat.reduceLT, Nat.reduceLeDiff, Nat.reduceGT, ↓reduceIte, Nat.reduceEqDiff, Nat.reduceBEq, reduceCtorEq, Int.reduceBEq, Int.reduceBNe, Int.reduceLT, Int.reduceLE, Int.reduceGT, Int.reduceGE, aggT_52, sizeT_52, bytesT_52, und_52, elemT_52, isSliceT_52, zero1_52, zeroT_52, aggT_3, sizeT_3, bytesT_3, und_3, zero1_3, zeroT_3, Int.lt_irrefl]
      (refine Eq.trans ?_ rfl; kernel_rfl))
  rw [this]
  cases l.findIdx? fun a => a.toList == s.toList <;> rfl
theorem index186 (hx : ext 186 = none) (z : Bool) (l : List ByteArray) (s : ByteArray) (hs : l.length < 2 ^ 50) : run Tryz.prog ext (.call 186 [dV (listD z 1 (l.map stD)), sV s] []) = some (.ret [iV (ixOf (l.findIdx? fun a => s.toList == a.toList))] []) := by
  have he : ∀ out, H186a ext 0 [(0, dV (listD z 1 (l.map stD))), (1, sV s), (7, iV l.length), (8, iV 0)] [] = out → run Tryz.prog ext (.call 186 [dV (listD z 1 (l.map stD)), sV s] []) = out := by
    intro out h
    unfold H186a at h
    (rw [run_eq]; simp only [stepA, hx, Tryz.func186, Tryz.f186, show retF 186 = false from rfl]; simp only [List.length_cons, List.length_nil, Nat.reduceAdd, Nat.reduceLeDiff, Nat.zero_le, ↓reduceIte, List.zipIdx_cons, List.zipIdx_nil, List.map_cons, List.map_nil])
    simp only [dV, iV, sV] at h ⊢
    simp only [zS, nilEq, wantedA, opA, eff, boxA, cells, ev, gt, pt, putO, updO, setO, okC, loadA, cutC, fieldAddrA, fieldA, indexAddrA, indexA, builtinA, callOpA, callV, target, ptrV, lenS, binA, intOp, strOp, unA, num, lk, over, allocA, pickA, buildA, fillA, convertA, extractA, ofComp, nilCheckA, makeFuncA, ptrs, ofValue, cellB, Nat.reduceAdd, Nat.reduceSub, Nat.reduceMul, Nat.reduceLT, Nat.reduceLeDiff, Nat.reduceGT, ↓reduceIte, Nat.reduceEqDiff, Nat.reduceBEq, reduceCtorEq, Int.reduceBEq, Int.reduceBNe, Int.reduceLT, Int.reduceLE, Int.reduceGT, Int.reduceGE, aggT_52, sizeT_52, bytesT_52, und_52, elemT_52, isSliceT_52, zero1_52, zeroT_52, aggT_3, sizeT_3, bytesT_3, und_3, zero1_3, zeroT_3]
    (refine (r_inLoop_some ?_).trans h; kernel_rfl)
  refine he _ ?_
  have := loop_find l (fun k => H186a ext 0 [(0, dV (listD z 1 (l.map stD))), (1, sV s), (7, iV l.length), (8, iV k)] []) (fun a => s.toList == a.toList) (fun k => some (.ret [iV k] [])) (some (.ret [iV (-1)] [])) (by omega) (fun k a hk hl => by
      have h0 : (0 : Int) ≤ k := by omega
      have hd : listD z 1 (l.map stD) = .s 1 (l.map stD) := listD_of_lt h0 (by simpa using hl)
      unfold H186a
      refine ⟨fun hp => ?_, fun hp out h => ?_⟩
      · simp only [dV, iV, sV, hd]
        (rw [show (It.code L186a) = It.code (sub B186 [1, 0, 1, 0, 0]) from rfl]; simp only [B186, K186a, sub, Option.getD_some, Tryz.f186, ↓reduceIte, Nat.one_ne_zero])
        simp only [zS, nilEq, wantedA, opA, eff, boxA, cells, ev, gt, pt, putO, updO, setO, okC, loadA, cutC, fieldAddrA, fieldA, indexAddrA, indexA, builtinA, callOpA, callV, target, ptrV, lenS, binA, intOp, strOp, unA, num, lk, over, allocA, pickA, buildA, fillA, convertA, extractA, ofComp, nilCheckA, makeFuncA, ptrs, ofValue, cellB, Nat.reduceAdd, Nat.reduceSub, Nat.reduceMul, Nat.reduceLT, Nat.reduceLeDiff, Nat.reduceGT, ↓reduceIte, Nat.reduceEqDiff, Nat.reduceBEq, reduceCtorEq, Int.reduceBEq, Int.reduceBNe, Int.reduceLT, Int.reduceLE, Int.reduceGT, Int.reduceGE, aggT_52, sizeT_52, bytesT_52, und_52, elemT_52, isSliceT_52, zero1_52, zeroT_52, aggT_9, sizeT_9, bytesT_9, und_9, zero1_9, zeroT_9, aggT_3, sizeT_3, bytesT_3, und_3, zero1_3, zeroT_3, h0, hl, Int.toNat_natCast, hk, stD, hp]
        (refine Eq.trans ?_ rfl; kernel_rfl)
      · simp only [dV, iV, sV, hd] at h ⊢
        (rw [show (It.code L186a) = It.code (sub B186 [1, 0, 1, 0, 0]) from rfl]; simp only [B186, K186a, sub, Option.getD_some, Tryz.f186, ↓reduceIte, Nat.one_ne_zero])
        simp only [zS, nilEq, wantedA, opA, eff, boxA, cells, ev, gt, pt, putO, updO, setO, okC, loadA, cutC, fieldAddrA, fieldA, indexAddrA, indexA, builtinA, callOpA, callV, target, ptrV, lenS, binA, intOp, strOp, unA, num, lk, over, allocA, pickA, buildA, fillA, convertA, extractA, ofComp, nilCheckA, makeFuncA, ptrs, ofValue, cellB, Nat.reduceAdd, Nat.reduceSub, Nat.reduceMul, Nat.reduceLT, Nat.reduceLeDiff, Nat.reduceGT, ↓reduceIte, Nat.reduceEqDiff, Nat.reduceBEq, reduceCtorEq, Int.reduceBEq, Int.reduceBNe, Int.reduceLT, Int.reduceLE, Int.reduceGT, Int.reduceGE, aggT_52, sizeT_52, bytesT_52, und_52, elemT_52, isSliceT_52, zero1_52, zeroT_52, aggT_9, sizeT_9, bytesT_9, und_9, zero1_9, zeroT_9, aggT_3, sizeT_3, bytesT_3, und_3, zero1_3, zeroT_3, h0, hl, Int.toNat_natCast, hk, stD, hp]
        (refine (r_inLoop_some ?_).trans h; kernel_rfl)) (by
      unfold H186a
      simp only [dV, iV, sV]
      (rw [show (It.code L186a) = It.code (sub B186 [1, 0, 1, 0, 0]) from rfl]; simp only [B186, K186a, sub, Option.getD_some, Tryz.f186, ↓reduceIte, Nat.one_ne_zero])
      simp only [zS, nilEq, wantedA, opA, eff, boxA, cells, ev, gt, pt, putO, updO, setO, okC, loadA, cutC, fieldAddrA, fieldA, indexAddrA, indexA, builtinA, callOpA, callV, target, ptrV, lenS, binA, intOp, strOp, unA, num, lk, over, allocA, pickA, buildA, fillA, convertA, extractA, ofComp, nilCheckA, makeFuncA, ptrs, ofValue, cellB, Nat.reduceAdd, Nat.reduceSub, Nat.reduceMul, Nat.reduceLT, Nat.reduceLeDiff, Nat.reduceGT, ↓reduceIte, Nat.reduceEqDiff, Nat.reduceBEq, reduceCtorEq, Int.reduceBEq, Int.reduceBNe, Int.reduceLT, Int.reduceLE, Int.reduceGT, Int.reduceGE, aggT_52, sizeT_52, bytesT_52, und_52, elemT_52, isSliceT_52, zero1_52, zeroT_52, aggT_3, sizeT_3, bytesT_3, und_3, zero1_3, zeroT_3, Int.lt_irrefl]
      (refine Eq.trans ?_ rfl; kernel_rfl))
  rw [this]
  cases l.findIdx? fun a => s.toList == a.toList <;> rfl
theorem contains118 (hx : ext 118 = none) (h186 : ext 186 = none) (z : Bool) (l : List ByteArray) (s : ByteArray) (hs : l.length < 2 ^ 50) : run Tryz.prog ext (.call 118 [dV (listD z 1 (l.map stD)), sV s] []) = some (.ret [bV (l.any fun a => s.toList == a.toList)] []) := by
  have hr := index186 ext h186 z l s hs
  have e : (l.any fun a => s.toList == a.toList) = decide (0 ≤ ixOf (l.findIdx? fun a => s.toList == a.toList)) := by
    rw [← List.findIdx?_isSome]
    cases l.findIdx? fun a => s.toList == a.toList with
    | none => simp [ixOf]
    | some k => simp [ixOf]
  rw [e]
  generalize ixOf (l.findIdx? fun a => s.toList == a.toList) = n at hr
  (rw [run_eq]; simp only [stepA, hx, Tryz.func118, Tryz.f118, show retF 118 = false from rfl]; simp only [List.length_cons, List.length_nil, Nat.reduceAdd, Nat.reduceLeDiff, Nat.zero_le, ↓reduceIte, List.zipIdx_cons, List.zipIdx_nil, List.map_cons, List.map_nil])
  simp only [dV, iV, sV, bV] at hr ⊢
  simp only [zS, nilEq, wantedA, opA, eff, boxA, cells, ev, gt, pt, putO, updO, setO, okC, loadA, cutC, fieldAddrA, fieldA, indexAddrA, indexA, builtinA, callOpA, callV, target, ptrV, lenS, binA, intOp, strOp, unA, num, lk, over, allocA, pickA, buildA, fillA, convertA, extractA, ofComp, nilCheckA, makeFuncA, ptrs, ofValue, cellB, Nat.reduceAdd, Nat.reduceSub, Nat.reduceMul, Nat.reduceLT, Nat.reduceLeDiff, Nat.reduceGT, ↓reduceIte, Nat.reduceEqDiff, Nat.reduceBEq, reduceCtorEq, Int.reduceBEq, Int.reduceBNe, Int.reduceLT, Int.reduceLE, Int.reduceGT, Int.reduceGE, aggT_52, sizeT_52, bytesT_52, und_52, elemT_52, isSliceT_52, zero1_52, zeroT_52, aggT_9, sizeT_9, bytesT_9, und_9, zero1_9, zeroT_9, aggT_3, sizeT_3, bytesT_3, und_3, zero1_3, zeroT_3, hr, ge_iff_le]
  (refine Eq.trans ?_ rfl; kernel_rfl)
end Go.Proofs.YteenjodhmppgjaaGreatDoor.Am
end
section
/- Does a family occur in a term: by the program and by the reference. -/
namespace Go.Proofs.YteenjodhmppgjaaGreatDoor.Am
open Go
variable (ext : Ext)
set_option maxHeartbeats 8000000
set_option maxRecDepth 4000
noncomputable def B174 : Code := (Tryz.f174.body.getD .skip)
noncomputable def L174a : Code := sub B174 [1, 0, 1, 0, 0]
noncomputable def K174a : List It := [.inBlock 0, .code (sub B174 [1, 1])]
noncomputable def H174a (ext : Ext) (m : Nat) (env : Env) (loc : List O) : Option Out := run Tryz.prog ext (.k ⟨19, m, [.tmp 4], false⟩ (.code L174a :: .inLoop L174a :: K174a) env loc)
noncomputable def B74 : Code := (Tryz.f74.body.getD .skip)
noncomputable def L74a : Code := sub B74 [1, 1, 0, 1, 0, 0]
noncomputable def K74a : List It := [.inBlock 0, .code (sub B74 [1, 1, 1])]
noncomputable def H74a (ext : Ext) (m : Nat) (env : Env) (loc : List O) : Option Out := run Tryz.prog ext (.k ⟨39, m, [.tmp 4], false⟩ (.code L74a :: .inLoop L74a :: K74a) env loc)
def occ1 (s : ByteArray) (x : Tm) : Bool := (x.s.toList == s.toList) && (x.op == 26 || (x.op == 27 || x.op == 28))
def occ (s : ByteArray) : Tm → Bool
  | .mk op n t u zu l zl => occ1 s (.mk op n t u zu l zl) || occs l
where occs : List Tm → Bool
  | [] => false
  | x :: r => occ s x || occs r
theorem occs_eq (s : ByteArray) (l : List Tm) : occ.occs s l = l.any (occ s) := by induction l <;> simp_all [occ.occs]
theorem occ_eq (s : ByteArray) (x : Tm) : occ s x = (occ1 s x || x.l.any (occ s)) := by cases x; simp only [occ, occs_eq, Tm.l]
theorem any_ix {α : Type} (p : α → Bool) (l : List α) : l.any p = decide (0 ≤ ixOf (l.findIdx? p)) := by
  rw [← List.findIdx?_isSome]
  cases l.findIdx? p with
  | none => simp [ixOf]
  | some k => simp [ixOf]
theorem clo115 (hx : ext 115 = none) (x : Tm) (s : ByteArray) : run Tryz.prog ext (.call 115 [tmV x, .c (.ptr 0 0)] (O69 s)) = some (.ret [bV (occ1 s x)] (O69 s)) := by
  unfold occ1
  cases h1 : (x.s.toList == s.toList) with
  | false =>
    rw [Bool.false_and]
    (rw [run_eq]; simp only [stepA, hx, Tryz.func115, Tryz.f115, show retF 115 = false from rfl]; simp only [List.length_cons, List.length_nil, Nat.reduceAdd, Nat.reduceLeDiff, Nat.zero_le, ↓reduceIte, List.zipIdx_cons, List.zipIdx_nil, List.map_cons, List.map_nil])
    simp only [tmV, tmC, bV, O69]
    simp only [zS, nilEq, wantedA, opA, eff, boxA, cells, ev, gt, pt, putO, updO, setO, okC, loadA, cutC, fieldAddrA, fieldA, indexAddrA, indexA, builtinA, callOpA, callV, target, ptrV, lenS, binA, intOp, strOp, unA, num, lk, over, allocA, pickA, buildA, fillA, convertA, extractA, ofComp, nilCheckA, makeFuncA, ptrs, ofValue, cellB, Nat.reduceAdd, Nat.reduceSub, Nat.reduceMul, Nat.reduceLT, Nat.reduceLeDiff, Nat.reduceGT, ↓reduceIte, Nat.reduceEqDiff, Nat.reduceBEq, reduceCtorEq, Int.reduceBEq, Int.reduceBNe, Int.reduceLT, Int.reduceLE, Int.reduceGT, Int.reduceGE, aggT_33, sizeT_33, bytesT_33, fieldT_33_0, fieldT_33_1, fieldT_33_2, fieldT_33_3, fieldT_33_4, placesT_33, zeroT_33, aggT_9, sizeT_9, bytesT_9, und_9, zero1_9, zeroT_9, aggT_3, sizeT_3, bytesT_3, und_3, zero1_3, zeroT_3, h1]
    (refine Eq.trans ?_ rfl; kernel_rfl)
  | true =>
    rw [Bool.true_and]
    cases h2 : (x.op == 26) with
    | true =>
      (rw [run_eq]; simp only [stepA, hx, Tryz.func115, Tryz.f115, show retF 115 = false from rfl]; simp only [List.length_cons, List.length_nil, Nat.reduceAdd, Nat.reduceLeDiff, Nat.zero_le, ↓reduceIte, List.zipIdx_cons, List.zipIdx_nil, List.map_cons, List.map_nil])
      simp only [tmV, tmC, bV, O69]
      simp only [zS, nilEq, wantedA, opA, eff, boxA, cells, ev, gt, pt, putO, updO, setO, okC, loadA, cutC, fieldAddrA, fieldA, indexAddrA, indexA, builtinA, callOpA, callV, target, ptrV, lenS, binA, intOp, strOp, unA, num, lk, over, allocA, pickA, buildA, fillA, convertA, extractA, ofComp, nilCheckA, makeFuncA, ptrs, ofValue, cellB, Nat.reduceAdd, Nat.reduceSub, Nat.reduceMul, Nat.reduceLT, Nat.reduceLeDiff, Nat.reduceGT, ↓reduceIte, Nat.reduceEqDiff, Nat.reduceBEq, reduceCtorEq, Int.reduceBEq, Int.reduceBNe, Int.reduceLT, Int.reduceLE, Int.reduceGT, Int.reduceGE, aggT_33, sizeT_33, bytesT_33, fieldT_33_0, fieldT_33_1, fieldT_33_2, fieldT_33_3, fieldT_33_4, placesT_33, zeroT_33, aggT_9, sizeT_9, bytesT_9, und_9, zero1_9, zeroT_9, aggT_3, sizeT_3, bytesT_3, und_3, zero1_3, zeroT_3, h1, h2]
      (refine Eq.trans ?_ rfl; kernel_rfl)
    | false =>
      cases h3 : (x.op == 27) with
      | true =>
        (rw [run_eq]; simp only [stepA, hx, Tryz.func115, Tryz.f115, show retF 115 = false from rfl]; simp only [List.length_cons, List.length_nil, Nat.reduceAdd, Nat.reduceLeDiff, Nat.zero_le, ↓reduceIte, List.zipIdx_cons, List.zipIdx_nil, List.map_cons, List.map_nil])
        simp only [tmV, tmC, bV, O69]
        simp only [zS, nilEq, wantedA, opA, eff, boxA, cells, ev, gt, pt, putO, updO, setO, okC, loadA, cutC, fieldAddrA, fieldA, indexAddrA, indexA, builtinA, callOpA, callV, target, ptrV, lenS, binA, intOp, strOp, unA, num, lk, over, allocA, pickA, buildA, fillA, convertA, extractA, ofComp, nilCheckA, makeFuncA, ptrs, ofValue, cellB, Nat.reduceAdd, Nat.reduceSub, Nat.reduceMul, Nat.reduceLT, Nat.reduceLeDiff, Nat.reduceGT, ↓reduceIte, Nat.reduceEqDiff, Nat.reduceBEq, reduceCtorEq, Int.reduceBEq, Int.reduceBNe, Int.reduceLT, Int.reduceLE, Int.reduceGT, Int.reduceGE, aggT_33, sizeT_33, bytesT_33, fieldT_33_0, fieldT_33_1, fieldT_33_2, fieldT_33_3, fieldT_33_4, placesT_33, zeroT_33, aggT_9, sizeT_9, bytesT_9, und_9, zero1_9, zeroT_9, aggT_3, sizeT_3, bytesT_3, und_3, zero1_3, zeroT_3, h1, h2, h3]
        (refine Eq.trans ?_ rfl; kernel_rfl)
      | false =>
        cases h4 : (x.op == 28)
        all_goals
          (rw [run_eq]; simp only [stepA, hx, Tryz.func115, Tryz.f115, show retF 115 = false from rfl]; simp only [List.length_cons, List.length_nil, Nat.reduceAdd, Nat.reduceLeDiff, Nat.zero_le, ↓reduceIte, List.zipIdx_cons, List.zipIdx_nil, List.map_cons, List.map_nil])
          simp only [tmV, tmC, bV, O69]
          simp only [zS, nilEq, wantedA, opA, eff, boxA, cells, ev, gt, pt, putO, updO, setO, okC, loadA, cutC, fieldAddrA, fieldA, indexAddrA, indexA, builtinA, callOpA, callV, target, ptrV, lenS, binA, intOp, strOp, unA, num, lk, over, allocA, pickA, buildA, fillA, convertA, extractA, ofComp, nilCheckA, makeFuncA, ptrs, ofValue, cellB, Nat.reduceAdd, Nat.reduceSub, Nat.reduceMul, Nat.reduceLT, Nat.reduceLeDiff, Nat.reduceGT, ↓reduceIte, Nat.reduceEqDiff, Nat.reduceBEq, reduceCtorEq, Int.reduceBEq, Int.reduceBNe, Int.reduceLT, Int.reduceLE, Int.reduceGT, Int.reduceGE, aggT_33, sizeT_33, bytesT_33, fieldT_33_0, fieldT_33_1, fieldT_33_2, fieldT_33_3, fieldT_33_4, placesT_33, zeroT_33, aggT_9, sizeT_9, bytesT_9, und_9, zero1_9, zeroT_9, aggT_3, sizeT_3, bytesT_3, und_3, zero1_3, zeroT_3, h1, h2, h3, h4]
          (refine Eq.trans ?_ rfl; kernel_rfl)
def O185 (s : ByteArray) : List O := [.box [.fn 115 [] [1]], .box [.d (.v (.string s))]]
theorem clo185 (hx : ext 185 = none) (x : Tm) (s : ByteArray) (b : Bool) (hr : run Tryz.prog ext (.call 114 [tmV x, .c (.fn 115 [] [0])] (O69 s)) = some (.ret [bV b] (O69 s))) :
    run Tryz.prog ext (.call 185 [tmV x, .c (.ptr 0 0)] (O185 s)) = some (.ret [bV b] (O185 s)) := by
  have e := callA_of (rec := run Tryz.prog ext) (look := lk [.box [.fn 115 [] [1]], .box [.d (.v (.string s))], .box (tmC x)]) (slot := 3) (f := 114) (args := [tmV x, .c (.fn 115 [] [1])]) (ids := [1]) (bor := []) (e := ⟨.val (bV b), [(1, .box [.d (.v (.string s))])], [1]⟩) (by kernel_rfl) hr (by kernel_rfl)
  (rw [run_eq]; simp only [stepA, hx, Tryz.func185, Tryz.f185, show retF 185 = false from rfl]; simp only [List.length_cons, List.length_nil, Nat.reduceAdd, Nat.reduceLeDiff, Nat.zero_le, ↓reduceIte, List.zipIdx_cons, List.zipIdx_nil, List.map_cons, List.map_nil])
  simp only [tmV, tmC, bV, O185] at e ⊢
  simp only [zS, nilEq, wantedA, opA, eff, boxA, cells, ev, gt, pt, putO, updO, setO, okC, loadA, cutC, fieldAddrA, fieldA, indexAddrA, indexA, builtinA, callOpA, callV, target, ptrV, lenS, binA, intOp, strOp, unA, num, lk, over, allocA, pickA, buildA, fillA, convertA, extractA, ofComp, nilCheckA, makeFuncA, ptrs, ofValue, cellB, Nat.reduceAdd, Nat.reduceSub, Nat.reduceMul, Nat.reduceLT, Nat.reduceLeDiff, Nat.reduceGT, ↓reduceIte, Nat.reduceEqDiff, Nat.reduceBEq, reduceCtorEq, Int.reduceBEq, Int.reduceBNe, Int.reduceLT, Int.reduceLE, Int.reduceGT, Int.reduceGE, aggT_33, sizeT_33, bytesT_33, fieldT_33_0, fieldT_33_1, fieldT_33_2, fieldT_33_3, fieldT_33_4, placesT_33, zeroT_33, aggT_89, sizeT_89, bytesT_89, zero1_89, zeroT_89, aggT_9, sizeT_9, bytesT_9, und_9, zero1_9, zeroT_9, e]
  (refine Eq.trans ?_ rfl; kernel_rfl)
def E174 (x : Tm) (k : Int) : Env := [(0, dV x.lD), (1, .c (.fn 185 [] [0])), (7, iV x.l.length), (8, iV k)]
theorem idx174 (hx : ext 174 = none) (x : Tm) (s : ByteArray) (hs : x.l.length < 2 ^ 50) (hr : ∀ y ∈ x.l, run Tryz.prog ext (.call 185 [tmV y, .c (.ptr 0 0)] (O185 s)) = some (.ret [bV (occ s y)] (O185 s))) :
    run Tryz.prog ext (.call 174 [dV x.lD, .c (.fn 185 [] [0])] (O185 s)) = some (.ret [iV (ixOf (x.l.findIdx? (occ s)))] (O185 s)) := by
  have he : ∀ out, H174a ext 2 (E174 x 0) (O185 s) = out → run Tryz.prog ext (.call 174 [dV x.lD, .c (.fn 185 [] [0])] (O185 s)) = out := by
    intro out h
    unfold H174a at h
    (rw [run_eq]; simp only [stepA, hx, Tryz.func174, Tryz.f174, show retF 174 = false from rfl]; simp only [List.length_cons, List.length_nil, Nat.reduceAdd, Nat.reduceLeDiff, Nat.zero_le, ↓reduceIte, List.zipIdx_cons, List.zipIdx_nil, List.map_cons, List.map_nil])
    simp only [dV, iV, E174, O185] at h ⊢
    simp only [zS, nilEq, wantedA, opA, eff, boxA, cells, ev, gt, pt, putO, updO, setO, okC, loadA, cutC, fieldAddrA, fieldA, indexAddrA, indexA, builtinA, callOpA, callV, target, ptrV, lenS, binA, intOp, strOp, unA, num, lk, over, allocA, pickA, buildA, fillA, convertA, extractA, ofComp, nilCheckA, makeFuncA, ptrs, ofValue, cellB, Nat.reduceAdd, Nat.reduceSub, Nat.reduceMul, Nat.reduceLT, Nat.reduceLeDiff, Nat.reduceGT, ↓reduceIte, Nat.reduceEqDiff, Nat.reduceBEq, reduceCtorEq, Int.reduceBEq, Int.reduceBNe, Int.reduceLT, Int.reduceLE, Int.reduceGT, Int.reduceGE, aggT_31, sizeT_31, bytesT_31, und_31, elemT_31, isSliceT_31, zero1_31, zeroT_31, aggT_3, sizeT_3, bytesT_3, und_3, zero1_3, zeroT_3, lenA_lD]
    (refine (r_inLoop_some ?_).trans h; kernel_rfl)
  refine he _ ?_
  have := loop_find x.l (fun k => H174a ext 2 (E174 x k) (O185 s)) (occ s) (fun k => some (.ret [iV k] (O185 s))) (some (.ret [iV (-1)] (O185 s))) (by omega) (fun k y hk hl => by
      have h0 : (0 : Int) ≤ k := by omega
      have hy := hr y (List.mem_of_getElem? hk)
      have e := callA_of (rec := run Tryz.prog ext) (look := lk (O185 s)) (slot := 2) (f := 185) (args := [tmV y, .c (.ptr 0 0)]) (ids := [0, 1]) (bor := []) (e := ⟨.val (bV (occ s y)), [(0, .box [.fn 115 [] [1]]), (1, .box [.d (.v (.string s))])], [0, 1]⟩) (by kernel_rfl) hy (by kernel_rfl)
      unfold H174a
      refine ⟨fun hp => ?_, fun hp out h => ?_⟩
      · rw [hp] at e
        simp only [dV, iV, bV, tmV, tmC, E174, O185, lD_lt hl] at e ⊢
        (rw [show (It.code L174a) = It.code (sub B174 [1, 0, 1, 0, 0]) from rfl]; simp only [B174, K174a, sub, Option.getD_some, Tryz.f174, ↓reduceIte, Nat.one_ne_zero])
        simp only [zS, nilEq, wantedA, opA, eff, boxA, cells, ev, gt, pt, putO, updO, setO, okC, loadA, cutC, fieldAddrA, fieldA, indexAddrA, indexA, builtinA, callOpA, callV, target, ptrV, lenS, binA, intOp, strOp, unA, num, lk, over, allocA, pickA, buildA, fillA, convertA, extractA, ofComp, nilCheckA, makeFuncA, ptrs, ofValue, cellB, Nat.reduceAdd, Nat.reduceSub, Nat.reduceMul, Nat.reduceLT, Nat.reduceLeDiff, Nat.reduceGT, ↓reduceIte, Nat.reduceEqDiff, Nat.reduceBEq, reduceCtorEq, Int.reduceBEq, Int.reduceBNe, Int.reduceLT, Int.reduceLE, Int.reduceGT, Int.reduceGE, aggT_33, sizeT_33, bytesT_33, fieldT_33_0, fieldT_33_1, fieldT_33_2, fieldT_33_3, fieldT_33_4, placesT_33, zeroT_33, aggT_31, sizeT_31, bytesT_31, und_31, elemT_31, isSliceT_31, zero1_31, zeroT_31, aggT_3, sizeT_3, bytesT_3, und_3, zero1_3, zeroT_3, h0, hl, Int.toNat_natCast, hk, tmD_eq y, e]
        (refine Eq.trans ?_ rfl; kernel_rfl)
      · rw [hp] at e
        simp only [dV, iV, bV, tmV, tmC, E174, O185, lD_lt hl] at e h ⊢
        (rw [show (It.code L174a) = It.code (sub B174 [1, 0, 1, 0, 0]) from rfl]; simp only [B174, K174a, sub, Option.getD_some, Tryz.f174, ↓reduceIte, Nat.one_ne_zero])
        simp only [zS, nilEq, wantedA, opA, eff, boxA, cells, ev, gt, pt, putO, updO, setO, okC, loadA, cutC, fieldAddrA, fieldA, indexAddrA, indexA, builtinA, callOpA, callV, target, ptrV, lenS, binA, intOp, strOp, unA, num, lk, over, allocA, pickA, buildA, fillA, convertA, extractA, ofComp, nilCheckA, makeFuncA, ptrs, ofValue, cellB, Nat.reduceAdd, Nat.reduceSub, Nat.reduceMul, Nat.reduceLT, Nat.reduceLeDiff, Nat.reduceGT, ↓reduceIte, Nat.reduceEqDiff, Nat.reduceBEq, reduceCtorEq, Int.reduceBEq, Int.reduceBNe, Int.reduceLT, Int.reduceLE, Int.reduceGT, Int.reduceGE, aggT_33, sizeT_33, bytesT_33, fieldT_33_0, fieldT_33_1, fieldT_33_2, fieldT_33_3, fieldT_33_4, placesT_33, zeroT_33, aggT_31, sizeT_31, bytesT_31, und_31, elemT_31, isSliceT_31, zero1_31, zeroT_31, aggT_3, sizeT_3, bytesT_3, und_3, zero1_3, zeroT_3, h0, hl, Int.toNat_natCast, hk, tmD_eq y, e]
        (refine (r_inLoop_some ?_).trans h; kernel_rfl)) (by
      unfold H174a
      simp only [dV, iV, E174, O185]
      (rw [show (It.code L174a) = It.code (sub B174 [1, 0, 1, 0, 0]) from rfl]; simp only [B174, K174a, sub, Option.getD_some, Tryz.f174, ↓reduceIte, Nat.one_ne_zero])
      simp only [zS, nilEq, wantedA, opA, eff, boxA, cells, ev, gt, pt, putO, updO, setO, okC, loadA, cutC, fieldAddrA, fieldA, indexAddrA, indexA, builtinA, callOpA, callV, target, ptrV, lenS, binA, intOp, strOp, unA, num, lk, over, allocA, pickA, buildA, fillA, convertA, extractA, ofComp, nilCheckA, makeFuncA, ptrs, ofValue, cellB, Nat.reduceAdd, Nat.reduceSub, Nat.reduceMul, Nat.reduceLT, Nat.reduceLeDiff, Nat.reduceGT, ↓reduceIte, Nat.reduceEqDiff, Nat.reduceBEq, reduceCtorEq, Int.reduceBEq, Int.reduceBNe, Int.reduceLT, Int.reduceLE, Int.reduceGT, Int.reduceGE, aggT_31, sizeT_31, bytesT_31, und_31, elemT_31, isSliceT_31, zero1_31, zeroT_31, aggT_3, sizeT_3, bytesT_3, und_3, zero1_3, zeroT_3, Int.lt_irrefl]
      (refine Eq.trans ?_ rfl; kernel_rfl))
  rw [this]
  cases x.l.findIdx? (occ s) <;> rfl
theorem any107 (hx : ext 107 = none) (x : Tm) (s : ByteArray) (n : Int) (hr : run Tryz.prog ext (.call 174 [dV x.lD, .c (.fn 185 [] [0])] (O185 s)) = some (.ret [iV n] (O185 s))) :
    run Tryz.prog ext (.call 107 [dV x.lD, .c (.fn 185 [] [0])] (O185 s)) = some (.ret [bV (decide (0 ≤ n))] (O185 s)) := by
  have e := callA_of (rec := run Tryz.prog ext) (look := lk (O185 s)) (slot := 2) (f := 174) (args := [dV x.lD, .c (.fn 185 [] [0])]) (ids := [0, 1]) (bor := []) (e := ⟨.val (iV n), [(0, .box [.fn 115 [] [1]]), (1, .box [.d (.v (.string s))])], [0, 1]⟩) (by kernel_rfl) hr (by kernel_rfl)
  (rw [run_eq]; simp only [stepA, hx, Tryz.func107, Tryz.f107, show retF 107 = false from rfl]; simp only [List.length_cons, List.length_nil, Nat.reduceAdd, Nat.reduceLeDiff, Nat.zero_le, ↓reduceIte, List.zipIdx_cons, List.zipIdx_nil, List.map_cons, List.map_nil])
  simp only [dV, iV, bV, O185] at e ⊢
  simp only [zS, nilEq, wantedA, opA, eff, boxA, cells, ev, gt, pt, putO, updO, setO, okC, loadA, cutC, fieldAddrA, fieldA, indexAddrA, indexA, builtinA, callOpA, callV, target, ptrV, lenS, binA, intOp, strOp, unA, num, lk, over, allocA, pickA, buildA, fillA, convertA, extractA, ofComp, nilCheckA, makeFuncA, ptrs, ofValue, cellB, Nat.reduceAdd, Nat.reduceSub, Nat.reduceMul, Nat.reduceLT, Nat.reduceLeDiff, Nat.reduceGT, ↓reduceIte, Nat.reduceEqDiff, Nat.reduceBEq, reduceCtorEq, Int.reduceBEq, Int.reduceBNe, Int.reduceLT, Int.reduceLE, Int.reduceGT, Int.reduceGE, aggT_31, sizeT_31, bytesT_31, und_31, elemT_31, isSliceT_31, zero1_31, zeroT_31, aggT_3, sizeT_3, bytesT_3, und_3, zero1_3, zeroT_3, e, ge_iff_le]
  (refine Eq.trans ?_ rfl; kernel_rfl)
theorem has114 (hx : ext 114 = none) (h115 : ext 115 = none) (h107 : ext 107 = none) (h174 : ext 174 = none) (h185 : ext 185 = none) (s : ByteArray) : ∀ (N : Nat) (x : Tm), x.sz ≤ N → N < 2 ^ 50 →
    run Tryz.prog ext (.call 114 [tmV x, .c (.fn 115 [] [0])] (O69 s)) = some (.ret [bV (occ s x)] (O69 s))
  | 0, x, h, _ => by have := x.sz_pos; omega
  | N + 1, x, h, hN => by
    have hll := x.len_lt
    have h1 := clo115 ext h115 x s
    have e1 := callA_of (rec := run Tryz.prog ext) (look := lk [.box [.d (.v (.string s))], .box (tmC x), .box [.fn 115 [] [0]]]) (slot := 3) (f := 115) (args := [tmV x, .c (.ptr 0 0)]) (ids := [0]) (bor := []) (e := ⟨.val (bV (occ1 s x)), [(0, .box [.d (.v (.string s))])], [0]⟩) (by kernel_rfl) h1 (by kernel_rfl)
    have h2 := any107 ext h107 x s _ (idx174 ext h174 x s (by omega) (fun y hy => clo185 ext h185 y s _ (has114 hx h115 h107 h174 h185 s N y (by have := Tm.sz_lt hy; omega) (by omega))))
    rw [← any_ix] at h2
    have e2 := callA_of (rec := run Tryz.prog ext) (look := lk [.box [.d (.v (.string s))], .box (tmC x), .box [.fn 115 [] [0]]]) (slot := 3) (f := 107) (args := [dV x.lD, .c (.fn 185 [] [2])]) (ids := [2, 0]) (bor := []) (e := ⟨.val (bV (x.l.any (occ s))), [(2, .box [.fn 115 [] [0]]), (0, .box [.d (.v (.string s))])], [2, 0]⟩) (by kernel_rfl) h2 (by kernel_rfl)
    rw [occ_eq]
    cases c : occ1 s x with
    | true =>
      rw [c] at e1
      (rw [run_eq]; simp only [stepA, hx, Tryz.func114, Tryz.f114, show retF 114 = false from rfl]; simp only [List.length_cons, List.length_nil, Nat.reduceAdd, Nat.reduceLeDiff, Nat.zero_le, ↓reduceIte, List.zipIdx_cons, List.zipIdx_nil, List.map_cons, List.map_nil])
      simp only [tmV, tmC, dV, bV, O69] at e1 ⊢
      simp only [zS, nilEq, wantedA, opA, eff, boxA, cells, ev, gt, pt, putO, updO, setO, okC, loadA, cutC, fieldAddrA, fieldA, indexAddrA, indexA, builtinA, callOpA, callV, target, ptrV, lenS, binA, intOp, strOp, unA, num, lk, over, allocA, pickA, buildA, fillA, convertA, extractA, ofComp, nilCheckA, makeFuncA, ptrs, ofValue, cellB, Nat.reduceAdd, Nat.reduceSub, Nat.reduceMul, Nat.reduceLT, Nat.reduceLeDiff, Nat.reduceGT, ↓reduceIte, Nat.reduceEqDiff, Nat.reduceBEq, reduceCtorEq, Int.reduceBEq, Int.reduceBNe, Int.reduceLT, Int.reduceLE, Int.reduceGT, Int.reduceGE, aggT_33, sizeT_33, bytesT_33, fieldT_33_0, fieldT_33_1, fieldT_33_2, fieldT_33_3, fieldT_33_4, placesT_33, zeroT_33, aggT_31, sizeT_31, bytesT_31, und_31, elemT_31, isSliceT_31, zero1_31, zeroT_31, aggT_89, sizeT_89, bytesT_89, zero1_89, zeroT_89, aggT_3, sizeT_3, bytesT_3, und_3, zero1_3, zeroT_3, e1]
      (refine Eq.trans ?_ rfl; kernel_rfl)
    | false =>
      rw [c] at e1
      (rw [run_eq]; simp only [stepA, hx, Tryz.func114, Tryz.f114, show retF 114 = false from rfl]; simp only [List.length_cons, List.length_nil, Nat.reduceAdd, Nat.reduceLeDiff, Nat.zero_le, ↓reduceIte, List.zipIdx_cons, List.zipIdx_nil, List.map_cons, List.map_nil])
      simp only [tmV, tmC, dV, bV, O69] at e1 e2 ⊢
      simp only [zS, nilEq, wantedA, opA, eff, boxA, cells, ev, gt, pt, putO, updO, setO, okC, loadA, cutC, fieldAddrA, fieldA, indexAddrA, indexA, builtinA, callOpA, callV, target, ptrV, lenS, binA, intOp, strOp, unA, num, lk, over, allocA, pickA, buildA, fillA, convertA, extractA, ofComp, nilCheckA, makeFuncA, ptrs, ofValue, cellB, Nat.reduceAdd, Nat.reduceSub, Nat.reduceMul, Nat.reduceLT, Nat.reduceLeDiff, Nat.reduceGT, ↓reduceIte, Nat.reduceEqDiff, Nat.reduceBEq, reduceCtorEq, Int.reduceBEq, Int.reduceBNe, Int.reduceLT, Int.reduceLE, Int.reduceGT, Int.reduceGE, aggT_33, sizeT_33, bytesT_33, fieldT_33_0, fieldT_33_1, fieldT_33_2, fieldT_33_3, fieldT_33_4, placesT_33, zeroT_33, aggT_31, sizeT_31, bytesT_31, und_31, elemT_31, isSliceT_31, zero1_31, zeroT_31, aggT_89, sizeT_89, bytesT_89, zero1_89, zeroT_89, aggT_3, sizeT_3, bytesT_3, und_3, zero1_3, zeroT_3, e1, e2]
      (refine Eq.trans ?_ rfl; kernel_rfl)
theorem occurs72 (h72 : ext 72 = none) (hx : ext 114 = none) (h115 : ext 115 = none) (h107 : ext 107 = none) (h174 : ext 174 = none) (h185 : ext 185 = none) (s : ByteArray) (x : Tm) (hs : x.sz < 2 ^ 50) :
    run Tryz.prog ext (.call 72 [sV s, tmV x] []) = some (.ret [bV (occ s x)] []) := by
  have hr := has114 ext hx h115 h107 h174 h185 s x.sz x (Nat.le_refl _) hs
  have e := callA_of (rec := run Tryz.prog ext) (look := lk [.box [.d (.v (.string s))], .box (tmC x)]) (slot := 2) (f := 114) (args := [tmV x, .c (.fn 115 [] [0])]) (ids := [0]) (bor := []) (e := ⟨.val (bV (occ s x)), [(0, .box [.d (.v (.string s))])], [0]⟩) (by kernel_rfl) hr (by kernel_rfl)
  have hx := h72
  (rw [run_eq]; simp only [stepA, hx, Tryz.func72, Tryz.f72, show retF 72 = false from rfl]; simp only [List.length_cons, List.length_nil, Nat.reduceAdd, Nat.reduceLeDiff, Nat.zero_le, ↓reduceIte, List.zipIdx_cons, List.zipIdx_nil, List.map_cons, List.map_nil])
  simp only [tmV, tmC, sV, bV] at e ⊢
  simp only [zS, nilEq, wantedA, opA, eff, boxA, cells, ev, gt, pt, putO, updO, setO, okC, loadA, cutC, fieldAddrA, fieldA, indexAddrA, indexA, builtinA, callOpA, callV, target, ptrV, lenS, binA, intOp, strOp, unA, num, lk, over, allocA, pickA, buildA, fillA, convertA, extractA, ofComp, nilCheckA, makeFuncA, ptrs, ofValue, cellB, Nat.reduceAdd, Nat.reduceSub, Nat.reduceMul, Nat.reduceLT, Nat.reduceLeDiff, Nat.reduceGT, ↓reduceIte, Nat.reduceEqDiff, Nat.reduceBEq, reduceCtorEq, Int.reduceBEq, Int.reduceBNe, Int.reduceLT, Int.reduceLE, Int.reduceGT, Int.reduceGE, aggT_33, sizeT_33, bytesT_33, fieldT_33_0, fieldT_33_1, fieldT_33_2, fieldT_33_3, fieldT_33_4, placesT_33, zeroT_33, aggT_9, sizeT_9, bytesT_9, und_9, zero1_9, zeroT_9, e]
  (refine Eq.trans ?_ rfl; kernel_rfl)
/-! ### by the reference -/
def E74 (s : ByteArray) (k : Int) : Env := [(0, sV s), (3, .c (.ptr 0 0)), (5, iV k)]
theorem occurs74 (hx : ext 74 = none) (s : ByteArray) : ∀ (N : Nat) (x : Tm), x.sz ≤ N → N < 2 ^ 50 → run Tryz.prog ext (.call 74 [sV s, tmV x] []) = some (.ret [bV (occ s x)] [])
  | 0, x, h, _ => by have := x.sz_pos; omega
  | N + 1, x, h, hN => by
    have hll := x.len_lt
    rw [occ_eq]
    have he : occ1 s x = false → ∀ out, H74a ext 0 (E74 s 0) [.box (tmC x)] = out → run Tryz.prog ext (.call 74 [sV s, tmV x] []) = out := by
      intro hc out h
      unfold H74a at h
      unfold occ1 at hc
      cases h1 : (x.s.toList == s.toList) with
      | false =>
        (rw [run_eq]; simp only [stepA, hx, Tryz.func74, Tryz.f74, show retF 74 = false from rfl]; simp only [List.length_cons, List.length_nil, Nat.reduceAdd, Nat.reduceLeDiff, Nat.zero_le, ↓reduceIte, List.zipIdx_cons, List.zipIdx_nil, List.map_cons, List.map_nil])
        simp only [tmV, tmC, sV, iV, E74] at h ⊢
        simp only [zS, nilEq, wantedA, opA, eff, boxA, cells, ev, gt, pt, putO, updO, setO, okC, loadA, cutC, fieldAddrA, fieldA, indexAddrA, indexA, builtinA, callOpA, callV, target, ptrV, lenS, binA, intOp, strOp, unA, num, lk, over, allocA, pickA, buildA, fillA, convertA, extractA, ofComp, nilCheckA, makeFuncA, ptrs, ofValue, cellB, Nat.reduceAdd, Nat.reduceSub, Nat.reduceMul, Nat.reduceLT, Nat.reduceLeDiff, Nat.reduceGT, ↓reduceIte, Nat.reduceEqDiff, Nat.reduceBEq, reduceCtorEq, Int.reduceBEq, Int.reduceBNe, Int.reduceLT, Int.reduceLE, Int.reduceGT, Int.reduceGE, aggT_33, sizeT_33, bytesT_33, fieldT_33_0, fieldT_33_1, fieldT_33_2, fieldT_33_3, fieldT_33_4, placesT_33, zeroT_33, aggT_9, sizeT_9, bytesT_9, und_9, zero1_9, zeroT_9, aggT_3, sizeT_3, bytesT_3, und_3, zero1_3, zeroT_3, h1]
        (refine (r_inLoop_some ?_).trans h; kernel_rfl)
      | true =>
        simp only [h1, Bool.true_and, Bool.or_eq_false_iff] at hc
        (rw [run_eq]; simp only [stepA, hx, Tryz.func74, Tryz.f74, show retF 74 = false from rfl]; simp only [List.length_cons, List.length_nil, Nat.reduceAdd, Nat.reduceLeDiff, Nat.zero_le, ↓reduceIte, List.zipIdx_cons, List.zipIdx_nil, List.map_cons, List.map_nil])
        simp only [tmV, tmC, sV, iV, E74] at h ⊢
        simp only [zS, nilEq, wantedA, opA, eff, boxA, cells, ev, gt, pt, putO, updO, setO, okC, loadA, cutC, fieldAddrA, fieldA, indexAddrA, indexA, builtinA, callOpA, callV, target, ptrV, lenS, binA, intOp, strOp, unA, num, lk, over, allocA, pickA, buildA, fillA, convertA, extractA, ofComp, nilCheckA, makeFuncA, ptrs, ofValue, cellB, Nat.reduceAdd, Nat.reduceSub, Nat.reduceMul, Nat.reduceLT, Nat.reduceLeDiff, Nat.reduceGT, ↓reduceIte, Nat.reduceEqDiff, Nat.reduceBEq, reduceCtorEq, Int.reduceBEq, Int.reduceBNe, Int.reduceLT, Int.reduceLE, Int.reduceGT, Int.reduceGE, aggT_33, sizeT_33, bytesT_33, fieldT_33_0, fieldT_33_1, fieldT_33_2, fieldT_33_3, fieldT_33_4, placesT_33, zeroT_33, aggT_9, sizeT_9, bytesT_9, und_9, zero1_9, zeroT_9, aggT_3, sizeT_3, bytesT_3, und_3, zero1_3, zeroT_3, h1, hc.1, hc.2.1, hc.2.2]
        (refine (r_inLoop_some ?_).trans h; kernel_rfl)
    cases c : occ1 s x with
    | true =>
      rw [Bool.true_or]
      unfold occ1 at c
      simp only [Bool.and_eq_true, Bool.or_eq_true] at c
      cases h2 : (x.op == 26) with
      | true =>
        (rw [run_eq]; simp only [stepA, hx, Tryz.func74, Tryz.f74, show retF 74 = false from rfl]; simp only [List.length_cons, List.length_nil, Nat.reduceAdd, Nat.reduceLeDiff, Nat.zero_le, ↓reduceIte, List.zipIdx_cons, List.zipIdx_nil, List.map_cons, List.map_nil])
        simp only [tmV, tmC, sV, iV, bV]
        simp only [zS, nilEq, wantedA, opA, eff, boxA, cells, ev, gt, pt, putO, updO, setO, okC, loadA, cutC, fieldAddrA, fieldA, indexAddrA, indexA, builtinA, callOpA, callV, target, ptrV, lenS, binA, intOp, strOp, unA, num, lk, over, allocA, pickA, buildA, fillA, convertA, extractA, ofComp, nilCheckA, makeFuncA, ptrs, ofValue, cellB, Nat.reduceAdd, Nat.reduceSub, Nat.reduceMul, Nat.reduceLT, Nat.reduceLeDiff, Nat.reduceGT, ↓reduceIte, Nat.reduceEqDiff, Nat.reduceBEq, reduceCtorEq, Int.reduceBEq, Int.reduceBNe, Int.reduceLT, Int.reduceLE, Int.reduceGT, Int.reduceGE, aggT_33, sizeT_33, bytesT_33, fieldT_33_0, fieldT_33_1, fieldT_33_2, fieldT_33_3, fieldT_33_4, placesT_33, zeroT_33, aggT_9, sizeT_9, bytesT_9, und_9, zero1_9, zeroT_9, aggT_3, sizeT_3, bytesT_3, und_3, zero1_3, zeroT_3, c.1, h2]
        (refine Eq.trans ?_ rfl; kernel_rfl)
      | false =>
        cases h3 : (x.op == 27) with
        | true =>
          (rw [run_eq]; simp only [stepA, hx, Tryz.func74, Tryz.f74, show retF 74 = false from rfl]; simp only [List.length_cons, List.length_nil, Nat.reduceAdd, Nat.reduceLeDiff, Nat.zero_le, ↓reduceIte, List.zipIdx_cons, List.zipIdx_nil, List.map_cons, List.map_nil])
          simp only [tmV, tmC, sV, iV, bV]
          simp only [zS, nilEq, wantedA, opA, eff, boxA, cells, ev, gt, pt, putO, updO, setO, okC, loadA, cutC, fieldAddrA, fieldA, indexAddrA, indexA, builtinA, callOpA, callV, target, ptrV, lenS, binA, intOp, strOp, unA, num, lk, over, allocA, pickA, buildA, fillA, convertA, extractA, ofComp, nilCheckA, makeFuncA, ptrs, ofValue, cellB, Nat.reduceAdd, Nat.reduceSub, Nat.reduceMul, Nat.reduceLT, Nat.reduceLeDiff, Nat.reduceGT, ↓reduceIte, Nat.reduceEqDiff, Nat.reduceBEq, reduceCtorEq, Int.reduceBEq, Int.reduceBNe, Int.reduceLT, Int.reduceLE, Int.reduceGT, Int.reduceGE, aggT_33, sizeT_33, bytesT_33, fieldT_33_0, fieldT_33_1, fieldT_33_2, fieldT_33_3, fieldT_33_4, placesT_33, zeroT_33, aggT_9, sizeT_9, bytesT_9, und_9, zero1_9, zeroT_9, aggT_3, sizeT_3, bytesT_3, und_3, zero1_3, zeroT_3, c.1, h2, h3]
          (refine Eq.trans ?_ rfl; kernel_rfl)
        | false =>
          have h4 : (x.op == 28) = true := by simpa [h2, h3] using c.2
          (rw [run_eq]; simp only [stepA, hx, Tryz.func74, Tryz.f74, show retF 74 = false from rfl]; simp only [List.length_cons, List.length_nil, Nat.reduceAdd, Nat.reduceLeDiff, Nat.zero_le, ↓reduceIte, List.zipIdx_cons, List.zipIdx_nil, List.map_cons, List.map_nil])
          simp only [tmV, tmC, sV, iV, bV]
          simp only [zS, nilEq, wantedA, opA, eff, boxA, cells, ev, gt, pt, putO, updO, setO, okC, loadA, cutC, fieldAddrA, fieldA, indexAddrA, indexA, builtinA, callOpA, callV, target, ptrV, lenS, binA, intOp, strOp, unA, num, lk, over, allocA, pickA, buildA, fillA, convertA, extractA, ofComp, nilCheckA, makeFuncA, ptrs, ofValue, cellB, Nat.reduceAdd, Nat.reduceSub, Nat.reduceMul, Nat.reduceLT, Nat.reduceLeDiff, Nat.reduceGT, ↓reduceIte, Nat.reduceEqDiff, Nat.reduceBEq, reduceCtorEq, Int.reduceBEq, Int.reduceBNe, Int.reduceLT, Int.reduceLE, Int.reduceGT, Int.reduceGE, aggT_33, sizeT_33, bytesT_33, fieldT_33_0, fieldT_33_1, fieldT_33_2, fieldT_33_3, fieldT_33_4, placesT_33, zeroT_33, aggT_9, sizeT_9, bytesT_9, und_9, zero1_9, zeroT_9, aggT_3, sizeT_3, bytesT_3, und_3, zero1_3, zeroT_3, c.1, h2, h3, h4]
          (refine Eq.trans ?_ rfl; kernel_rfl)
    | false =>
      rw [Bool.false_or]
      refine he c _ ?_
      have := loop_find x.l (fun k => H74a ext 0 (E74 s k) [.box (tmC x)]) (occ s) (fun _ => some (.ret [bV true] [])) (some (.ret [bV false] [])) (by omega) (fun k y hk hl => by
          have h0 : (0 : Int) ≤ k := by omega
          have hr := occurs74 hx s N y (by have := Tm.sz_lt (List.mem_of_getElem? hk); omega) (by omega)
          unfold H74a
          refine ⟨fun hp => ?_, fun hp out h => ?_⟩
          · rw [hp] at hr
            simp only [tmV, tmC, dV, iV, sV, bV, E74, lD_lt hl] at hr ⊢
            (rw [show (It.code L74a) = It.code (sub B74 [1, 1, 0, 1, 0, 0]) from rfl]; simp only [B74, K74a, sub, Option.getD_some, Tryz.f74, ↓reduceIte, Nat.one_ne_zero])
            simp only [zS, nilEq, wantedA, opA, eff, boxA, cells, ev, gt, pt, putO, updO, setO, okC, loadA, cutC, fieldAddrA, fieldA, indexAddrA, indexA, builtinA, callOpA, callV, target, ptrV, lenS, binA, intOp, strOp, unA, num, lk, over, allocA, pickA, buildA, fillA, convertA, extractA, ofComp, nilCheckA, makeFuncA, ptrs, ofValue, cellB, Nat.reduceAdd, Nat.reduceSub, Nat.reduceMul, Nat.reduceLT, Nat.reduceLeDiff, Nat.reduceGT, ↓reduceIte, Nat.reduceEqDiff, Nat.reduceBEq, reduceCtorEq, Int.reduceBEq, Int.reduceBNe, Int.reduceLT, Int.reduceLE, Int.reduceGT, Int.reduceGE, aggT_33, sizeT_33, bytesT_33, fieldT_33_0, fieldT_33_1, fieldT_33_2, fieldT_33_3, fieldT_33_4, placesT_33, zeroT_33, aggT_31, sizeT_31, bytesT_31, und_31, elemT_31, isSliceT_31, zero1_31, zeroT_31, aggT_9, sizeT_9, bytesT_9, und_9, zero1_9, zeroT_9, aggT_3, sizeT_3, bytesT_3, und_3, zero1_3, zeroT_3, h0, hl, Int.toNat_natCast, hk, tmD_eq y, hr]
            (refine Eq.trans ?_ rfl; kernel_rfl)
          · rw [hp] at hr
            simp only [tmV, tmC, dV, iV, sV, bV, E74, lD_lt hl] at hr h ⊢
            (rw [show (It.code L74a) = It.code (sub B74 [1, 1, 0, 1, 0, 0]) from rfl]; simp only [B74, K74a, sub, Option.getD_some, Tryz.f74, ↓reduceIte, Nat.one_ne_zero])
            simp only [zS, nilEq, wantedA, opA, eff, boxA, cells, ev, gt, pt, putO, updO, setO, okC, loadA, cutC, fieldAddrA, fieldA, indexAddrA, indexA, builtinA, callOpA, callV, target, ptrV, lenS, binA, intOp, strOp, unA, num, lk, over, allocA, pickA, buildA, fillA, convertA, extractA, ofComp, nilCheckA, makeFuncA, ptrs, ofValue, cellB, Nat.reduceAdd, Nat.reduceSub, Nat.reduceMul, Nat.reduceLT, Nat.reduceLeDiff, Nat.reduceGT, ↓reduceIte, Nat.reduceEqDiff, Nat.reduceBEq, reduceCtorEq, Int.reduceBEq, Int.reduceBNe, Int.reduceLT, Int.reduceLE, Int.reduceGT, Int.reduceGE, aggT_33, sizeT_33, bytesT_33, fieldT_33_0, fieldT_33_1, fieldT_33_2, fieldT_33_3, fieldT_33_4, placesT_33, zeroT_33, aggT_31, sizeT_31, bytesT_31, und_31, elemT_31, isSliceT_31, zero1_31, zeroT_31, aggT_9, sizeT_9, bytesT_9, und_9, zero1_9, zeroT_9, aggT_3, sizeT_3, bytesT_3, und_3, zero1_3, zeroT_3, h0, hl, Int.toNat_natCast, hk, tmD_eq y, hr]
            (refine (r_inLoop_some ?_).trans h; kernel_rfl)) (by
          unfold H74a
          simp only [tmC, dV, iV, sV, bV, E74]
          (rw [show (It.code L74a) = It.code (sub B74 [1, 1, 0, 1, 0, 0]) from rfl]; simp only [B74, K74a, sub, Option.getD_some, Tryz.f74, ↓reduceIte, Nat.one_ne_zero])
          simp only [zS, nilEq, wantedA, opA, eff, boxA, cells, ev, gt, pt, putO, updO, setO, okC, loadA, cutC, fieldAddrA, fieldA, indexAddrA, indexA, builtinA, callOpA, callV, target, ptrV, lenS, binA, intOp, strOp, unA, num, lk, over, allocA, pickA, buildA, fillA, convertA, extractA, ofComp, nilCheckA, makeFuncA, ptrs, ofValue, cellB, Nat.reduceAdd, Nat.reduceSub, Nat.reduceMul, Nat.reduceLT, Nat.reduceLeDiff, Nat.reduceGT, ↓reduceIte, Nat.reduceEqDiff, Nat.reduceBEq, reduceCtorEq, Int.reduceBEq, Int.reduceBNe, Int.reduceLT, Int.reduceLE, Int.reduceGT, Int.reduceGE, aggT_33, sizeT_33, bytesT_33, fieldT_33_0, fieldT_33_1, fieldT_33_2, fieldT_33_3, fieldT_33_4, placesT_33, zeroT_33, aggT_31, sizeT_31, bytesT_31, und_31, elemT_31, isSliceT_31, zero1_31, zeroT_31, aggT_3, sizeT_3, bytesT_3, und_3, zero1_3, zeroT_3, lenA_lD, Int.lt_irrefl]
          (refine Eq.trans ?_ rfl; kernel_rfl))
      rw [this, any_ix]
      cases x.l.findIdx? (occ s) with
      | none => rfl
      | some k =>
        have : decide (0 ≤ ixOf (some k)) = true := by simp [ixOf]
        rw [this]
end Go.Proofs.YteenjodhmppgjaaGreatDoor.Am
end
section
/- Recursive and Assumes, by the program and by the reference. -/
namespace Go.Proofs.YteenjodhmppgjaaGreatDoor.Am
open Go
variable (ext : Ext)
set_option maxHeartbeats 8000000
set_option maxRecDepth 4000
noncomputable def B23 : Code := (Tryz.f23.body.getD .skip)
noncomputable def L23a : Code := sub B23 [1, 1, 1, 1, 0, 1, 0, 0]
noncomputable def K23a : List It := [.inBlock 0, .code (sub B23 [1, 1, 1, 1, 1])]
noncomputable def H23a (ext : Ext) (m : Nat) (env : Env) (loc : List O) : Option Out := run Tryz.prog ext (.k ⟨37, m, [.tmp 4, .tmp 5], false⟩ (.code L23a :: .inLoop L23a :: K23a) env loc)
noncomputable def B24 : Code := (Tryz.f24.body.getD .skip)
noncomputable def L24a : Code := sub B24 [1, 1, 1, 1, 0, 1, 0, 0]
noncomputable def K24a : List It := [.inBlock 0, .code (sub B24 [1, 1, 1, 1, 1])]
noncomputable def H24a (ext : Ext) (m : Nat) (env : Env) (loc : List O) : Option Out := run Tryz.prog ext (.k ⟨38, m, [.tmp 4, .tmp 5], false⟩ (.code L24a :: .inLoop L24a :: K24a) env loc)
noncomputable def B29 : Code := (Tryz.f29.body.getD .skip)
noncomputable def L29a : Code := sub B29 [1, 1, 0, 1, 0, 0]
noncomputable def K29a : List It := [.inBlock 0, .code (sub B29 [1, 1, 1])]
noncomputable def H29a (ext : Ext) (m : Nat) (env : Env) (loc : List O) : Option Out := run Tryz.prog ext (.k ⟨23, m, [.tmp 2], false⟩ (.code L29a :: .inLoop L29a :: K29a) env loc)
noncomputable def B30 : Code := (Tryz.f30.body.getD .skip)
noncomputable def L30a : Code := sub B30 [1, 1, 0, 1, 0, 0]
noncomputable def K30a : List It := [.inBlock 0, .code (sub B30 [1, 1, 1])]
noncomputable def H30a (ext : Ext) (m : Nat) (env : Env) (loc : List O) : Option Out := run Tryz.prog ext (.k ⟨29, m, [.tmp 2], false⟩ (.code L30a :: .inLoop L30a :: K30a) env loc)
def pickE {α β : Type} (p : Nat → α → Bool) (g : Nat → α → β) : Nat → List α → List β
  | _, [] => []
  | k, x :: l => if p k x then g k x :: pickE p g (k + 1) l else pickE p g (k + 1) l
theorem pickE_len {α β : Type} (p : Nat → α → Bool) (g : Nat → α → β) : ∀ (l : List α) (k : Nat), (pickE p g k l).length ≤ l.length
  | [], _ => Nat.le_refl _
  | x :: l, k => by
    have := pickE_len p g l (k + 1)
    rw [pickE]
    split <;> simp only [List.length_cons] <;> omega
/-- A loop that takes some of the elements. -/
theorem loop_pick {α β : Type} (p : Nat → α → Bool) (g : Nat → α → β) (l : List α) (S : Int → List β → Option Out) (fin : List β → Option Out) (hl : l.length < 2 ^ 50)
    (hstep : ∀ (k : Nat) (x : α) (els : List β), l[k]? = some x → (k : Int) < l.length → els.length ≤ k → (p k x = true → ∀ out, S (wr ((k : Int) + 1)) (els ++ [g k x]) = out → S k els = out) ∧ (p k x = false → ∀ out, S (wr ((k : Int) + 1)) els = out → S k els = out))
    (hdone : ∀ els, els.length ≤ l.length → S l.length els = fin els) : S 0 [] = fin (pickE p g 0 l) := by
  have key : ∀ (m k : Nat) (els : List β), k + m = l.length → els.length ≤ k → S k els = fin (els ++ pickE p g k (l.drop k)) := by
    intro m
    induction m with
    | zero =>
      intro k els hk he
      rw [List.drop_eq_nil_of_le (by omega), show k = l.length by omega]
      simp only [pickE, List.append_nil]
      exact hdone els (by omega)
    | succ m ih =>
      intro k els hk he
      have hlt : k < l.length := by omega
      rw [List.drop_eq_getElem_cons hlt, pickE]
      obtain ⟨h1, h2⟩ := hstep k l[k] els (by simp [hlt]) (by omega) he
      have hw : wr ((k : Int) + 1) = ((k + 1 : Nat) : Int) := by rw [wr_id (by omega) (by omega)]; omega
      cases hp : p k l[k] with
      | true =>
        rw [if_pos rfl]
        refine h1 hp _ ?_
        rw [hw, ih (k + 1) _ (by omega) (by simp; omega)]
        simp
      | false =>
        rw [if_neg (by simp)]
        refine h2 hp _ ?_
        rw [hw, ih (k + 1) _ (by omega) (by omega)]
  simpa using key l.length 0 [] (by omega) (by simp)
def recIx (s : ByteArray) (d : Dc) : List Int := pickE (fun _ c => occ s c.arg) (fun k _ => (k : Int)) 0 d.cons
def assN (x : Tb) : List ByteArray := pickE (fun _ d => d.kind == 3) (fun _ d => d.name) 0 x.ds
/-! ### Recursive, by the program -/
def E23 (d : Dc) (s : ByteArray) (ls : List Int) (k : Int) : Env := [(1, sV s), (8, mkV 0 (ls.map inD)), (20, dV d.d), (21, iV d.cons.length), (22, iV k)]
theorem enter23 (hx : ext 23 = none) (x : Tb) (s : ByteArray) (d : Dc) (ht : run Tryz.prog ext (.call 71 [tbV x, sV s] []) = some (.ret [dcV d, bV true] [])) (out : Option Out) (h : H23a ext 0 (E23 d s [] 0) [] = out) : run Tryz.prog ext (.call 23 [tbV x, sV s] []) = out := by
  unfold H23a at h
  (rw [run_eq]; simp only [stepA, hx, Tryz.func23, Tryz.f23, show retF 23 = false from rfl]; simp only [List.length_cons, List.length_nil, Nat.reduceAdd, Nat.reduceLeDiff, Nat.zero_le, ↓reduceIte, List.zipIdx_cons, List.zipIdx_nil, List.map_cons, List.map_nil])
  simp only [tbV, tbC, dcV, dcC, dV, sV, iV, bV, E23, List.map_nil, mkV_nil] at ht h ⊢
  simp only [zS, nilEq, wantedA, opA, eff, boxA, cells, ev, gt, pt, putO, updO, setO, okC, loadA, cutC, fieldAddrA, fieldA, indexAddrA, indexA, builtinA, callOpA, callV, target, ptrV, lenS, binA, intOp, strOp, unA, num, lk, over, allocA, pickA, buildA, fillA, convertA, extractA, ofComp, nilCheckA, makeFuncA, ptrs, ofValue, cellB, Nat.reduceAdd, Nat.reduceSub, Nat.reduceMul, Nat.reduceLT, Nat.reduceLeDiff, Nat.reduceGT, ↓reduceIte, Nat.reduceEqDiff, Nat.reduceBEq, reduceCtorEq, Int.reduceBEq, Int.reduceBNe, Int.reduceLT, Int.reduceLE, Int.reduceGT, Int.reduceGE, aggT_24, sizeT_24, bytesT_24, fieldT_24_0, placesT_24, zeroT_24, aggT_39, sizeT_39, bytesT_39, fieldT_39_0, fieldT_39_1, fieldT_39_2, fieldT_39_3, fieldT_39_4, fieldT_39_5, fieldT_39_6, fieldT_39_7, fieldT_39_8, placesT_39, zeroT_39, aggT_37, sizeT_37, bytesT_37, und_37, elemT_37, isSliceT_37, zero1_37, zeroT_37, aggT_22, sizeT_22, bytesT_22, und_22, elemT_22, isSliceT_22, zero1_22, zeroT_22, aggT_9, sizeT_9, bytesT_9, und_9, zero1_9, zeroT_9, aggT_3, sizeT_3, bytesT_3, und_3, zero1_3, zeroT_3, ht, callOut_vd, lenA_cd]
  (refine (r_inLoop_some ?_).trans h; kernel_rfl)
theorem bad23 (hx : ext 23 = none) (x : Tb) (s : ByteArray) (d : Dc) (ht : run Tryz.prog ext (.call 71 [tbV x, sV s] []) = some (.ret [dcV d, bV false] [])) : run Tryz.prog ext (.call 23 [tbV x, sV s] []) = some (.ret [dV nilD, iV 3] []) := by
  (rw [run_eq]; simp only [stepA, hx, Tryz.func23, Tryz.f23, show retF 23 = false from rfl]; simp only [List.length_cons, List.length_nil, Nat.reduceAdd, Nat.reduceLeDiff, Nat.zero_le, ↓reduceIte, List.zipIdx_cons, List.zipIdx_nil, List.map_cons, List.map_nil])
  simp only [tbV, tbC, dcV, dcC, dV, sV, iV, bV, nilD] at ht ⊢
  simp only [zS, nilEq, wantedA, opA, eff, boxA, cells, ev, gt, pt, putO, updO, setO, okC, loadA, cutC, fieldAddrA, fieldA, indexAddrA, indexA, builtinA, callOpA, callV, target, ptrV, lenS, binA, intOp, strOp, unA, num, lk, over, allocA, pickA, buildA, fillA, convertA, extractA, ofComp, nilCheckA, makeFuncA, ptrs, ofValue, cellB, Nat.reduceAdd, Nat.reduceSub, Nat.reduceMul, Nat.reduceLT, Nat.reduceLeDiff, Nat.reduceGT, ↓reduceIte, Nat.reduceEqDiff, Nat.reduceBEq, reduceCtorEq, Int.reduceBEq, Int.reduceBNe, Int.reduceLT, Int.reduceLE, Int.reduceGT, Int.reduceGE, aggT_24, sizeT_24, bytesT_24, fieldT_24_0, placesT_24, zeroT_24, aggT_39, sizeT_39, bytesT_39, fieldT_39_0, fieldT_39_1, fieldT_39_2, fieldT_39_3, fieldT_39_4, fieldT_39_5, fieldT_39_6, fieldT_39_7, fieldT_39_8, placesT_39, zeroT_39, aggT_37, sizeT_37, bytesT_37, und_37, elemT_37, isSliceT_37, zero1_37, zeroT_37, aggT_22, sizeT_22, bytesT_22, und_22, elemT_22, isSliceT_22, zero1_22, zeroT_22, aggT_9, sizeT_9, bytesT_9, und_9, zero1_9, zeroT_9, aggT_3, sizeT_3, bytesT_3, und_3, zero1_3, zeroT_3, ht, callOut_vd]
  (refine Eq.trans ?_ rfl; kernel_rfl)
theorem step23 (d : Dc) (s : ByteArray) (c : Con) (ls : List Int) (k : Nat) (hb : ls.length < 2 ^ 29) (hk : d.cons[k]? = some c) (hl : (k : Int) < d.cons.length) (b : Bool) (hr : run Tryz.prog ext (.call 72 [sV s, tmV c.arg] []) = some (.ret [bV b] [])) (out : Option Out)
    (h : H23a ext 0 (E23 d s (if b = true then ls ++ [(k : Int)] else ls) (wr ((k : Int) + 1))) (mkO 1 ((if b = true then ls ++ [(k : Int)] else ls).map inD)) = out) : H23a ext 0 (E23 d s ls k) (mkO 1 (ls.map inD)) = out := by
  have h0 : (0 : Int) ≤ k := by omega
  unfold H23a at h ⊢
  cases b with
  | false =>
    rw [if_neg (by simp)] at h
    cases ls
    all_goals
      simp only [tmV, tmC, dV, iV, sV, bV, E23, consD_lt hl, List.map_cons, List.map_nil, mkV_nil, mkV_cons, mkO_nil, mkO_cons] at h hr ⊢
      (rw [show (It.code L23a) = It.code (sub B23 [1, 1, 1, 1, 0, 1, 0, 0]) from rfl]; simp only [B23, K23a, sub, Option.getD_some, Tryz.f23, ↓reduceIte, Nat.one_ne_zero])
      simp only [zS, nilEq, wantedA, opA, eff, boxA, cells, ev, gt, pt, putO, updO, setO, okC, loadA, cutC, fieldAddrA, fieldA, indexAddrA, indexA, builtinA, callOpA, callV, target, ptrV, lenS, binA, intOp, strOp, unA, num, lk, over, allocA, pickA, buildA, fillA, convertA, extractA, ofComp, nilCheckA, makeFuncA, ptrs, ofValue, cellB, Nat.reduceAdd, Nat.reduceSub, Nat.reduceMul, Nat.reduceLT, Nat.reduceLeDiff, Nat.reduceGT, ↓reduceIte, Nat.reduceEqDiff, Nat.reduceBEq, reduceCtorEq, Int.reduceBEq, Int.reduceBNe, Int.reduceLT, Int.reduceLE, Int.reduceGT, Int.reduceGE, aggT_39, sizeT_39, bytesT_39, fieldT_39_0, fieldT_39_1, fieldT_39_2, fieldT_39_3, fieldT_39_4, fieldT_39_5, fieldT_39_6, fieldT_39_7, fieldT_39_8, placesT_39, zeroT_39, aggT_98, sizeT_98, bytesT_98, fieldT_98_0, fieldT_98_1, placesT_98, zeroT_98, aggT_33, sizeT_33, bytesT_33, fieldT_33_0, fieldT_33_1, fieldT_33_2, fieldT_33_3, fieldT_33_4, placesT_33, zeroT_33, aggT_37, sizeT_37, bytesT_37, und_37, elemT_37, isSliceT_37, zero1_37, zeroT_37, aggT_43, sizeT_43, bytesT_43, und_43, elemT_43, isSliceT_43, zero1_43, zeroT_43, aggT_9, sizeT_9, bytesT_9, und_9, zero1_9, zeroT_9, aggT_3, sizeT_3, bytesT_3, und_3, zero1_3, zeroT_3, h0, hl, Int.toNat_natCast, hk, conD_eq c, hr]
      (refine (r_inLoop_some ?_).trans h; kernel_rfl)
  | true =>
    rw [if_pos rfl] at h
    cases ls with
    | nil =>
      simp only [tmV, tmC, dV, iV, sV, bV, E23, consD_lt hl, List.map_append, List.map_cons, List.map_nil, mkV_nil, mkO_nil, mkV_snoc, mkO_snoc, List.nil_append, inD_eq] at h hr ⊢
      (rw [show (It.code L23a) = It.code (sub B23 [1, 1, 1, 1, 0, 1, 0, 0]) from rfl]; simp only [B23, K23a, sub, Option.getD_some, Tryz.f23, ↓reduceIte, Nat.one_ne_zero])
      simp only [zS, nilEq, wantedA, opA, eff, boxA, cells, ev, gt, pt, putO, updO, setO, okC, loadA, cutC, fieldAddrA, fieldA, indexAddrA, indexA, builtinA, callOpA, callV, target, ptrV, lenS, binA, intOp, strOp, unA, num, lk, over, allocA, pickA, buildA, fillA, convertA, extractA, ofComp, nilCheckA, makeFuncA, ptrs, ofValue, cellB, Nat.reduceAdd, Nat.reduceSub, Nat.reduceMul, Nat.reduceLT, Nat.reduceLeDiff, Nat.reduceGT, ↓reduceIte, Nat.reduceEqDiff, Nat.reduceBEq, reduceCtorEq, Int.reduceBEq, Int.reduceBNe, Int.reduceLT, Int.reduceLE, Int.reduceGT, Int.reduceGE, aggT_39, sizeT_39, bytesT_39, fieldT_39_0, fieldT_39_1, fieldT_39_2, fieldT_39_3, fieldT_39_4, fieldT_39_5, fieldT_39_6, fieldT_39_7, fieldT_39_8, placesT_39, zeroT_39, aggT_98, sizeT_98, bytesT_98, fieldT_98_0, fieldT_98_1, placesT_98, zeroT_98, aggT_33, sizeT_33, bytesT_33, fieldT_33_0, fieldT_33_1, fieldT_33_2, fieldT_33_3, fieldT_33_4, placesT_33, zeroT_33, aggT_37, sizeT_37, bytesT_37, und_37, elemT_37, isSliceT_37, zero1_37, zeroT_37, aggT_43, sizeT_43, bytesT_43, und_43, elemT_43, isSliceT_43, zero1_43, zeroT_43, aggT_9, sizeT_9, bytesT_9, und_9, zero1_9, zeroT_9, aggT_3, sizeT_3, bytesT_3, und_3, zero1_3, zeroT_3, h0, hl, Int.toNat_natCast, hk, conD_eq c, hr, bsIn, no43, apH_arr, Nat.zero_le]
      (refine (r_inLoop_some ?_).trans h; kernel_rfl)
    | cons a r =>
      have hb' : r.length + 1 ≤ 1000000000 := by simp only [List.length_cons] at hb; omega
      simp only [tmV, tmC, dV, iV, sV, bV, E23, consD_lt hl, List.map_append, List.map_cons, List.map_nil, mkV_cons, mkO_cons, mkV_snoc, mkO_snoc, List.cons_append, List.nil_append, inD_eq] at h hr ⊢
      (rw [show (It.code L23a) = It.code (sub B23 [1, 1, 1, 1, 0, 1, 0, 0]) from rfl]; simp only [B23, K23a, sub, Option.getD_some, Tryz.f23, ↓reduceIte, Nat.one_ne_zero])
      simp only [zS, nilEq, wantedA, opA, eff, boxA, cells, ev, gt, pt, putO, updO, setO, okC, loadA, cutC, fieldAddrA, fieldA, indexAddrA, indexA, builtinA, callOpA, callV, target, ptrV, lenS, binA, intOp, strOp, unA, num, lk, over, allocA, pickA, buildA, fillA, convertA, extractA, ofComp, nilCheckA, makeFuncA, ptrs, ofValue, cellB, Nat.reduceAdd, Nat.reduceSub, Nat.reduceMul, Nat.reduceLT, Nat.reduceLeDiff, Nat.reduceGT, ↓reduceIte, Nat.reduceEqDiff, Nat.reduceBEq, reduceCtorEq, Int.reduceBEq, Int.reduceBNe, Int.reduceLT, Int.reduceLE, Int.reduceGT, Int.reduceGE, aggT_39, sizeT_39, bytesT_39, fieldT_39_0, fieldT_39_1, fieldT_39_2, fieldT_39_3, fieldT_39_4, fieldT_39_5, fieldT_39_6, fieldT_39_7, fieldT_39_8, placesT_39, zeroT_39, aggT_98, sizeT_98, bytesT_98, fieldT_98_0, fieldT_98_1, placesT_98, zeroT_98, aggT_33, sizeT_33, bytesT_33, fieldT_33_0, fieldT_33_1, fieldT_33_2, fieldT_33_3, fieldT_33_4, placesT_33, zeroT_33, aggT_37, sizeT_37, bytesT_37, und_37, elemT_37, isSliceT_37, zero1_37, zeroT_37, aggT_43, sizeT_43, bytesT_43, und_43, elemT_43, isSliceT_43, zero1_43, zeroT_43, aggT_9, sizeT_9, bytesT_9, und_9, zero1_9, zeroT_9, aggT_3, sizeT_3, bytesT_3, und_3, zero1_3, zeroT_3, h0, hl, Int.toNat_natCast, hk, conD_eq c, hr, bsIn, oo43, apG_arr, hb']
      (refine (r_inLoop_some ?_).trans h; kernel_rfl)
theorem done23 (d : Dc) (s : ByteArray) (ls : List Int) : H23a ext 0 (E23 d s ls d.cons.length) (mkO 1 (ls.map inD)) = some (.ret [dV (listD true 1 (ls.map inD)), iV 0] []) := by
  unfold H23a
  cases ls
  all_goals
    simp only [dV, iV, sV, E23, List.map_cons, List.map_nil, mkV_nil, mkV_cons, mkO_nil, mkO_cons]
    (rw [show (It.code L23a) = It.code (sub B23 [1, 1, 1, 1, 0, 1, 0, 0]) from rfl]; simp only [B23, K23a, sub, Option.getD_some, Tryz.f23, ↓reduceIte, Nat.one_ne_zero])
    simp only [zS, nilEq, wantedA, opA, eff, boxA, cells, ev, gt, pt, putO, updO, setO, okC, loadA, cutC, fieldAddrA, fieldA, indexAddrA, indexA, builtinA, callOpA, callV, target, ptrV, lenS, binA, intOp, strOp, unA, num, lk, over, allocA, pickA, buildA, fillA, convertA, extractA, ofComp, nilCheckA, makeFuncA, ptrs, ofValue, cellB, Nat.reduceAdd, Nat.reduceSub, Nat.reduceMul, Nat.reduceLT, Nat.reduceLeDiff, Nat.reduceGT, ↓reduceIte, Nat.reduceEqDiff, Nat.reduceBEq, reduceCtorEq, Int.reduceBEq, Int.reduceBNe, Int.reduceLT, Int.reduceLE, Int.reduceGT, Int.reduceGE, aggT_37, sizeT_37, bytesT_37, und_37, elemT_37, isSliceT_37, zero1_37, zeroT_37, aggT_43, sizeT_43, bytesT_43, und_43, elemT_43, isSliceT_43, zero1_43, zeroT_43, aggT_9, sizeT_9, bytesT_9, und_9, zero1_9, zeroT_9, aggT_3, sizeT_3, bytesT_3, und_3, zero1_3, zeroT_3, Int.lt_irrefl]
    (refine Eq.trans ?_ rfl; kernel_rfl)
def recOf (x : Tb) (s : ByteArray) : List Int × Int := if (family x s).2 = true then (recIx s (family x s).1, 0) else ([], 3)
theorem rec23 (hx : ext 23 = none) (x : Tb) (s : ByteArray) (hs : (family x s).1.cons.length < 2 ^ 29) (ht : run Tryz.prog ext (.call 71 [tbV x, sV s] []) = some (.ret [dcV (family x s).1, bV (family x s).2] [])) (hr : ∀ c ∈ (family x s).1.cons, run Tryz.prog ext (.call 72 [sV s, tmV c.arg] []) = some (.ret [bV (occ s c.arg)] [])) :
    run Tryz.prog ext (.call 23 [tbV x, sV s] []) = some (.ret [dV (listD true 1 ((recOf x s).1.map inD)), iV (recOf x s).2] []) := by
  unfold recOf
  generalize family x s = p at ht hs hr ⊢
  obtain ⟨d, b⟩ := p
  cases b with
  | false => exact bad23 ext hx x s d ht
  | true =>
    rw [if_pos rfl]
    refine enter23 ext hx x s d ht _ ?_
    exact loop_pick (fun _ c => occ s c.arg) (fun k _ => (k : Int)) d.cons (fun k ls => H23a ext 0 (E23 d s ls k) (mkO 1 (ls.map inD))) (fun ls => some (.ret [dV (listD true 1 (ls.map inD)), iV 0] [])) (by dsimp only at hs; omega)
      (fun k c ls hk hl he => by
        have hc := hr c (List.mem_of_getElem? hk)
        dsimp only at hs ⊢
        refine ⟨fun hp out h => ?_, fun hp out h => ?_⟩
        · refine step23 ext d s c ls k (by omega) hk hl true (by rw [hc, hp]) out ?_
          rw [if_pos rfl]; exact h
        · refine step23 ext d s c ls k (by omega) hk hl false (by rw [hc, hp]) out ?_
          rw [if_neg (by simp)]; exact h) (fun ls _ => done23 ext d s ls)
/-! ### Recursive, by the reference -/
def E24 (s : ByteArray) (ls : List Int) (k : Int) : Env := [(1, sV s), (6, .c (.ptr 0 0)), (8, mkV 1 (ls.map inD)), (9, iV k)]
def O24 (d : Dc) (ls : List Int) : List O := .box (dcC d) :: mkO 1 (ls.map inD)
theorem enter24 (hx : ext 24 = none) (x : Tb) (s : ByteArray) (d : Dc) (ht : run Tryz.prog ext (.call 73 [tbV x, sV s] []) = some (.ret [dcV d, bV true] [])) (out : Option Out) (h : H24a ext 0 (E24 s [] 0) (O24 d []) = out) : run Tryz.prog ext (.call 24 [tbV x, sV s] []) = out := by
  unfold H24a at h
  (rw [run_eq]; simp only [stepA, hx, Tryz.func24, Tryz.f24, show retF 24 = false from rfl]; simp only [List.length_cons, List.length_nil, Nat.reduceAdd, Nat.reduceLeDiff, Nat.zero_le, ↓reduceIte, List.zipIdx_cons, List.zipIdx_nil, List.map_cons, List.map_nil])
  simp only [tbV, tbC, dcV, dcC, dV, sV, iV, bV, E24, O24, List.map_nil, mkV_nil, mkO_nil] at ht h ⊢
  simp only [zS, nilEq, wantedA, opA, eff, boxA, cells, ev, gt, pt, putO, updO, setO, okC, loadA, cutC, fieldAddrA, fieldA, indexAddrA, indexA, builtinA, callOpA, callV, target, ptrV, lenS, binA, intOp, strOp, unA, num, lk, over, allocA, pickA, buildA, fillA, convertA, extractA, ofComp, nilCheckA, makeFuncA, ptrs, ofValue, cellB, Nat.reduceAdd, Nat.reduceSub, Nat.reduceMul, Nat.reduceLT, Nat.reduceLeDiff, Nat.reduceGT, ↓reduceIte, Nat.reduceEqDiff, Nat.reduceBEq, reduceCtorEq, Int.reduceBEq, Int.reduceBNe, Int.reduceLT, Int.reduceLE, Int.reduceGT, Int.reduceGE, aggT_24, sizeT_24, bytesT_24, fieldT_24_0, placesT_24, zeroT_24, aggT_39, sizeT_39, bytesT_39, fieldT_39_0, fieldT_39_1, fieldT_39_2, fieldT_39_3, fieldT_39_4, fieldT_39_5, fieldT_39_6, fieldT_39_7, fieldT_39_8, placesT_39, zeroT_39, aggT_37, sizeT_37, bytesT_37, und_37, elemT_37, isSliceT_37, zero1_37, zeroT_37, aggT_22, sizeT_22, bytesT_22, und_22, elemT_22, isSliceT_22, zero1_22, zeroT_22, aggT_9, sizeT_9, bytesT_9, und_9, zero1_9, zeroT_9, aggT_3, sizeT_3, bytesT_3, und_3, zero1_3, zeroT_3, ht, callOut_vd]
  (refine (r_inLoop_some ?_).trans h; kernel_rfl)
theorem bad24 (hx : ext 24 = none) (x : Tb) (s : ByteArray) (d : Dc) (ht : run Tryz.prog ext (.call 73 [tbV x, sV s] []) = some (.ret [dcV d, bV false] [])) : run Tryz.prog ext (.call 24 [tbV x, sV s] []) = some (.ret [dV nilD, iV 3] []) := by
  (rw [run_eq]; simp only [stepA, hx, Tryz.func24, Tryz.f24, show retF 24 = false from rfl]; simp only [List.length_cons, List.length_nil, Nat.reduceAdd, Nat.reduceLeDiff, Nat.zero_le, ↓reduceIte, List.zipIdx_cons, List.zipIdx_nil, List.map_cons, List.map_nil])
  simp only [tbV, tbC, dcV, dcC, dV, sV, iV, bV, nilD] at ht ⊢
  simp only [zS, nilEq, wantedA, opA, eff, boxA, cells, ev, gt, pt, putO, updO, setO, okC, loadA, cutC, fieldAddrA, fieldA, indexAddrA, indexA, builtinA, callOpA, callV, target, ptrV, lenS, binA, intOp, strOp, unA, num, lk, over, allocA, pickA, buildA, fillA, convertA, extractA, ofComp, nilCheckA, makeFuncA, ptrs, ofValue, cellB, Nat.reduceAdd, Nat.reduceSub, Nat.reduceMul, Nat.reduceLT, Nat.reduceLeDiff, Nat.reduceGT, ↓reduceIte, Nat.reduceEqDiff, Nat.reduceBEq, reduceCtorEq, Int.reduceBEq, Int.reduceBNe, Int.reduceLT, Int.reduceLE, Int.reduceGT, Int.reduceGE, aggT_24, sizeT_24, bytesT_24, fieldT_24_0, placesT_24, zeroT_24, aggT_39, sizeT_39, bytesT_39, fieldT_39_0, fieldT_39_1, fieldT_39_2, fieldT_39_3, fieldT_39_4, fieldT_39_5, fieldT_39_6, fieldT_39_7, fieldT_39_8, placesT_39, zeroT_39, aggT_37, sizeT_37, bytesT_37, und_37, elemT_37, isSliceT_37, zero1_37, zeroT_37, aggT_22, sizeT_22, bytesT_22, und_22, elemT_22, isSliceT_22, zero1_22, zeroT_22, aggT_9, sizeT_9, bytesT_9, und_9, zero1_9, zeroT_9, aggT_3, sizeT_3, bytesT_3, und_3, zero1_3, zeroT_3, ht, callOut_vd]
  (refine Eq.trans ?_ rfl; kernel_rfl)
theorem step24 (d : Dc) (s : ByteArray) (c : Con) (ls : List Int) (k : Nat) (hb : ls.length < 2 ^ 29) (hk : d.cons[k]? = some c) (hl : (k : Int) < d.cons.length) (b : Bool) (hr : run Tryz.prog ext (.call 74 [sV s, tmV c.arg] []) = some (.ret [bV b] [])) (out : Option Out)
    (h : H24a ext 0 (E24 s (if b = true then ls ++ [(k : Int)] else ls) (wr ((k : Int) + 1))) (O24 d (if b = true then ls ++ [(k : Int)] else ls)) = out) : H24a ext 0 (E24 s ls k) (O24 d ls) = out := by
  have h0 : (0 : Int) ≤ k := by omega
  unfold H24a at h ⊢
  cases b with
  | false =>
    rw [if_neg (by simp)] at h
    cases ls
    all_goals
      simp only [tmV, tmC, dcC, dV, iV, sV, bV, E24, O24, consD_lt hl, List.map_cons, List.map_nil, mkV_nil, mkV_cons, mkO_nil, mkO_cons] at h hr ⊢
      (rw [show (It.code L24a) = It.code (sub B24 [1, 1, 1, 1, 0, 1, 0, 0]) from rfl]; simp only [B24, K24a, sub, Option.getD_some, Tryz.f24, ↓reduceIte, Nat.one_ne_zero])
      simp only [zS, nilEq, wantedA, opA, eff, boxA, cells, ev, gt, pt, putO, updO, setO, okC, loadA, cutC, fieldAddrA, fieldA, indexAddrA, indexA, builtinA, callOpA, callV, target, ptrV, lenS, binA, intOp, strOp, unA, num, lk, over, allocA, pickA, buildA, fillA, convertA, extractA, ofComp, nilCheckA, makeFuncA, ptrs, ofValue, cellB, Nat.reduceAdd, Nat.reduceSub, Nat.reduceMul, Nat.reduceLT, Nat.reduceLeDiff, Nat.reduceGT, ↓reduceIte, Nat.reduceEqDiff, Nat.reduceBEq, reduceCtorEq, Int.reduceBEq, Int.reduceBNe, Int.reduceLT, Int.reduceLE, Int.reduceGT, Int.reduceGE, aggT_39, sizeT_39, bytesT_39, fieldT_39_0, fieldT_39_1, fieldT_39_2, fieldT_39_3, fieldT_39_4, fieldT_39_5, fieldT_39_6, fieldT_39_7, fieldT_39_8, placesT_39, zeroT_39, aggT_98, sizeT_98, bytesT_98, fieldT_98_0, fieldT_98_1, placesT_98, zeroT_98, aggT_33, sizeT_33, bytesT_33, fieldT_33_0, fieldT_33_1, fieldT_33_2, fieldT_33_3, fieldT_33_4, placesT_33, zeroT_33, aggT_37, sizeT_37, bytesT_37, und_37, elemT_37, isSliceT_37, zero1_37, zeroT_37, aggT_43, sizeT_43, bytesT_43, und_43, elemT_43, isSliceT_43, zero1_43, zeroT_43, aggT_9, sizeT_9, bytesT_9, und_9, zero1_9, zeroT_9, aggT_3, sizeT_3, bytesT_3, und_3, zero1_3, zeroT_3, h0, hl, Int.toNat_natCast, hk, conD_eq c, hr]
      (refine (r_inLoop_some ?_).trans h; kernel_rfl)
  | true =>
    rw [if_pos rfl] at h
    cases ls with
    | nil =>
      simp only [tmV, tmC, dcC, dV, iV, sV, bV, E24, O24, consD_lt hl, List.map_append, List.map_cons, List.map_nil, mkV_nil, mkO_nil, mkV_snoc, mkO_snoc, List.nil_append, inD_eq] at h hr ⊢
      (rw [show (It.code L24a) = It.code (sub B24 [1, 1, 1, 1, 0, 1, 0, 0]) from rfl]; simp only [B24, K24a, sub, Option.getD_some, Tryz.f24, ↓reduceIte, Nat.one_ne_zero])
      simp only [zS, nilEq, wantedA, opA, eff, boxA, cells, ev, gt, pt, putO, updO, setO, okC, loadA, cutC, fieldAddrA, fieldA, indexAddrA, indexA, builtinA, callOpA, callV, target, ptrV, lenS, binA, intOp, strOp, unA, num, lk, over, allocA, pickA, buildA, fillA, convertA, extractA, ofComp, nilCheckA, makeFuncA, ptrs, ofValue, cellB, Nat.reduceAdd, Nat.reduceSub, Nat.reduceMul, Nat.reduceLT, Nat.reduceLeDiff, Nat.reduceGT, ↓reduceIte, Nat.reduceEqDiff, Nat.reduceBEq, reduceCtorEq, Int.reduceBEq, Int.reduceBNe, Int.reduceLT, Int.reduceLE, Int.reduceGT, Int.reduceGE, aggT_39, sizeT_39, bytesT_39, fieldT_39_0, fieldT_39_1, fieldT_39_2, fieldT_39_3, fieldT_39_4, fieldT_39_5, fieldT_39_6, fieldT_39_7, fieldT_39_8, placesT_39, zeroT_39, aggT_98, sizeT_98, bytesT_98, fieldT_98_0, fieldT_98_1, placesT_98, zeroT_98, aggT_33, sizeT_33, bytesT_33, fieldT_33_0, fieldT_33_1, fieldT_33_2, fieldT_33_3, fieldT_33_4, placesT_33, zeroT_33, aggT_37, sizeT_37, bytesT_37, und_37, elemT_37, isSliceT_37, zero1_37, zeroT_37, aggT_43, sizeT_43, bytesT_43, und_43, elemT_43, isSliceT_43, zero1_43, zeroT_43, aggT_9, sizeT_9, bytesT_9, und_9, zero1_9, zeroT_9, aggT_3, sizeT_3, bytesT_3, und_3, zero1_3, zeroT_3, h0, hl, Int.toNat_natCast, hk, conD_eq c, hr, bsIn, no43, apH_arr, Nat.zero_le]
      (refine (r_inLoop_some ?_).trans h; kernel_rfl)
    | cons a r =>
      have hb' : r.length + 1 ≤ 1000000000 := by simp only [List.length_cons] at hb; omega
      simp only [tmV, tmC, dcC, dV, iV, sV, bV, E24, O24, consD_lt hl, List.map_append, List.map_cons, List.map_nil, mkV_cons, mkO_cons, mkV_snoc, mkO_snoc, List.cons_append, List.nil_append, inD_eq] at h hr ⊢
      (rw [show (It.code L24a) = It.code (sub B24 [1, 1, 1, 1, 0, 1, 0, 0]) from rfl]; simp only [B24, K24a, sub, Option.getD_some, Tryz.f24, ↓reduceIte, Nat.one_ne_zero])
      simp only [zS, nilEq, wantedA, opA, eff, boxA, cells, ev, gt, pt, putO, updO, setO, okC, loadA, cutC, fieldAddrA, fieldA, indexAddrA, indexA, builtinA, callOpA, callV, target, ptrV, lenS, binA, intOp, strOp, unA, num, lk, over, allocA, pickA, buildA, fillA, convertA, extractA, ofComp, nilCheckA, makeFuncA, ptrs, ofValue, cellB, Nat.reduceAdd, Nat.reduceSub, Nat.reduceMul, Nat.reduceLT, Nat.reduceLeDiff, Nat.reduceGT, ↓reduceIte, Nat.reduceEqDiff, Nat.reduceBEq, reduceCtorEq, Int.reduceBEq, Int.reduceBNe, Int.reduceLT, Int.reduceLE, Int.reduceGT, Int.reduceGE, aggT_39, sizeT_39, bytesT_39, fieldT_39_0, fieldT_39_1, fieldT_39_2, fieldT_39_3, fieldT_39_4, fieldT_39_5, fieldT_39_6, fieldT_39_7, fieldT_39_8, placesT_39, zeroT_39, aggT_98, sizeT_98, bytesT_98, fieldT_98_0, fieldT_98_1, placesT_98, zeroT_98, aggT_33, sizeT_33, bytesT_33, fieldT_33_0, fieldT_33_1, fieldT_33_2, fieldT_33_3, fieldT_33_4, placesT_33, zeroT_33, aggT_37, sizeT_37, bytesT_37, und_37, elemT_37, isSliceT_37, zero1_37, zeroT_37, aggT_43, sizeT_43, bytesT_43, und_43, elemT_43, isSliceT_43, zero1_43, zeroT_43, aggT_9, sizeT_9, bytesT_9, und_9, zero1_9, zeroT_9, aggT_3, sizeT_3, bytesT_3, und_3, zero1_3, zeroT_3, h0, hl, Int.toNat_natCast, hk, conD_eq c, hr, bsIn, oo43, apG_arr, hb']
      (refine (r_inLoop_some ?_).trans h; kernel_rfl)
theorem done24 (d : Dc) (s : ByteArray) (ls : List Int) : H24a ext 0 (E24 s ls d.cons.length) (O24 d ls) = some (.ret [dV (listD true 1 (ls.map inD)), iV 0] []) := by
  unfold H24a
  cases ls
  all_goals
    simp only [dcC, dV, iV, sV, E24, O24, List.map_cons, List.map_nil, mkV_nil, mkV_cons, mkO_nil, mkO_cons]
    (rw [show (It.code L24a) = It.code (sub B24 [1, 1, 1, 1, 0, 1, 0, 0]) from rfl]; simp only [B24, K24a, sub, Option.getD_some, Tryz.f24, ↓reduceIte, Nat.one_ne_zero])
    simp only [zS, nilEq, wantedA, opA, eff, boxA, cells, ev, gt, pt, putO, updO, setO, okC, loadA, cutC, fieldAddrA, fieldA, indexAddrA, indexA, builtinA, callOpA, callV, target, ptrV, lenS, binA, intOp, strOp, unA, num, lk, over, allocA, pickA, buildA, fillA, convertA, extractA, ofComp, nilCheckA, makeFuncA, ptrs, ofValue, cellB, Nat.reduceAdd, Nat.reduceSub, Nat.reduceMul, Nat.reduceLT, Nat.reduceLeDiff, Nat.reduceGT, ↓reduceIte, Nat.reduceEqDiff, Nat.reduceBEq, reduceCtorEq, Int.reduceBEq, Int.reduceBNe, Int.reduceLT, Int.reduceLE, Int.reduceGT, Int.reduceGE, aggT_39, sizeT_39, bytesT_39, fieldT_39_0, fieldT_39_1, fieldT_39_2, fieldT_39_3, fieldT_39_4, fieldT_39_5, fieldT_39_6, fieldT_39_7, fieldT_39_8, placesT_39, zeroT_39, aggT_37, sizeT_37, bytesT_37, und_37, elemT_37, isSliceT_37, zero1_37, zeroT_37, aggT_43, sizeT_43, bytesT_43, und_43, elemT_43, isSliceT_43, zero1_43, zeroT_43, aggT_9, sizeT_9, bytesT_9, und_9, zero1_9, zeroT_9, aggT_3, sizeT_3, bytesT_3, und_3, zero1_3, zeroT_3, lenA_cd, Int.lt_irrefl]
    (refine Eq.trans ?_ rfl; kernel_rfl)
theorem rec24 (hx : ext 24 = none) (x : Tb) (s : ByteArray) (hs : (family x s).1.cons.length < 2 ^ 29) (ht : run Tryz.prog ext (.call 73 [tbV x, sV s] []) = some (.ret [dcV (family x s).1, bV (family x s).2] [])) (hr : ∀ c ∈ (family x s).1.cons, run Tryz.prog ext (.call 74 [sV s, tmV c.arg] []) = some (.ret [bV (occ s c.arg)] [])) :
    run Tryz.prog ext (.call 24 [tbV x, sV s] []) = some (.ret [dV (listD true 1 ((recOf x s).1.map inD)), iV (recOf x s).2] []) := by
  unfold recOf
  generalize family x s = p at ht hs hr ⊢
  obtain ⟨d, b⟩ := p
  cases b with
  | false => exact bad24 ext hx x s d ht
  | true =>
    rw [if_pos rfl]
    refine enter24 ext hx x s d ht _ ?_
    exact loop_pick (fun _ c => occ s c.arg) (fun k _ => (k : Int)) d.cons (fun k ls => H24a ext 0 (E24 s ls k) (O24 d ls)) (fun ls => some (.ret [dV (listD true 1 (ls.map inD)), iV 0] [])) (by dsimp only at hs; omega)
      (fun k c ls hk hl he => by
        have hc := hr c (List.mem_of_getElem? hk)
        dsimp only at hs ⊢
        refine ⟨fun hp out h => ?_, fun hp out h => ?_⟩
        · refine step24 ext d s c ls k (by omega) hk hl true (by rw [hc, hp]) out ?_
          rw [if_pos rfl]; exact h
        · refine step24 ext d s c ls k (by omega) hk hl false (by rw [hc, hp]) out ?_
          rw [if_neg (by simp)]; exact h) (fun ls _ => done24 ext d s ls)
/-! ### Assumes -/
def E29 (x : Tb) (ls : List ByteArray) (k : Int) : Env := [(3, mkV 0 (ls.map stD)), (7, dV x.d), (8, iV x.ds.length), (9, iV k)]
theorem enter29 (hx : ext 29 = none) (x : Tb) (out : Option Out) (h : H29a ext 0 (E29 x [] 0) [] = out) : run Tryz.prog ext (.call 29 [tbV x] []) = out := by
  unfold H29a at h
  (rw [run_eq]; simp only [stepA, hx, Tryz.func29, Tryz.f29, show retF 29 = false from rfl]; simp only [List.length_cons, List.length_nil, Nat.reduceAdd, Nat.reduceLeDiff, Nat.zero_le, ↓reduceIte, List.zipIdx_cons, List.zipIdx_nil, List.map_cons, List.map_nil])
  simp only [tbV, tbC, dV, iV, E29, List.map_nil, mkV_nil] at h ⊢
  simp only [zS, nilEq, wantedA, opA, eff, boxA, cells, ev, gt, pt, putO, updO, setO, okC, loadA, cutC, fieldAddrA, fieldA, indexAddrA, indexA, builtinA, callOpA, callV, target, ptrV, lenS, binA, intOp, strOp, unA, num, lk, over, allocA, pickA, buildA, fillA, convertA, extractA, ofComp, nilCheckA, makeFuncA, ptrs, ofValue, cellB, Nat.reduceAdd, Nat.reduceSub, Nat.reduceMul, Nat.reduceLT, Nat.reduceLeDiff, Nat.reduceGT, ↓reduceIte, Nat.reduceEqDiff, Nat.reduceBEq, reduceCtorEq, Int.reduceBEq, Int.reduceBNe, Int.reduceLT, Int.reduceLE, Int.reduceGT, Int.reduceGE, aggT_24, sizeT_24, bytesT_24, fieldT_24_0, placesT_24, zeroT_24, aggT_22, sizeT_22, bytesT_22, und_22, elemT_22, isSliceT_22, zero1_22, zeroT_22, aggT_3, sizeT_3, bytesT_3, und_3, zero1_3, zeroT_3, lenA_td]
  (refine (r_inLoop_some ?_).trans h; kernel_rfl)
theorem step29 (x : Tb) (y : Dc) (ls : List ByteArray) (k : Nat) (hb : ls.length < 2 ^ 29) (hk : x.ds[k]? = some y) (hl : (k : Int) < x.ds.length) (b : Bool) (hc : (y.kind == 3) = b) (out : Option Out)
    (h : H29a ext 0 (E29 x (if b = true then ls ++ [y.name] else ls) (wr ((k : Int) + 1))) (mkO 1 ((if b = true then ls ++ [y.name] else ls).map stD)) = out) : H29a ext 0 (E29 x ls k) (mkO 1 (ls.map stD)) = out := by
  have h0 : (0 : Int) ≤ k := by omega
  unfold H29a at h ⊢
  cases b with
  | false =>
    rw [if_neg (by simp)] at h
    cases ls
    all_goals
      simp only [dV, iV, E29, dsD_lt h0 hl, List.map_cons, List.map_nil, mkV_nil, mkV_cons, mkO_nil, mkO_cons] at h ⊢
      (rw [show (It.code L29a) = It.code (sub B29 [1, 1, 0, 1, 0, 0]) from rfl]; simp only [B29, K29a, sub, Option.getD_some, Tryz.f29, ↓reduceIte, Nat.one_ne_zero])
      simp only [zS, nilEq, wantedA, opA, eff, boxA, cells, ev, gt, pt, putO, updO, setO, okC, loadA, cutC, fieldAddrA, fieldA, indexAddrA, indexA, builtinA, callOpA, callV, target, ptrV, lenS, binA, intOp, strOp, unA, num, lk, over, allocA, pickA, buildA, fillA, convertA, extractA, ofComp, nilCheckA, makeFuncA, ptrs, ofValue, cellB, Nat.reduceAdd, Nat.reduceSub, Nat.reduceMul, Nat.reduceLT, Nat.reduceLeDiff, Nat.reduceGT, ↓reduceIte, Nat.reduceEqDiff, Nat.reduceBEq, reduceCtorEq, Int.reduceBEq, Int.reduceBNe, Int.reduceLT, Int.reduceLE, Int.reduceGT, Int.reduceGE, aggT_39, sizeT_39, bytesT_39, fieldT_39_0, fieldT_39_1, fieldT_39_2, fieldT_39_3, fieldT_39_4, fieldT_39_5, fieldT_39_6, fieldT_39_7, fieldT_39_8, placesT_39, zeroT_39, aggT_22, sizeT_22, bytesT_22, und_22, elemT_22, isSliceT_22, zero1_22, zeroT_22, aggT_52, sizeT_52, bytesT_52, und_52, elemT_52, isSliceT_52, zero1_52, zeroT_52, aggT_9, sizeT_9, bytesT_9, und_9, zero1_9, zeroT_9, aggT_3, sizeT_3, bytesT_3, und_3, zero1_3, zeroT_3, h0, hl, Int.toNat_natCast, hk, dcD_eq y, hc]
      (refine (r_inLoop_some ?_).trans h; kernel_rfl)
  | true =>
    rw [if_pos rfl] at h
    cases ls with
    | nil =>
      simp only [dV, iV, E29, dsD_lt h0 hl, List.map_append, List.map_cons, List.map_nil, mkV_nil, mkO_nil, mkV_snoc, mkO_snoc, List.nil_append, stD_eq] at h ⊢
      (rw [show (It.code L29a) = It.code (sub B29 [1, 1, 0, 1, 0, 0]) from rfl]; simp only [B29, K29a, sub, Option.getD_some, Tryz.f29, ↓reduceIte, Nat.one_ne_zero])
      simp only [zS, nilEq, wantedA, opA, eff, boxA, cells, ev, gt, pt, putO, updO, setO, okC, loadA, cutC, fieldAddrA, fieldA, indexAddrA, indexA, builtinA, callOpA, callV, target, ptrV, lenS, binA, intOp, strOp, unA, num, lk, over, allocA, pickA, buildA, fillA, convertA, extractA, ofComp, nilCheckA, makeFuncA, ptrs, ofValue, cellB, Nat.reduceAdd, Nat.reduceSub, Nat.reduceMul, Nat.reduceLT, Nat.reduceLeDiff, Nat.reduceGT, ↓reduceIte, Nat.reduceEqDiff, Nat.reduceBEq, reduceCtorEq, Int.reduceBEq, Int.reduceBNe, Int.reduceLT, Int.reduceLE, Int.reduceGT, Int.reduceGE, aggT_39, sizeT_39, bytesT_39, fieldT_39_0, fieldT_39_1, fieldT_39_2, fieldT_39_3, fieldT_39_4, fieldT_39_5, fieldT_39_6, fieldT_39_7, fieldT_39_8, placesT_39, zeroT_39, aggT_22, sizeT_22, bytesT_22, und_22, elemT_22, isSliceT_22, zero1_22, zeroT_22, aggT_52, sizeT_52, bytesT_52, und_52, elemT_52, isSliceT_52, zero1_52, zeroT_52, aggT_9, sizeT_9, bytesT_9, und_9, zero1_9, zeroT_9, aggT_3, sizeT_3, bytesT_3, und_3, zero1_3, zeroT_3, h0, hl, Int.toNat_natCast, hk, dcD_eq y, hc, bsSt, no52, apH_arr, Nat.zero_le]
      (refine (r_inLoop_some ?_).trans h; kernel_rfl)
    | cons a r =>
      have hb' : r.length + 1 ≤ 1000000000 := by simp only [List.length_cons] at hb; omega
      simp only [dV, iV, E29, dsD_lt h0 hl, List.map_append, List.map_cons, List.map_nil, mkV_cons, mkO_cons, mkV_snoc, mkO_snoc, List.cons_append, List.nil_append, stD_eq] at h ⊢
      (rw [show (It.code L29a) = It.code (sub B29 [1, 1, 0, 1, 0, 0]) from rfl]; simp only [B29, K29a, sub, Option.getD_some, Tryz.f29, ↓reduceIte, Nat.one_ne_zero])
      simp only [zS, nilEq, wantedA, opA, eff, boxA, cells, ev, gt, pt, putO, updO, setO, okC, loadA, cutC, fieldAddrA, fieldA, indexAddrA, indexA, builtinA, callOpA, callV, target, ptrV, lenS, binA, intOp, strOp, unA, num, lk, over, allocA, pickA, buildA, fillA, convertA, extractA, ofComp, nilCheckA, makeFuncA, ptrs, ofValue, cellB, Nat.reduceAdd, Nat.reduceSub, Nat.reduceMul, Nat.reduceLT, Nat.reduceLeDiff, Nat.reduceGT, ↓reduceIte, Nat.reduceEqDiff, Nat.reduceBEq, reduceCtorEq, Int.reduceBEq, Int.reduceBNe, Int.reduceLT, Int.reduceLE, Int.reduceGT, Int.reduceGE, aggT_39, sizeT_39, bytesT_39, fieldT_39_0, fieldT_39_1, fieldT_39_2, fieldT_39_3, fieldT_39_4, fieldT_39_5, fieldT_39_6, fieldT_39_7, fieldT_39_8, placesT_39, zeroT_39, aggT_22, sizeT_22, bytesT_22, und_22, elemT_22, isSliceT_22, zero1_22, zeroT_22, aggT_52, sizeT_52, bytesT_52, und_52, elemT_52, isSliceT_52, zero1_52, zeroT_52, aggT_9, sizeT_9, bytesT_9, und_9, zero1_9, zeroT_9, aggT_3, sizeT_3, bytesT_3, und_3, zero1_3, zeroT_3, h0, hl, Int.toNat_natCast, hk, dcD_eq y, hc, bsSt, oo52, apG_arr, hb']
      (refine (r_inLoop_some ?_).trans h; kernel_rfl)
theorem done29 (x : Tb) (ls : List ByteArray) : H29a ext 0 (E29 x ls x.ds.length) (mkO 1 (ls.map stD)) = some (.ret [dV (listD true 1 (ls.map stD))] []) := by
  unfold H29a
  cases ls
  all_goals
    simp only [dV, iV, E29, List.map_cons, List.map_nil, mkV_nil, mkV_cons, mkO_nil, mkO_cons]
    (rw [show (It.code L29a) = It.code (sub B29 [1, 1, 0, 1, 0, 0]) from rfl]; simp only [B29, K29a, sub, Option.getD_some, Tryz.f29, ↓reduceIte, Nat.one_ne_zero])
    simp only [zS, nilEq, wantedA, opA, eff, boxA, cells, ev, gt, pt, putO, updO, setO, okC, loadA, cutC, fieldAddrA, fieldA, indexAddrA, indexA, builtinA, callOpA, callV, target, ptrV, lenS, binA, intOp, strOp, unA, num, lk, over, allocA, pickA, buildA, fillA, convertA, extractA, ofComp, nilCheckA, makeFuncA, ptrs, ofValue, cellB, Nat.reduceAdd, Nat.reduceSub, Nat.reduceMul, Nat.reduceLT, Nat.reduceLeDiff, Nat.reduceGT, ↓reduceIte, Nat.reduceEqDiff, Nat.reduceBEq, reduceCtorEq, Int.reduceBEq, Int.reduceBNe, Int.reduceLT, Int.reduceLE, Int.reduceGT, Int.reduceGE, aggT_22, sizeT_22, bytesT_22, und_22, elemT_22, isSliceT_22, zero1_22, zeroT_22, aggT_52, sizeT_52, bytesT_52, und_52, elemT_52, isSliceT_52, zero1_52, zeroT_52, aggT_3, sizeT_3, bytesT_3, und_3, zero1_3, zeroT_3, Int.lt_irrefl]
    (refine Eq.trans ?_ rfl; kernel_rfl)
theorem ass29 (hx : ext 29 = none) (x : Tb) (hs : x.ds.length < 2 ^ 29) : run Tryz.prog ext (.call 29 [tbV x] []) = some (.ret [dV (listD true 1 ((assN x).map stD))] []) := by
  refine enter29 ext hx x _ ?_
  exact loop_pick (fun _ d => d.kind == 3) (fun _ d => d.name) x.ds (fun k ls => H29a ext 0 (E29 x ls k) (mkO 1 (ls.map stD))) (fun ls => some (.ret [dV (listD true 1 (ls.map stD))] [])) (by omega)
    (fun k y ls hk hl he => by
      refine ⟨fun hp out h => ?_, fun hp out h => ?_⟩
      · refine step29 ext x y ls k (by omega) hk hl true hp out ?_
        rw [if_pos rfl]; exact h
      · refine step29 ext x y ls k (by omega) hk hl false hp out ?_
        rw [if_neg (by simp)]; exact h) (fun ls _ => done29 ext x ls)
def E30 (ls : List ByteArray) (k : Int) : Env := [(1, .c (.ptr 0 0)), (3, mkV 1 (ls.map stD)), (4, iV k)]
def O30 (x : Tb) (ls : List ByteArray) : List O := .box [.d x.d] :: mkO 1 (ls.map stD)
theorem enter30 (hx : ext 30 = none) (x : Tb) (out : Option Out) (h : H30a ext 0 (E30 [] 0) (O30 x []) = out) : run Tryz.prog ext (.call 30 [tbV x] []) = out := by
  unfold H30a at h
  (rw [run_eq]; simp only [stepA, hx, Tryz.func30, Tryz.f30, show retF 30 = false from rfl]; simp only [List.length_cons, List.length_nil, Nat.reduceAdd, Nat.reduceLeDiff, Nat.zero_le, ↓reduceIte, List.zipIdx_cons, List.zipIdx_nil, List.map_cons, List.map_nil])
  simp only [tbV, tbC, dV, iV, E30, O30, List.map_nil, mkV_nil, mkO_nil] at h ⊢
  simp only [zS, nilEq, wantedA, opA, eff, boxA, cells, ev, gt, pt, putO, updO, setO, okC, loadA, cutC, fieldAddrA, fieldA, indexAddrA, indexA, builtinA, callOpA, callV, target, ptrV, lenS, binA, intOp, strOp, unA, num, lk, over, allocA, pickA, buildA, fillA, convertA, extractA, ofComp, nilCheckA, makeFuncA, ptrs, ofValue, cellB, Nat.reduceAdd, Nat.reduceSub, Nat.reduceMul, Nat.reduceLT, Nat.reduceLeDiff, Nat.reduceGT, ↓reduceIte, Nat.reduceEqDiff, Nat.reduceBEq, reduceCtorEq, Int.reduceBEq, Int.reduceBNe, Int.reduceLT, Int.reduceLE, Int.reduceGT, Int.reduceGE, aggT_24, sizeT_24, bytesT_24, fieldT_24_0, placesT_24, zeroT_24, aggT_22, sizeT_22, bytesT_22, und_22, elemT_22, isSliceT_22, zero1_22, zeroT_22, aggT_3, sizeT_3, bytesT_3, und_3, zero1_3, zeroT_3]
  (refine (r_inLoop_some ?_).trans h; kernel_rfl)
theorem step30 (x : Tb) (y : Dc) (ls : List ByteArray) (k : Nat) (hb : ls.length < 2 ^ 29) (hk : x.ds[k]? = some y) (hl : (k : Int) < x.ds.length) (b : Bool) (hc : (y.kind == 3) = b) (out : Option Out)
    (h : H30a ext 0 (E30 (if b = true then ls ++ [y.name] else ls) (wr ((k : Int) + 1))) (O30 x (if b = true then ls ++ [y.name] else ls)) = out) : H30a ext 0 (E30 ls k) (O30 x ls) = out := by
  have h0 : (0 : Int) ≤ k := by omega
  unfold H30a at h ⊢
  cases b with
  | false =>
    rw [if_neg (by simp)] at h
    cases ls
    all_goals
      simp only [dV, iV, E30, O30, dsD_lt h0 hl, List.map_cons, List.map_nil, mkV_nil, mkV_cons, mkO_nil, mkO_cons] at h ⊢
      (rw [show (It.code L30a) = It.code (sub B30 [1, 1, 0, 1, 0, 0]) from rfl]; simp only [B30, K30a, sub, Option.getD_some, Tryz.f30, ↓reduceIte, Nat.one_ne_zero])
      simp only [zS, nilEq, wantedA, opA, eff, boxA, cells, ev, gt, pt, putO, updO, setO, okC, loadA, cutC, fieldAddrA, fieldA, indexAddrA, indexA, builtinA, callOpA, callV, target, ptrV, lenS, binA, intOp, strOp, unA, num, lk, over, allocA, pickA, buildA, fillA, convertA, extractA, ofComp, nilCheckA, makeFuncA, ptrs, ofValue, cellB, Nat.reduceAdd, Nat.reduceSub, Nat.reduceMul, Nat.reduceLT, Nat.reduceLeDiff, Nat.reduceGT, ↓reduceIte, Nat.reduceEqDiff, Nat.reduceBEq, reduceCtorEq, Int.reduceBEq, Int.reduceBNe, Int.reduceLT, Int.reduceLE, Int.reduceGT, Int.reduceGE, aggT_24, sizeT_24, bytesT_24, fieldT_24_0, placesT_24, zeroT_24, aggT_39, sizeT_39, bytesT_39, fieldT_39_0, fieldT_39_1, fieldT_39_2, fieldT_39_3, fieldT_39_4, fieldT_39_5, fieldT_39_6, fieldT_39_7, fieldT_39_8, placesT_39, zeroT_39, aggT_22, sizeT_22, bytesT_22, und_22, elemT_22, isSliceT_22, zero1_22, zeroT_22, aggT_52, sizeT_52, bytesT_52, und_52, elemT_52, isSliceT_52, zero1_52, zeroT_52, aggT_9, sizeT_9, bytesT_9, und_9, zero1_9, zeroT_9, aggT_3, sizeT_3, bytesT_3, und_3, zero1_3, zeroT_3, h0, hl, Int.toNat_natCast, hk, dcD_eq y, hc]
      (refine (r_inLoop_some ?_).trans h; kernel_rfl)
  | true =>
    rw [if_pos rfl] at h
    cases ls with
    | nil =>
      simp only [dV, iV, E30, O30, dsD_lt h0 hl, List.map_append, List.map_cons, List.map_nil, mkV_nil, mkO_nil, mkV_snoc, mkO_snoc, List.nil_append, stD_eq] at h ⊢
      (rw [show (It.code L30a) = It.code (sub B30 [1, 1, 0, 1, 0, 0]) from rfl]; simp only [B30, K30a, sub, Option.getD_some, Tryz.f30, ↓reduceIte, Nat.one_ne_zero])
      simp only [zS, nilEq, wantedA, opA, eff, boxA, cells, ev, gt, pt, putO, updO, setO, okC, loadA, cutC, fieldAddrA, fieldA, indexAddrA, indexA, builtinA, callOpA, callV, target, ptrV, lenS, binA, intOp, strOp, unA, num, lk, over, allocA, pickA, buildA, fillA, convertA, extractA, ofComp, nilCheckA, makeFuncA, ptrs, ofValue, cellB, Nat.reduceAdd, Nat.reduceSub, Nat.reduceMul, Nat.reduceLT, Nat.reduceLeDiff, Nat.reduceGT, ↓reduceIte, Nat.reduceEqDiff, Nat.reduceBEq, reduceCtorEq, Int.reduceBEq, Int.reduceBNe, Int.reduceLT, Int.reduceLE, Int.reduceGT, Int.reduceGE, aggT_24, sizeT_24, bytesT_24, fieldT_24_0, placesT_24, zeroT_24, aggT_39, sizeT_39, bytesT_39, fieldT_39_0, fieldT_39_1, fieldT_39_2, fieldT_39_3, fieldT_39_4, fieldT_39_5, fieldT_39_6, fieldT_39_7, fieldT_39_8, placesT_39, zeroT_39, aggT_22, sizeT_22, bytesT_22, und_22, elemT_22, isSliceT_22, zero1_22, zeroT_22, aggT_52, sizeT_52, bytesT_52, und_52, elemT_52, isSliceT_52, zero1_52, zeroT_52, aggT_9, sizeT_9, bytesT_9, und_9, zero1_9, zeroT_9, aggT_3, sizeT_3, bytesT_3, und_3, zero1_3, zeroT_3, h0, hl, Int.toNat_natCast, hk, dcD_eq y, hc, bsSt, no52, apH_arr, Nat.zero_le]
      (refine (r_inLoop_some ?_).trans h; kernel_rfl)
    | cons a r =>
      have hb' : r.length + 1 ≤ 1000000000 := by simp only [List.length_cons] at hb; omega
      simp only [dV, iV, E30, O30, dsD_lt h0 hl, List.map_append, List.map_cons, List.map_nil, mkV_cons, mkO_cons, mkV_snoc, mkO_snoc, List.cons_append, List.nil_append, stD_eq] at h ⊢
      (rw [show (It.code L30a) = It.code (sub B30 [1, 1, 0, 1, 0, 0]) from rfl]; simp only [B30, K30a, sub, Option.getD_some, Tryz.f30, ↓reduceIte, Nat.one_ne_zero])
      simp only [zS, nilEq, wantedA, opA, eff, boxA, cells, ev, gt, pt, putO, updO, setO, okC, loadA, cutC, fieldAddrA, fieldA, indexAddrA, indexA, builtinA, callOpA, callV, target, ptrV, lenS, binA, intOp, strOp, unA, num, lk, over, allocA, pickA, buildA, fillA, convertA, extractA, ofComp, nilCheckA, makeFuncA, ptrs, ofValue, cellB, Nat.reduceAdd, Nat.reduceSub, Nat.reduceMul, Nat.reduceLT, Nat.reduceLeDiff, Nat.reduceGT, ↓reduceIte, Nat.reduceEqDiff, Nat.reduceBEq, reduceCtorEq, Int.reduceBEq, Int.reduceBNe, Int.reduceLT, Int.reduceLE, Int.reduceGT, Int.reduceGE, aggT_24, sizeT_24, bytesT_24, fieldT_24_0, placesT_24, zeroT_24, aggT_39, sizeT_39, bytesT_39, fieldT_39_0, fieldT_39_1, fieldT_39_2, fieldT_39_3, fieldT_39_4, fieldT_39_5, fieldT_39_6, fieldT_39_7, fieldT_39_8, placesT_39, zeroT_39, aggT_22, sizeT_22, bytesT_22, und_22, elemT_22, isSliceT_22, zero1_22, zeroT_22, aggT_52, sizeT_52, bytesT_52, und_52, elemT_52, isSliceT_52, zero1_52, zeroT_52, aggT_9, sizeT_9, bytesT_9, und_9, zero1_9, zeroT_9, aggT_3, sizeT_3, bytesT_3, und_3, zero1_3, zeroT_3, h0, hl, Int.toNat_natCast, hk, dcD_eq y, hc, bsSt, oo52, apG_arr, hb']
      (refine (r_inLoop_some ?_).trans h; kernel_rfl)
theorem done30 (x : Tb) (ls : List ByteArray) : H30a ext 0 (E30 ls x.ds.length) (O30 x ls) = some (.ret [dV (listD true 1 (ls.map stD))] []) := by
  unfold H30a
  cases ls
  all_goals
    simp only [dV, iV, E30, O30, List.map_cons, List.map_nil, mkV_nil, mkV_cons, mkO_nil, mkO_cons]
    (rw [show (It.code L30a) = It.code (sub B30 [1, 1, 0, 1, 0, 0]) from rfl]; simp only [B30, K30a, sub, Option.getD_some, Tryz.f30, ↓reduceIte, Nat.one_ne_zero])
    simp only [zS, nilEq, wantedA, opA, eff, boxA, cells, ev, gt, pt, putO, updO, setO, okC, loadA, cutC, fieldAddrA, fieldA, indexAddrA, indexA, builtinA, callOpA, callV, target, ptrV, lenS, binA, intOp, strOp, unA, num, lk, over, allocA, pickA, buildA, fillA, convertA, extractA, ofComp, nilCheckA, makeFuncA, ptrs, ofValue, cellB, Nat.reduceAdd, Nat.reduceSub, Nat.reduceMul, Nat.reduceLT, Nat.reduceLeDiff, Nat.reduceGT, ↓reduceIte, Nat.reduceEqDiff, Nat.reduceBEq, reduceCtorEq, Int.reduceBEq, Int.reduceBNe, Int.reduceLT, Int.reduceLE, Int.reduceGT, Int.reduceGE, aggT_24, sizeT_24, bytesT_24, fieldT_24_0, placesT_24, zeroT_24, aggT_22, sizeT_22, bytesT_22, und_22, elemT_22, isSliceT_22, zero1_22, zeroT_22, aggT_52, sizeT_52, bytesT_52, und_52, elemT_52, isSliceT_52, zero1_52, zeroT_52, aggT_3, sizeT_3, bytesT_3, und_3, zero1_3, zeroT_3, lenA_td, Int.lt_irrefl]
    (refine Eq.trans ?_ rfl; kernel_rfl)
theorem ass30 (hx : ext 30 = none) (x : Tb) (hs : x.ds.length < 2 ^ 29) : run Tryz.prog ext (.call 30 [tbV x] []) = some (.ret [dV (listD true 1 ((assN x).map stD))] []) := by
  refine enter30 ext hx x _ ?_
  exact loop_pick (fun _ d => d.kind == 3) (fun _ d => d.name) x.ds (fun k ls => H30a ext 0 (E30 ls k) (O30 x ls)) (fun ls => some (.ret [dV (listD true 1 (ls.map stD))] [])) (by omega)
    (fun k y ls hk hl he => by
      refine ⟨fun hp out h => ?_, fun hp out h => ?_⟩
      · refine step30 ext x y ls k (by omega) hk hl true hp out ?_
        rw [if_pos rfl]; exact h
      · refine step30 ext x y ls k (by omega) hk hl false hp out ?_
        rw [if_neg (by simp)]; exact h) (fun ls _ => done30 ext x ls)
end Go.Proofs.YteenjodhmppgjaaGreatDoor.Am
end
section
/- The names in a term, by the program. -/
namespace Go.Proofs.YteenjodhmppgjaaGreatDoor.Am
open Go
variable (ext : Ext)
set_option maxHeartbeats 8000000
set_option maxRecDepth 4000
noncomputable def B116 : Code := (Tryz.f116.body.getD .skip)
noncomputable def L116a : Code := sub B116 [1, 1, 1, 0, 0]
noncomputable def K116a : List It := [.inBlock 0]
noncomputable def H116a (ext : Ext) (m : Nat) (env : Env) (loc : List O) : Option Out := run Tryz.prog ext (.k ⟨20, m, [], false⟩ (.code L116a :: .inLoop L116a :: K116a) env loc)
def On (l : List ByteArray) : List O := .box [mkC 1 (l.map stD)] :: mkO 1 (l.map stD)
def Ox (g : Bool) (l : List ByteArray) : List O := match g with | true => [.box [.own 2], .gone, .arr 1 (l.map stD)] | false => On l
def isNmd (x : Tm) : Bool := x.op == 2 || (x.op == 26 || (x.op == 27 || x.op == 28))
def hasN (l : List ByteArray) (s : ByteArray) : Bool := l.any fun a => s.toList == a.toList
def nm1 (l : List ByteArray) (x : Tm) : List ByteArray := if (isNmd x && !hasN l x.s) = true then l ++ [x.s] else l
theorem listD_n1 : listD true 1 [] = .v (.slice none 0 0) := rfl
theorem listD_t1 (x : List D) (l : List (List D)) : listD true 1 (x :: l) = .s 1 (x :: l) := listD_ne (by simp)
theorem On_nil : On [] = [.box [.d (.v (.slice none 0 0))]] := rfl
theorem On_cons (a : ByteArray) (r : List ByteArray) : On (a :: r) = [.box [.own 1], .arr 1 (stD a :: r.map stD)] := rfl
theorem skip117 (hx : ext 117 = none) (x : Tm) (l : List ByteArray) (c : isNmd x = false) : run Tryz.prog ext (.call 117 [tmV x, .c (.ptr 0 0)] (On l)) = some (.ret [] (On l)) := by
  simp only [isNmd, Bool.or_eq_false_iff] at c
  obtain ⟨c1, c2, c3, c4⟩ := c
  cases l
  all_goals
    (rw [run_eq]; simp only [stepA, hx, Tryz.func117, Tryz.f117, show retF 117 = false from rfl]; simp only [List.length_cons, List.length_nil, Nat.reduceAdd, Nat.reduceLeDiff, Nat.zero_le, ↓reduceIte, List.zipIdx_cons, List.zipIdx_nil, List.map_cons, List.map_nil])
    simp only [tmV, tmC, On_nil, On_cons]
    simp only [zS, nilEq, wantedA, opA, eff, boxA, cells, ev, gt, pt, putO, updO, setO, okC, loadA, cutC, fieldAddrA, fieldA, indexAddrA, indexA, builtinA, callOpA, callV, target, ptrV, lenS, binA, intOp, strOp, unA, num, lk, over, allocA, pickA, buildA, fillA, convertA, extractA, ofComp, nilCheckA, makeFuncA, ptrs, ofValue, cellB, Nat.reduceAdd, Nat.reduceSub, Nat.reduceMul, Nat.reduceLT, Nat.reduceLeDiff, Nat.reduceGT, ↓reduceIte, Nat.reduceEqDiff, Nat.reduceBEq, reduceCtorEq, Int.reduceBEq, Int.reduceBNe, Int.reduceLT, Int.reduceLE, Int.reduceGT, Int.reduceGE, aggT_33, sizeT_33, bytesT_33, fieldT_33_0, fieldT_33_1, fieldT_33_2, fieldT_33_3, fieldT_33_4, placesT_33, zeroT_33, aggT_3, sizeT_3, bytesT_3, und_3, zero1_3, zeroT_3, c1, c2, c3, c4]
    (refine Eq.trans ?_ rfl; kernel_rfl)
theorem call118 (rec : Rec) (o0 o2 : O) (a : List D) (r : List (List D)) (s : ByteArray) (b : Bool) (slot : Nat) (hr : rec (.call 118 [dV (.s 1 (a :: r)), sV s] []) = some (.ret [bV b] [])) :
    callA rec (lk [o0, .arr 1 (a :: r), o2]) slot 118 [.c (.own 1), sV s] = some ⟨.val (bV b), [], [1]⟩ :=
  callA_of (ids := []) (bor := [1]) (by kernel_rfl) hr (by kernel_rfl)
theorem nil117n (hx : ext 117 = none) (x : Tm) (c : isNmd x = true) (hr : run Tryz.prog ext (.call 118 [dV (listD true 1 []), sV x.s] []) = some (.ret [bV false] [])) : run Tryz.prog ext (.call 117 [tmV x, .c (.ptr 0 0)] (On [])) = some (.ret [] (On [x.s])) := by
  cases h2 : (x.op == 2) with
  | true =>
    (rw [run_eq]; simp only [stepA, hx, Tryz.func117, Tryz.f117, show retF 117 = false from rfl]; simp only [List.length_cons, List.length_nil, Nat.reduceAdd, Nat.reduceLeDiff, Nat.zero_le, ↓reduceIte, List.zipIdx_cons, List.zipIdx_nil, List.map_cons, List.map_nil])
    simp only [tmV, tmC, dV, sV, bV, On_nil, On_cons, List.map_nil, listD_n1, stD_eq] at hr ⊢
    simp only [zS, nilEq, wantedA, opA, eff, boxA, cells, ev, gt, pt, putO, updO, setO, okC, loadA, cutC, fieldAddrA, fieldA, indexAddrA, indexA, builtinA, callOpA, callV, target, ptrV, lenS, binA, intOp, strOp, unA, num, lk, over, allocA, pickA, buildA, fillA, convertA, extractA, ofComp, nilCheckA, makeFuncA, ptrs, ofValue, cellB, Nat.reduceAdd, Nat.reduceSub, Nat.reduceMul, Nat.reduceLT, Nat.reduceLeDiff, Nat.reduceGT, ↓reduceIte, Nat.reduceEqDiff, Nat.reduceBEq, reduceCtorEq, Int.reduceBEq, Int.reduceBNe, Int.reduceLT, Int.reduceLE, Int.reduceGT, Int.reduceGE, aggT_33, sizeT_33, bytesT_33, fieldT_33_0, fieldT_33_1, fieldT_33_2, fieldT_33_3, fieldT_33_4, placesT_33, zeroT_33, aggT_52, sizeT_52, bytesT_52, und_52, elemT_52, isSliceT_52, zero1_52, zeroT_52, aggT_9, sizeT_9, bytesT_9, und_9, zero1_9, zeroT_9, aggT_3, sizeT_3, bytesT_3, und_3, zero1_3, zeroT_3, h2, hr, bsSt, no52, apH_arr, Nat.zero_le]
    (refine Eq.trans ?_ rfl; kernel_rfl)
  | false =>
  cases h26 : (x.op == 26) with
  | true =>
    (rw [run_eq]; simp only [stepA, hx, Tryz.func117, Tryz.f117, show retF 117 = false from rfl]; simp only [List.length_cons, List.length_nil, Nat.reduceAdd, Nat.reduceLeDiff, Nat.zero_le, ↓reduceIte, List.zipIdx_cons, List.zipIdx_nil, List.map_cons, List.map_nil])
    simp only [tmV, tmC, dV, sV, bV, On_nil, On_cons, List.map_nil, listD_n1, stD_eq] at hr ⊢
    simp only [zS, nilEq, wantedA, opA, eff, boxA, cells, ev, gt, pt, putO, updO, setO, okC, loadA, cutC, fieldAddrA, fieldA, indexAddrA, indexA, builtinA, callOpA, callV, target, ptrV, lenS, binA, intOp, strOp, unA, num, lk, over, allocA, pickA, buildA, fillA, convertA, extractA, ofComp, nilCheckA, makeFuncA, ptrs, ofValue, cellB, Nat.reduceAdd, Nat.reduceSub, Nat.reduceMul, Nat.reduceLT, Nat.reduceLeDiff, Nat.reduceGT, ↓reduceIte, Nat.reduceEqDiff, Nat.reduceBEq, reduceCtorEq, Int.reduceBEq, Int.reduceBNe, Int.reduceLT, Int.reduceLE, Int.reduceGT, Int.reduceGE, aggT_33, sizeT_33, bytesT_33, fieldT_33_0, fieldT_33_1, fieldT_33_2, fieldT_33_3, fieldT_33_4, placesT_33, zeroT_33, aggT_52, sizeT_52, bytesT_52, und_52, elemT_52, isSliceT_52, zero1_52, zeroT_52, aggT_9, sizeT_9, bytesT_9, und_9, zero1_9, zeroT_9, aggT_3, sizeT_3, bytesT_3, und_3, zero1_3, zeroT_3, h2, h26, hr, bsSt, no52, apH_arr, Nat.zero_le]
    (refine Eq.trans ?_ rfl; kernel_rfl)
  | false =>
  cases h27 : (x.op == 27) with
  | true =>
    (rw [run_eq]; simp only [stepA, hx, Tryz.func117, Tryz.f117, show retF 117 = false from rfl]; simp only [List.length_cons, List.length_nil, Nat.reduceAdd, Nat.reduceLeDiff, Nat.zero_le, ↓reduceIte, List.zipIdx_cons, List.zipIdx_nil, List.map_cons, List.map_nil])
    simp only [tmV, tmC, dV, sV, bV, On_nil, On_cons, List.map_nil, listD_n1, stD_eq] at hr ⊢
    simp only [zS, nilEq, wantedA, opA, eff, boxA, cells, ev, gt, pt, putO, updO, setO, okC, loadA, cutC, fieldAddrA, fieldA, indexAddrA, indexA, builtinA, callOpA, callV, target, ptrV, lenS, binA, intOp, strOp, unA, num, lk, over, allocA, pickA, buildA, fillA, convertA, extractA, ofComp, nilCheckA, makeFuncA, ptrs, ofValue, cellB, Nat.reduceAdd, Nat.reduceSub, Nat.reduceMul, Nat.reduceLT, Nat.reduceLeDiff, Nat.reduceGT, ↓reduceIte, Nat.reduceEqDiff, Nat.reduceBEq, reduceCtorEq, Int.reduceBEq, Int.reduceBNe, Int.reduceLT, Int.reduceLE, Int.reduceGT, Int.reduceGE, aggT_33, sizeT_33, bytesT_33, fieldT_33_0, fieldT_33_1, fieldT_33_2, fieldT_33_3, fieldT_33_4, placesT_33, zeroT_33, aggT_52, sizeT_52, bytesT_52, und_52, elemT_52, isSliceT_52, zero1_52, zeroT_52, aggT_9, sizeT_9, bytesT_9, und_9, zero1_9, zeroT_9, aggT_3, sizeT_3, bytesT_3, und_3, zero1_3, zeroT_3, h2, h26, h27, hr, bsSt, no52, apH_arr, Nat.zero_le]
    (refine Eq.trans ?_ rfl; kernel_rfl)
  | false =>
    have h28 : (x.op == 28) = true := by simpa [isNmd, h2, h26, h27] using c
    (rw [run_eq]; simp only [stepA, hx, Tryz.func117, Tryz.f117, show retF 117 = false from rfl]; simp only [List.length_cons, List.length_nil, Nat.reduceAdd, Nat.reduceLeDiff, Nat.zero_le, ↓reduceIte, List.zipIdx_cons, List.zipIdx_nil, List.map_cons, List.map_nil])
    simp only [tmV, tmC, dV, sV, bV, On_nil, On_cons, List.map_nil, listD_n1, stD_eq] at hr ⊢
    simp only [zS, nilEq, wantedA, opA, eff, boxA, cells, ev, gt, pt, putO, updO, setO, okC, loadA, cutC, fieldAddrA, fieldA, indexAddrA, indexA, builtinA, callOpA, callV, target, ptrV, lenS, binA, intOp, strOp, unA, num, lk, over, allocA, pickA, buildA, fillA, convertA, extractA, ofComp, nilCheckA, makeFuncA, ptrs, ofValue, cellB, Nat.reduceAdd, Nat.reduceSub, Nat.reduceMul, Nat.reduceLT, Nat.reduceLeDiff, Nat.reduceGT, ↓reduceIte, Nat.reduceEqDiff, Nat.reduceBEq, reduceCtorEq, Int.reduceBEq, Int.reduceBNe, Int.reduceLT, Int.reduceLE, Int.reduceGT, Int.reduceGE, aggT_33, sizeT_33, bytesT_33, fieldT_33_0, fieldT_33_1, fieldT_33_2, fieldT_33_3, fieldT_33_4, placesT_33, zeroT_33, aggT_52, sizeT_52, bytesT_52, und_52, elemT_52, isSliceT_52, zero1_52, zeroT_52, aggT_9, sizeT_9, bytesT_9, und_9, zero1_9, zeroT_9, aggT_3, sizeT_3, bytesT_3, und_3, zero1_3, zeroT_3, h2, h26, h27, h28, hr, bsSt, no52, apH_arr, Nat.zero_le]
    (refine Eq.trans ?_ rfl; kernel_rfl)
theorem cons117h (hx : ext 117 = none) (x : Tm) (a : ByteArray) (r : List ByteArray) (c : isNmd x = true) (hr : run Tryz.prog ext (.call 118 [dV (.s 1 (stD a :: r.map stD)), sV x.s] []) = some (.ret [bV true] [])) : run Tryz.prog ext (.call 117 [tmV x, .c (.ptr 0 0)] (On (a :: r))) = some (.ret [] (On (a :: r))) := by
  have hC := fun o0 o2 slot => call118 (run Tryz.prog ext) o0 o2 (stD a) (r.map stD) x.s true slot hr
  cases h2 : (x.op == 2) with
  | true =>
    (rw [run_eq]; simp only [stepA, hx, Tryz.func117, Tryz.f117, show retF 117 = false from rfl]; simp only [List.length_cons, List.length_nil, Nat.reduceAdd, Nat.reduceLeDiff, Nat.zero_le, ↓reduceIte, List.zipIdx_cons, List.zipIdx_nil, List.map_cons, List.map_nil])
    simp only [tmV, tmC, dV, sV, bV, On_cons] at hC ⊢
    simp only [zS, nilEq, wantedA, opA, eff, boxA, cells, ev, gt, pt, putO, updO, setO, okC, loadA, cutC, fieldAddrA, fieldA, indexAddrA, indexA, builtinA, callOpA, callV, target, ptrV, lenS, binA, intOp, strOp, unA, num, lk, over, allocA, pickA, buildA, fillA, convertA, extractA, ofComp, nilCheckA, makeFuncA, ptrs, ofValue, cellB, Nat.reduceAdd, Nat.reduceSub, Nat.reduceMul, Nat.reduceLT, Nat.reduceLeDiff, Nat.reduceGT, ↓reduceIte, Nat.reduceEqDiff, Nat.reduceBEq, reduceCtorEq, Int.reduceBEq, Int.reduceBNe, Int.reduceLT, Int.reduceLE, Int.reduceGT, Int.reduceGE, aggT_33, sizeT_33, bytesT_33, fieldT_33_0, fieldT_33_1, fieldT_33_2, fieldT_33_3, fieldT_33_4, placesT_33, zeroT_33, aggT_52, sizeT_52, bytesT_52, und_52, elemT_52, isSliceT_52, zero1_52, zeroT_52, aggT_9, sizeT_9, bytesT_9, und_9, zero1_9, zeroT_9, aggT_3, sizeT_3, bytesT_3, und_3, zero1_3, zeroT_3, h2, hC]
    (refine Eq.trans ?_ rfl; kernel_rfl)
  | false =>
  cases h26 : (x.op == 26) with
  | true =>
    (rw [run_eq]; simp only [stepA, hx, Tryz.func117, Tryz.f117, show retF 117 = false from rfl]; simp only [List.length_cons, List.length_nil, Nat.reduceAdd, Nat.reduceLeDiff, Nat.zero_le, ↓reduceIte, List.zipIdx_cons, List.zipIdx_nil, List.map_cons, List.map_nil])
    simp only [tmV, tmC, dV, sV, bV, On_cons] at hC ⊢
    simp only [zS, nilEq, wantedA, opA, eff, boxA, cells, ev, gt, pt, putO, updO, setO, okC, loadA, cutC, fieldAddrA, fieldA, indexAddrA, indexA, builtinA, callOpA, callV, target, ptrV, lenS, binA, intOp, strOp, unA, num, lk, over, allocA, pickA, buildA, fillA, convertA, extractA, ofComp, nilCheckA, makeFuncA, ptrs, ofValue, cellB, Nat.reduceAdd, Nat.reduceSub, Nat.reduceMul, Nat.reduceLT, Nat.reduceLeDiff, Nat.reduceGT, ↓reduceIte, Nat.reduceEqDiff, Nat.reduceBEq, reduceCtorEq, Int.reduceBEq, Int.reduceBNe, Int.reduceLT, Int.reduceLE, Int.reduceGT, Int.reduceGE, aggT_33, sizeT_33, bytesT_33, fieldT_33_0, fieldT_33_1, fieldT_33_2, fieldT_33_3, fieldT_33_4, placesT_33, zeroT_33, aggT_52, sizeT_52, bytesT_52, und_52, elemT_52, isSliceT_52, zero1_52, zeroT_52, aggT_9, sizeT_9, bytesT_9, und_9, zero1_9, zeroT_9, aggT_3, sizeT_3, bytesT_3, und_3, zero1_3, zeroT_3, h2, h26, hC]
    (refine Eq.trans ?_ rfl; kernel_rfl)
  | false =>
  cases h27 : (x.op == 27) with
  | true =>
    (rw [run_eq]; simp only [stepA, hx, Tryz.func117, Tryz.f117, show retF 117 = false from rfl]; simp only [List.length_cons, List.length_nil, Nat.reduceAdd, Nat.reduceLeDiff, Nat.zero_le, ↓reduceIte, List.zipIdx_cons, List.zipIdx_nil, List.map_cons, List.map_nil])
    simp only [tmV, tmC, dV, sV, bV, On_cons] at hC ⊢
    simp only [zS, nilEq, wantedA, opA, eff, boxA, cells, ev, gt, pt, putO, updO, setO, okC, loadA, cutC, fieldAddrA, fieldA, indexAddrA, indexA, builtinA, callOpA, callV, target, ptrV, lenS, binA, intOp, strOp, unA, num, lk, over, allocA, pickA, buildA, fillA, convertA, extractA, ofComp, nilCheckA, makeFuncA, ptrs, ofValue, cellB, Nat.reduceAdd, Nat.reduceSub, Nat.reduceMul, Nat.reduceLT, Nat.reduceLeDiff, Nat.reduceGT, ↓reduceIte, Nat.reduceEqDiff, Nat.reduceBEq, reduceCtorEq, Int.reduceBEq, Int.reduceBNe, Int.reduceLT, Int.reduceLE, Int.reduceGT, Int.reduceGE, aggT_33, sizeT_33, bytesT_33, fieldT_33_0, fieldT_33_1, fieldT_33_2, fieldT_33_3, fieldT_33_4, placesT_33, zeroT_33, aggT_52, sizeT_52, bytesT_52, und_52, elemT_52, isSliceT_52, zero1_52, zeroT_52, aggT_9, sizeT_9, bytesT_9, und_9, zero1_9, zeroT_9, aggT_3, sizeT_3, bytesT_3, und_3, zero1_3, zeroT_3, h2, h26, h27, hC]
    (refine Eq.trans ?_ rfl; kernel_rfl)
  | false =>
    have h28 : (x.op == 28) = true := by simpa [isNmd, h2, h26, h27] using c
    (rw [run_eq]; simp only [stepA, hx, Tryz.func117, Tryz.f117, show retF 117 = false from rfl]; simp only [List.length_cons, List.length_nil, Nat.reduceAdd, Nat.reduceLeDiff, Nat.zero_le, ↓reduceIte, List.zipIdx_cons, List.zipIdx_nil, List.map_cons, List.map_nil])
    simp only [tmV, tmC, dV, sV, bV, On_cons] at hC ⊢
    simp only [zS, nilEq, wantedA, opA, eff, boxA, cells, ev, gt, pt, putO, updO, setO, okC, loadA, cutC, fieldAddrA, fieldA, indexAddrA, indexA, builtinA, callOpA, callV, target, ptrV, lenS, binA, intOp, strOp, unA, num, lk, over, allocA, pickA, buildA, fillA, convertA, extractA, ofComp, nilCheckA, makeFuncA, ptrs, ofValue, cellB, Nat.reduceAdd, Nat.reduceSub, Nat.reduceMul, Nat.reduceLT, Nat.reduceLeDiff, Nat.reduceGT, ↓reduceIte, Nat.reduceEqDiff, Nat.reduceBEq, reduceCtorEq, Int.reduceBEq, Int.reduceBNe, Int.reduceLT, Int.reduceLE, Int.reduceGT, Int.reduceGE, aggT_33, sizeT_33, bytesT_33, fieldT_33_0, fieldT_33_1, fieldT_33_2, fieldT_33_3, fieldT_33_4, placesT_33, zeroT_33, aggT_52, sizeT_52, bytesT_52, und_52, elemT_52, isSliceT_52, zero1_52, zeroT_52, aggT_9, sizeT_9, bytesT_9, und_9, zero1_9, zeroT_9, aggT_3, sizeT_3, bytesT_3, und_3, zero1_3, zeroT_3, h2, h26, h27, h28, hC]
    (refine Eq.trans ?_ rfl; kernel_rfl)
theorem cons117n (hx : ext 117 = none) (x : Tm) (a : ByteArray) (r : List ByteArray) (hb : r.length < 2 ^ 28) (c : isNmd x = true) (hr : run Tryz.prog ext (.call 118 [dV (.s 1 (stD a :: r.map stD)), sV x.s] []) = some (.ret [bV false] [])) : run Tryz.prog ext (.call 117 [tmV x, .c (.ptr 0 0)] (On (a :: r))) = some (.ret [] (Ox true (a :: r ++ [x.s]))) := by
  have hb' : r.length + 1 ≤ 1000000000 := by omega
  have hC := fun o0 o2 slot => call118 (run Tryz.prog ext) o0 o2 (stD a) (r.map stD) x.s false slot hr
  cases h2 : (x.op == 2) with
  | true =>
    (rw [run_eq]; simp only [stepA, hx, Tryz.func117, Tryz.f117, show retF 117 = false from rfl]; simp only [List.length_cons, List.length_nil, Nat.reduceAdd, Nat.reduceLeDiff, Nat.zero_le, ↓reduceIte, List.zipIdx_cons, List.zipIdx_nil, List.map_cons, List.map_nil])
    simp only [tmV, tmC, dV, sV, bV, On_cons, Ox, List.map_append, List.map_cons, List.map_nil, List.cons_append, stD_eq x.s] at hC ⊢
    simp only [zS, nilEq, wantedA, opA, eff, boxA, cells, ev, gt, pt, putO, updO, setO, okC, loadA, cutC, fieldAddrA, fieldA, indexAddrA, indexA, builtinA, callOpA, callV, target, ptrV, lenS, binA, intOp, strOp, unA, num, lk, over, allocA, pickA, buildA, fillA, convertA, extractA, ofComp, nilCheckA, makeFuncA, ptrs, ofValue, cellB, Nat.reduceAdd, Nat.reduceSub, Nat.reduceMul, Nat.reduceLT, Nat.reduceLeDiff, Nat.reduceGT, ↓reduceIte, Nat.reduceEqDiff, Nat.reduceBEq, reduceCtorEq, Int.reduceBEq, Int.reduceBNe, Int.reduceLT, Int.reduceLE, Int.reduceGT, Int.reduceGE, aggT_33, sizeT_33, bytesT_33, fieldT_33_0, fieldT_33_1, fieldT_33_2, fieldT_33_3, fieldT_33_4, placesT_33, zeroT_33, aggT_52, sizeT_52, bytesT_52, und_52, elemT_52, isSliceT_52, zero1_52, zeroT_52, aggT_9, sizeT_9, bytesT_9, und_9, zero1_9, zeroT_9, aggT_3, sizeT_3, bytesT_3, und_3, zero1_3, zeroT_3, h2, hC, bsSt, oo52, apG_arr, hb']
    (refine Eq.trans ?_ rfl; kernel_rfl)
  | false =>
  cases h26 : (x.op == 26) with
  | true =>
    (rw [run_eq]; simp only [stepA, hx, Tryz.func117, Tryz.f117, show retF 117 = false from rfl]; simp only [List.length_cons, List.length_nil, Nat.reduceAdd, Nat.reduceLeDiff, Nat.zero_le, ↓reduceIte, List.zipIdx_cons, List.zipIdx_nil, List.map_cons, List.map_nil])
    simp only [tmV, tmC, dV, sV, bV, On_cons, Ox, List.map_append, List.map_cons, List.map_nil, List.cons_append, stD_eq x.s] at hC ⊢
    simp only [zS, nilEq, wantedA, opA, eff, boxA, cells, ev, gt, pt, putO, updO, setO, okC, loadA, cutC, fieldAddrA, fieldA, indexAddrA, indexA, builtinA, callOpA, callV, target, ptrV, lenS, binA, intOp, strOp, unA, num, lk, over, allocA, pickA, buildA, fillA, convertA, extractA, ofComp, nilCheckA, makeFuncA, ptrs, ofValue, cellB, Nat.reduceAdd, Nat.reduceSub, Nat.reduceMul, Nat.reduceLT, Nat.reduceLeDiff, Nat.reduceGT, ↓reduceIte, Nat.reduceEqDiff, Nat.reduceBEq, reduceCtorEq, Int.reduceBEq, Int.reduceBNe, Int.reduceLT, Int.reduceLE, Int.reduceGT, Int.reduceGE, aggT_33, sizeT_33, bytesT_33, fieldT_33_0, fieldT_33_1, fieldT_33_2, fieldT_33_3, fieldT_33_4, placesT_33, zeroT_33, aggT_52, sizeT_52, bytesT_52, und_52, elemT_52, isSliceT_52, zero1_52, zeroT_52, aggT_9, sizeT_9, bytesT_9, und_9, zero1_9, zeroT_9, aggT_3, sizeT_3, bytesT_3, und_3, zero1_3, zeroT_3, h2, h26, hC, bsSt, oo52, apG_arr, hb']
    (refine Eq.trans ?_ rfl; kernel_rfl)
  | false =>
  cases h27 : (x.op == 27) with
  | true =>
    (rw [run_eq]; simp only [stepA, hx, Tryz.func117, Tryz.f117, show retF 117 = false from rfl]; simp only [List.length_cons, List.length_nil, Nat.reduceAdd, Nat.reduceLeDiff, Nat.zero_le, ↓reduceIte, List.zipIdx_cons, List.zipIdx_nil, List.map_cons, List.map_nil])
    simp only [tmV, tmC, dV, sV, bV, On_cons, Ox, List.map_append, List.map_cons, List.map_nil, List.cons_append, stD_eq x.s] at hC ⊢
    simp only [zS, nilEq, wantedA, opA, eff, boxA, cells, ev, gt, pt, putO, updO, setO, okC, loadA, cutC, fieldAddrA, fieldA, indexAddrA, indexA, builtinA, callOpA, callV, target, ptrV, lenS, binA, intOp, strOp, unA, num, lk, over, allocA, pickA, buildA, fillA, convertA, extractA, ofComp, nilCheckA, makeFuncA, ptrs, ofValue, cellB, Nat.reduceAdd, Nat.reduceSub, Nat.reduceMul, Nat.reduceLT, Nat.reduceLeDiff, Nat.reduceGT, ↓reduceIte, Nat.reduceEqDiff, Nat.reduceBEq, reduceCtorEq, Int.reduceBEq, Int.reduceBNe, Int.reduceLT, Int.reduceLE, Int.reduceGT, Int.reduceGE, aggT_33, sizeT_33, bytesT_33, fieldT_33_0, fieldT_33_1, fieldT_33_2, fieldT_33_3, fieldT_33_4, placesT_33, zeroT_33, aggT_52, sizeT_52, bytesT_52, und_52, elemT_52, isSliceT_52, zero1_52, zeroT_52, aggT_9, sizeT_9, bytesT_9, und_9, zero1_9, zeroT_9, aggT_3, sizeT_3, bytesT_3, und_3, zero1_3, zeroT_3, h2, h26, h27, hC, bsSt, oo52, apG_arr, hb']
    (refine Eq.trans ?_ rfl; kernel_rfl)
  | false =>
    have h28 : (x.op == 28) = true := by simpa [isNmd, h2, h26, h27] using c
    (rw [run_eq]; simp only [stepA, hx, Tryz.func117, Tryz.f117, show retF 117 = false from rfl]; simp only [List.length_cons, List.length_nil, Nat.reduceAdd, Nat.reduceLeDiff, Nat.zero_le, ↓reduceIte, List.zipIdx_cons, List.zipIdx_nil, List.map_cons, List.map_nil])
    simp only [tmV, tmC, dV, sV, bV, On_cons, Ox, List.map_append, List.map_cons, List.map_nil, List.cons_append, stD_eq x.s] at hC ⊢
    simp only [zS, nilEq, wantedA, opA, eff, boxA, cells, ev, gt, pt, putO, updO, setO, okC, loadA, cutC, fieldAddrA, fieldA, indexAddrA, indexA, builtinA, callOpA, callV, target, ptrV, lenS, binA, intOp, strOp, unA, num, lk, over, allocA, pickA, buildA, fillA, convertA, extractA, ofComp, nilCheckA, makeFuncA, ptrs, ofValue, cellB, Nat.reduceAdd, Nat.reduceSub, Nat.reduceMul, Nat.reduceLT, Nat.reduceLeDiff, Nat.reduceGT, ↓reduceIte, Nat.reduceEqDiff, Nat.reduceBEq, reduceCtorEq, Int.reduceBEq, Int.reduceBNe, Int.reduceLT, Int.reduceLE, Int.reduceGT, Int.reduceGE, aggT_33, sizeT_33, bytesT_33, fieldT_33_0, fieldT_33_1, fieldT_33_2, fieldT_33_3, fieldT_33_4, placesT_33, zeroT_33, aggT_52, sizeT_52, bytesT_52, und_52, elemT_52, isSliceT_52, zero1_52, zeroT_52, aggT_9, sizeT_9, bytesT_9, und_9, zero1_9, zeroT_9, aggT_3, sizeT_3, bytesT_3, und_3, zero1_3, zeroT_3, h2, h26, h27, h28, hC, bsSt, oo52, apG_arr, hb']
    (refine Eq.trans ?_ rfl; kernel_rfl)
/-- What the closure does to the names: g: they lie in a new array. -/
def chg (l l' : List ByteArray) (g : Bool) : Prop := (g = false → l = [] ∨ l' = l) ∧ (g = true → l ≠ [])
theorem clo117 (hx : ext 117 = none) (h118 : ext 118 = none) (h186 : ext 186 = none) (x : Tm) (l : List ByteArray) (hb : l.length < 2 ^ 28) : ∃ g, chg l (nm1 l x) g ∧ run Tryz.prog ext (.call 117 [tmV x, .c (.ptr 0 0)] (On l)) = some (.ret [] (Ox g (nm1 l x))) := by
  unfold nm1
  cases c : isNmd x with
  | false => exact ⟨false, ⟨fun _ => .inr rfl, fun h => (by cases h)⟩, skip117 ext hx x l c⟩
  | true =>
    have hr := contains118 ext h118 h186 true l x.s (by omega)
    have e : (l.any fun a => x.s.toList == a.toList) = hasN l x.s := rfl
    rw [e] at hr
    cases l with
    | nil =>
      have : hasN [] x.s = false := rfl
      rw [this] at hr ⊢
      exact ⟨false, ⟨fun _ => .inl rfl, fun h => (by cases h)⟩, nil117n ext hx x c hr⟩
    | cons a r =>
      rw [List.map_cons, listD_t1] at hr
      cases d : hasN (a :: r) x.s with
      | true => rw [d] at hr; exact ⟨false, ⟨fun _ => .inr rfl, fun h => (by cases h)⟩, cons117h ext hx x a r c hr⟩
      | false => rw [d] at hr; exact ⟨true, ⟨fun h => (by cases h), fun _ => by simp⟩, cons117n ext hx x a r (by simp at hb; omega) c hr⟩
end Go.Proofs.YteenjodhmppgjaaGreatDoor.Am
end
section
/- The names in a term, by the program: each, Names. -/
namespace Go.Proofs.YteenjodhmppgjaaGreatDoor.Am
open Go
variable (ext : Ext)
set_option maxHeartbeats 8000000
set_option maxRecDepth 4000
def nms (l : List ByteArray) : Tm → List ByteArray
  | .mk op n s u zu ls zl => nmss (nm1 l (.mk op n s u zu ls zl)) ls
where nmss (l : List ByteArray) : List Tm → List ByteArray
  | [] => l
  | x :: r => nmss (nms l x) r
theorem nmss_eq : ∀ (ls : List Tm) (l : List ByteArray), nms.nmss l ls = ls.foldl nms l
  | [], l => rfl
  | x :: r, l => by rw [nms.nmss, nmss_eq r]; rfl
theorem nms_eq (l : List ByteArray) (x : Tm) : nms l x = x.l.foldl nms (nm1 l x) := by cases x; simp only [nms, nmss_eq, Tm.l]
theorem nm1_ne {l : List ByteArray} (x : Tm) (h : l ≠ []) : nm1 l x ≠ [] := by
  unfold nm1; split
  · simp
  · exact h
theorem fold_ne {f : List ByteArray → Tm → List ByteArray} : ∀ (ls : List Tm) (l : List ByteArray), (∀ x ∈ ls, ∀ l, l ≠ [] → f l x ≠ []) → l ≠ [] → ls.foldl f l ≠ []
  | [], _, _, h => h
  | x :: r, l, hf, h => fold_ne r (f l x) (fun y hy => hf y (List.mem_cons_of_mem _ hy)) (hf x List.mem_cons_self l h)
theorem nms_ne : ∀ (N : Nat) (x : Tm), x.sz ≤ N → ∀ l, l ≠ [] → nms l x ≠ []
  | 0, x, h, _, _ => by have := x.sz_pos; omega
  | N + 1, x, h, l, hl => by
    rw [nms_eq]
    exact fold_ne x.l _ (fun y hy => nms_ne N y (by have := Tm.sz_lt hy; omega)) (nm1_ne x hl)
theorem nm1_len (l : List ByteArray) (x : Tm) : (nm1 l x).length ≤ l.length + 1 := by
  unfold nm1; split <;> simp
theorem fold_len {f : List ByteArray → Tm → List ByteArray} : ∀ (ls : List Tm) (l : List ByteArray), (∀ x ∈ ls, ∀ l, (f l x).length ≤ l.length + x.sz) → (ls.foldl f l).length ≤ l.length + (ls.map Tm.sz).sum
  | [], _, _ => by simp
  | x :: r, l, hf => by
    have h1 := fold_len r (f l x) (fun y hy => hf y (List.mem_cons_of_mem _ hy))
    have h2 := hf x List.mem_cons_self l
    simp only [List.foldl_cons, List.map_cons, List.sum_cons]; omega
theorem nms_len : ∀ (N : Nat) (x : Tm), x.sz ≤ N → ∀ l, (nms l x).length ≤ l.length + x.sz
  | 0, x, h, _ => by have := x.sz_pos; omega
  | N + 1, x, h, l => by
    rw [nms_eq]
    have h1 := fold_len x.l (nm1 l x) (fun y hy => nms_len N y (by have := Tm.sz_lt hy; omega))
    have h2 := nm1_len l x
    have h3 := x.sz_eq
    omega
/-- A loop with an invariant of its state. -/
theorem loop_inv {α σ : Type} (l : List α) (S : Int → σ → Option Out) (I : Nat → σ → Prop) (Q : Option Out → Prop) (hl : l.length < 2 ^ 50)
    (hstep : ∀ (k : Nat) (x : α) (s : σ), I k s → l[k]? = some x → (k : Int) < l.length → ∃ s', I (k + 1) s' ∧ ∀ out, S (wr ((k : Int) + 1)) s' = out → S k s = out)
    (hdone : ∀ s, I l.length s → Q (S l.length s)) (s0 : σ) (h0 : I 0 s0) : Q (S 0 s0) := by
  have key : ∀ (m k : Nat) (s : σ), k + m = l.length → I k s → Q (S k s) := by
    intro m
    induction m with
    | zero => intro k s hk hI; rw [show k = l.length by omega] at hI ⊢; exact hdone s hI
    | succ m ih =>
      intro k s hk hI
      have hlt : k < l.length := by omega
      obtain ⟨s', h1, h2⟩ := hstep k l[k] s hI (by simp [hlt]) (by omega)
      have hw : wr ((k : Int) + 1) = ((k + 1 : Nat) : Int) := by rw [wr_id (by omega) (by omega)]; omega
      rw [h2 _ rfl, hw]
      exact ih (k + 1) s' (by omega) h1
  exact key l.length 0 s0 (by omega) h0
section
variable (rec : Rec) (y : Tm) (o1 : O)
theorem cA117 (slot : Nat) (hr : rec (.call 117 [tmV y, .c (.ptr 0 0)] (On [])) = some (.ret [] (On []))) : callA rec (lk [.box [.d (.v (.slice none 0 0))], o1]) slot 117 [tmV y, .c (.ptr 0 0)] = some ⟨.val (.tup []), [(0, .box [.d (.v (.slice none 0 0))])], [0]⟩ :=
  callA_of (ids := [0]) (bor := []) (by kernel_rfl) hr (by kernel_rfl)
theorem cB117 (slot : Nat) (b : ByteArray) (q : List ByteArray) (hr : rec (.call 117 [tmV y, .c (.ptr 0 0)] (On [])) = some (.ret [] (On (b :: q)))) : callA rec (lk [.box [.d (.v (.slice none 0 0))], o1]) slot 117 [tmV y, .c (.ptr 0 0)] = some ⟨.val (.tup []), [(0, .box [.own slot]), (slot, .arr 1 (stD b :: q.map stD))], [0]⟩ :=
  callA_of (ids := [0]) (bor := []) (by kernel_rfl) hr (by simp [answer, On_cons, mapO, renV, renO, renC, back, number, results1, kills])
theorem cC117 (slot : Nat) (a : ByteArray) (r : List ByteArray) (hr : rec (.call 117 [tmV y, .c (.ptr 0 0)] (On (a :: r))) = some (.ret [] (On (a :: r)))) : callA rec (lk [.box [.own 1], .arr 1 (stD a :: r.map stD), o1]) slot 117 [tmV y, .c (.ptr 0 0)] = some ⟨.val (.tup []), [(0, .box [.own 1]), (1, .arr 1 (stD a :: r.map stD))], [0, 1]⟩ :=
  callA_of (ids := [0, 1]) (bor := []) (by kernel_rfl) hr (by kernel_rfl)
theorem cD117 (slot : Nat) (a b : ByteArray) (r q : List ByteArray) (hr : rec (.call 117 [tmV y, .c (.ptr 0 0)] (On (a :: r))) = some (.ret [] (Ox true (b :: q)))) : callA rec (lk [.box [.own 1], .arr 1 (stD a :: r.map stD), o1]) slot 117 [tmV y, .c (.ptr 0 0)] = some ⟨.val (.tup []), [(0, .box [.own slot]), (1, .gone), (slot, .arr 1 (stD b :: q.map stD))], [0, 1]⟩ :=
  callA_of (ids := [0, 1]) (bor := []) (by kernel_rfl) hr (by simp [answer, Ox, mapO, renV, renO, renC, back, number, results1, kills])
end
section
variable (rec : Rec) (y : Tm) (o1 : O)
theorem cA116 (slot : Nat) (hr : rec (.call 116 [tmV y, .c (.fn 117 [] [0])] (On [])) = some (.ret [] (On []))) : callA rec (lk [.box [.d (.v (.slice none 0 0))], o1]) slot 116 [tmV y, .c (.fn 117 [] [0])] = some ⟨.val (.tup []), [(0, .box [.d (.v (.slice none 0 0))])], [0]⟩ :=
  callA_of (ids := [0]) (bor := []) (by kernel_rfl) hr (by kernel_rfl)
theorem cB116 (slot : Nat) (b : ByteArray) (q : List ByteArray) (hr : rec (.call 116 [tmV y, .c (.fn 117 [] [0])] (On [])) = some (.ret [] (On (b :: q)))) : callA rec (lk [.box [.d (.v (.slice none 0 0))], o1]) slot 116 [tmV y, .c (.fn 117 [] [0])] = some ⟨.val (.tup []), [(0, .box [.own slot]), (slot, .arr 1 (stD b :: q.map stD))], [0]⟩ :=
  callA_of (ids := [0]) (bor := []) (by kernel_rfl) hr (by simp [answer, On_cons, mapO, renV, renO, renC, back, number, results1, kills])
theorem cC116 (slot : Nat) (a : ByteArray) (r : List ByteArray) (hr : rec (.call 116 [tmV y, .c (.fn 117 [] [0])] (On (a :: r))) = some (.ret [] (On (a :: r)))) : callA rec (lk [.box [.own 1], .arr 1 (stD a :: r.map stD), o1]) slot 116 [tmV y, .c (.fn 117 [] [0])] = some ⟨.val (.tup []), [(0, .box [.own 1]), (1, .arr 1 (stD a :: r.map stD))], [0, 1]⟩ :=
  callA_of (ids := [0, 1]) (bor := []) (by kernel_rfl) hr (by kernel_rfl)
theorem cD116 (slot : Nat) (a b : ByteArray) (r q : List ByteArray) (hr : rec (.call 116 [tmV y, .c (.fn 117 [] [0])] (On (a :: r))) = some (.ret [] (Ox true (b :: q)))) : callA rec (lk [.box [.own 1], .arr 1 (stD a :: r.map stD), o1]) slot 116 [tmV y, .c (.fn 117 [] [0])] = some ⟨.val (.tup []), [(0, .box [.own slot]), (1, .gone), (slot, .arr 1 (stD b :: q.map stD))], [0, 1]⟩ :=
  callA_of (ids := [0, 1]) (bor := []) (by kernel_rfl) hr (by simp [answer, Ox, mapO, renV, renO, renC, back, number, results1, kills])
theorem cE116 (slot : Nat) (a : ByteArray) (r : List ByteArray) (hr : rec (.call 116 [tmV y, .c (.fn 117 [] [0])] (On (a :: r))) = some (.ret [] (On (a :: r)))) : callA rec (lk [.box [.own 2], .gone, .arr 1 (stD a :: r.map stD), o1]) slot 116 [tmV y, .c (.fn 117 [] [0])] = some ⟨.val (.tup []), [(0, .box [.own 2]), (2, .arr 1 (stD a :: r.map stD))], [0, 2]⟩ :=
  callA_of (ids := [0, 2]) (bor := []) (by kernel_rfl) hr (by kernel_rfl)
theorem cF116 (slot : Nat) (a b : ByteArray) (r q : List ByteArray) (hr : rec (.call 116 [tmV y, .c (.fn 117 [] [0])] (On (a :: r))) = some (.ret [] (Ox true (b :: q)))) : callA rec (lk [.box [.own 2], .gone, .arr 1 (stD a :: r.map stD), o1]) slot 116 [tmV y, .c (.fn 117 [] [0])] = some ⟨.val (.tup []), [(0, .box [.own slot]), (2, .gone), (slot, .arr 1 (stD b :: q.map stD))], [0, 2]⟩ :=
  callA_of (ids := [0, 2]) (bor := []) (by kernel_rfl) hr (by simp [answer, Ox, mapO, renV, renO, renC, back, number, results1, kills])
end
def E116 (x : Tm) (k : Int) : Env := [(1, .c (.fn 117 [] [0])), (10, dV x.lD), (11, iV x.l.length), (12, iV k)]
theorem en116a (hx : ext 116 = none) (x : Tm)  (hr : run Tryz.prog ext (.call 117 [tmV x, .c (.ptr 0 0)] (On [])) = some (.ret [] (On []))) (out : Option Out) (h : H116a ext 1 (E116 x 0) (On []) = out) : run Tryz.prog ext (.call 116 [tmV x, .c (.fn 117 [] [0])] (On [])) = out := by
  have hC := fun o1 slot => cA117 (run Tryz.prog ext) x o1 slot hr
  unfold H116a at h
  (rw [run_eq]; simp only [stepA, hx, Tryz.func116, Tryz.f116, show retF 116 = false from rfl]; simp only [List.length_cons, List.length_nil, Nat.reduceAdd, Nat.reduceLeDiff, Nat.zero_le, ↓reduceIte, List.zipIdx_cons, List.zipIdx_nil, List.map_cons, List.map_nil])
  simp only [tmV, tmC, dV, iV, E116, On_nil, On_cons, Ox, List.map_cons] at hC h ⊢
  simp only [zS, nilEq, wantedA, opA, eff, boxA, cells, ev, gt, pt, putO, updO, setO, okC, loadA, cutC, fieldAddrA, fieldA, indexAddrA, indexA, builtinA, callOpA, callV, target, ptrV, lenS, binA, intOp, strOp, unA, num, lk, over, allocA, pickA, buildA, fillA, convertA, extractA, ofComp, nilCheckA, makeFuncA, ptrs, ofValue, cellB, Nat.reduceAdd, Nat.reduceSub, Nat.reduceMul, Nat.reduceLT, Nat.reduceLeDiff, Nat.reduceGT, ↓reduceIte, Nat.reduceEqDiff, Nat.reduceBEq, reduceCtorEq, Int.reduceBEq, Int.reduceBNe, Int.reduceLT, Int.reduceLE, Int.reduceGT, Int.reduceGE, aggT_33, sizeT_33, bytesT_33, fieldT_33_0, fieldT_33_1, fieldT_33_2, fieldT_33_3, fieldT_33_4, placesT_33, zeroT_33, aggT_31, sizeT_31, bytesT_31, und_31, elemT_31, isSliceT_31, zero1_31, zeroT_31, aggT_76, sizeT_76, bytesT_76, zero1_76, zeroT_76, aggT_3, sizeT_3, bytesT_3, und_3, zero1_3, zeroT_3, hC, lenA_lD]
  (refine (r_inLoop_some ?_).trans h; kernel_rfl)
theorem en116b (hx : ext 116 = none) (x : Tm) (b : ByteArray) (q : List ByteArray) (hr : run Tryz.prog ext (.call 117 [tmV x, .c (.ptr 0 0)] (On [])) = some (.ret [] (On (b :: q)))) (out : Option Out) (h : H116a ext 1 (E116 x 0) (On (b :: q)) = out) : run Tryz.prog ext (.call 116 [tmV x, .c (.fn 117 [] [0])] (On [])) = out := by
  have hC := fun o1 slot => cB117 (run Tryz.prog ext) x o1 slot b q hr
  unfold H116a at h
  (rw [run_eq]; simp only [stepA, hx, Tryz.func116, Tryz.f116, show retF 116 = false from rfl]; simp only [List.length_cons, List.length_nil, Nat.reduceAdd, Nat.reduceLeDiff, Nat.zero_le, ↓reduceIte, List.zipIdx_cons, List.zipIdx_nil, List.map_cons, List.map_nil])
  simp only [tmV, tmC, dV, iV, E116, On_nil, On_cons, Ox, List.map_cons] at hC h ⊢
  simp only [zS, nilEq, wantedA, opA, eff, boxA, cells, ev, gt, pt, putO, updO, setO, okC, loadA, cutC, fieldAddrA, fieldA, indexAddrA, indexA, builtinA, callOpA, callV, target, ptrV, lenS, binA, intOp, strOp, unA, num, lk, over, allocA, pickA, buildA, fillA, convertA, extractA, ofComp, nilCheckA, makeFuncA, ptrs, ofValue, cellB, Nat.reduceAdd, Nat.reduceSub, Nat.reduceMul, Nat.reduceLT, Nat.reduceLeDiff, Nat.reduceGT, ↓reduceIte, Nat.reduceEqDiff, Nat.reduceBEq, reduceCtorEq, Int.reduceBEq, Int.reduceBNe, Int.reduceLT, Int.reduceLE, Int.reduceGT, Int.reduceGE, aggT_33, sizeT_33, bytesT_33, fieldT_33_0, fieldT_33_1, fieldT_33_2, fieldT_33_3, fieldT_33_4, placesT_33, zeroT_33, aggT_31, sizeT_31, bytesT_31, und_31, elemT_31, isSliceT_31, zero1_31, zeroT_31, aggT_76, sizeT_76, bytesT_76, zero1_76, zeroT_76, aggT_3, sizeT_3, bytesT_3, und_3, zero1_3, zeroT_3, hC, lenA_lD]
  (refine (r_inLoop_some ?_).trans h; kernel_rfl)
theorem en116c (hx : ext 116 = none) (x : Tm) (a : ByteArray) (r : List ByteArray) (hr : run Tryz.prog ext (.call 117 [tmV x, .c (.ptr 0 0)] (On (a :: r))) = some (.ret [] (On (a :: r)))) (out : Option Out) (h : H116a ext 2 (E116 x 0) (Ox false (a :: r)) = out) : run Tryz.prog ext (.call 116 [tmV x, .c (.fn 117 [] [0])] (On (a :: r))) = out := by
  have hC := fun o1 slot => cC117 (run Tryz.prog ext) x o1 slot a r hr
  unfold H116a at h
  (rw [run_eq]; simp only [stepA, hx, Tryz.func116, Tryz.f116, show retF 116 = false from rfl]; simp only [List.length_cons, List.length_nil, Nat.reduceAdd, Nat.reduceLeDiff, Nat.zero_le, ↓reduceIte, List.zipIdx_cons, List.zipIdx_nil, List.map_cons, List.map_nil])
  simp only [tmV, tmC, dV, iV, E116, On_nil, On_cons, Ox, List.map_cons] at hC h ⊢
  simp only [zS, nilEq, wantedA, opA, eff, boxA, cells, ev, gt, pt, putO, updO, setO, okC, loadA, cutC, fieldAddrA, fieldA, indexAddrA, indexA, builtinA, callOpA, callV, target, ptrV, lenS, binA, intOp, strOp, unA, num, lk, over, allocA, pickA, buildA, fillA, convertA, extractA, ofComp, nilCheckA, makeFuncA, ptrs, ofValue, cellB, Nat.reduceAdd, Nat.reduceSub, Nat.reduceMul, Nat.reduceLT, Nat.reduceLeDiff, Nat.reduceGT, ↓reduceIte, Nat.reduceEqDiff, Nat.reduceBEq, reduceCtorEq, Int.reduceBEq, Int.reduceBNe, Int.reduceLT, Int.reduceLE, Int.reduceGT, Int.reduceGE, aggT_33, sizeT_33, bytesT_33, fieldT_33_0, fieldT_33_1, fieldT_33_2, fieldT_33_3, fieldT_33_4, placesT_33, zeroT_33, aggT_31, sizeT_31, bytesT_31, und_31, elemT_31, isSliceT_31, zero1_31, zeroT_31, aggT_76, sizeT_76, bytesT_76, zero1_76, zeroT_76, aggT_3, sizeT_3, bytesT_3, und_3, zero1_3, zeroT_3, hC, lenA_lD]
  (refine (r_inLoop_some ?_).trans h; kernel_rfl)
theorem en116d (hx : ext 116 = none) (x : Tm) (a b : ByteArray) (r q : List ByteArray) (hr : run Tryz.prog ext (.call 117 [tmV x, .c (.ptr 0 0)] (On (a :: r))) = some (.ret [] (Ox true (b :: q)))) (out : Option Out) (h : H116a ext 2 (E116 x 0) (Ox true (b :: q)) = out) : run Tryz.prog ext (.call 116 [tmV x, .c (.fn 117 [] [0])] (On (a :: r))) = out := by
  have hC := fun o1 slot => cD117 (run Tryz.prog ext) x o1 slot a b r q hr
  unfold H116a at h
  (rw [run_eq]; simp only [stepA, hx, Tryz.func116, Tryz.f116, show retF 116 = false from rfl]; simp only [List.length_cons, List.length_nil, Nat.reduceAdd, Nat.reduceLeDiff, Nat.zero_le, ↓reduceIte, List.zipIdx_cons, List.zipIdx_nil, List.map_cons, List.map_nil])
  simp only [tmV, tmC, dV, iV, E116, On_nil, On_cons, Ox, List.map_cons] at hC h ⊢
  simp only [zS, nilEq, wantedA, opA, eff, boxA, cells, ev, gt, pt, putO, updO, setO, okC, loadA, cutC, fieldAddrA, fieldA, indexAddrA, indexA, builtinA, callOpA, callV, target, ptrV, lenS, binA, intOp, strOp, unA, num, lk, over, allocA, pickA, buildA, fillA, convertA, extractA, ofComp, nilCheckA, makeFuncA, ptrs, ofValue, cellB, Nat.reduceAdd, Nat.reduceSub, Nat.reduceMul, Nat.reduceLT, Nat.reduceLeDiff, Nat.reduceGT, ↓reduceIte, Nat.reduceEqDiff, Nat.reduceBEq, reduceCtorEq, Int.reduceBEq, Int.reduceBNe, Int.reduceLT, Int.reduceLE, Int.reduceGT, Int.reduceGE, aggT_33, sizeT_33, bytesT_33, fieldT_33_0, fieldT_33_1, fieldT_33_2, fieldT_33_3, fieldT_33_4, placesT_33, zeroT_33, aggT_31, sizeT_31, bytesT_31, und_31, elemT_31, isSliceT_31, zero1_31, zeroT_31, aggT_76, sizeT_76, bytesT_76, zero1_76, zeroT_76, aggT_3, sizeT_3, bytesT_3, und_3, zero1_3, zeroT_3, hC, lenA_lD]
  (refine (r_inLoop_some ?_).trans h; kernel_rfl)
theorem st1a (x y : Tm)  (k : Nat) (hk : x.l[k]? = some y) (hl : (k : Int) < x.l.length) (hr : run Tryz.prog ext (.call 116 [tmV y, .c (.fn 117 [] [0])] (On [])) = some (.ret [] (On []))) (out : Option Out) (h : H116a ext 1 (E116 x (wr ((k : Int) + 1))) (On []) = out) : H116a ext 1 (E116 x k) (On []) = out := by
  have h0 : (0 : Int) ≤ k := by omega
  have hC := fun o1 slot => cA116 (run Tryz.prog ext) y o1 slot hr
  unfold H116a at h ⊢
  simp only [tmV, tmC, dV, iV, E116, On_nil, On_cons, Ox, List.map_cons, lD_lt hl] at hC h ⊢
  (rw [show (It.code L116a) = It.code (sub B116 [1, 1, 1, 0, 0]) from rfl]; simp only [B116, K116a, sub, Option.getD_some, Tryz.f116, ↓reduceIte, Nat.one_ne_zero])
  simp only [zS, nilEq, wantedA, opA, eff, boxA, cells, ev, gt, pt, putO, updO, setO, okC, loadA, cutC, fieldAddrA, fieldA, indexAddrA, indexA, builtinA, callOpA, callV, target, ptrV, lenS, binA, intOp, strOp, unA, num, lk, over, allocA, pickA, buildA, fillA, convertA, extractA, ofComp, nilCheckA, makeFuncA, ptrs, ofValue, cellB, Nat.reduceAdd, Nat.reduceSub, Nat.reduceMul, Nat.reduceLT, Nat.reduceLeDiff, Nat.reduceGT, ↓reduceIte, Nat.reduceEqDiff, Nat.reduceBEq, reduceCtorEq, Int.reduceBEq, Int.reduceBNe, Int.reduceLT, Int.reduceLE, Int.reduceGT, Int.reduceGE, aggT_33, sizeT_33, bytesT_33, fieldT_33_0, fieldT_33_1, fieldT_33_2, fieldT_33_3, fieldT_33_4, placesT_33, zeroT_33, aggT_31, sizeT_31, bytesT_31, und_31, elemT_31, isSliceT_31, zero1_31, zeroT_31, aggT_76, sizeT_76, bytesT_76, zero1_76, zeroT_76, aggT_3, sizeT_3, bytesT_3, und_3, zero1_3, zeroT_3, h0, hl, Int.toNat_natCast, hk, tmD_eq y, hC]
  (refine (r_inLoop_some ?_).trans h; kernel_rfl)
theorem st1b (x y : Tm) (b : ByteArray) (q : List ByteArray) (k : Nat) (hk : x.l[k]? = some y) (hl : (k : Int) < x.l.length) (hr : run Tryz.prog ext (.call 116 [tmV y, .c (.fn 117 [] [0])] (On [])) = some (.ret [] (On (b :: q)))) (out : Option Out) (h : H116a ext 1 (E116 x (wr ((k : Int) + 1))) (On (b :: q)) = out) : H116a ext 1 (E116 x k) (On []) = out := by
  have h0 : (0 : Int) ≤ k := by omega
  have hC := fun o1 slot => cB116 (run Tryz.prog ext) y o1 slot b q hr
  unfold H116a at h ⊢
  simp only [tmV, tmC, dV, iV, E116, On_nil, On_cons, Ox, List.map_cons, lD_lt hl] at hC h ⊢
  (rw [show (It.code L116a) = It.code (sub B116 [1, 1, 1, 0, 0]) from rfl]; simp only [B116, K116a, sub, Option.getD_some, Tryz.f116, ↓reduceIte, Nat.one_ne_zero])
  simp only [zS, nilEq, wantedA, opA, eff, boxA, cells, ev, gt, pt, putO, updO, setO, okC, loadA, cutC, fieldAddrA, fieldA, indexAddrA, indexA, builtinA, callOpA, callV, target, ptrV, lenS, binA, intOp, strOp, unA, num, lk, over, allocA, pickA, buildA, fillA, convertA, extractA, ofComp, nilCheckA, makeFuncA, ptrs, ofValue, cellB, Nat.reduceAdd, Nat.reduceSub, Nat.reduceMul, Nat.reduceLT, Nat.reduceLeDiff, Nat.reduceGT, ↓reduceIte, Nat.reduceEqDiff, Nat.reduceBEq, reduceCtorEq, Int.reduceBEq, Int.reduceBNe, Int.reduceLT, Int.reduceLE, Int.reduceGT, Int.reduceGE, aggT_33, sizeT_33, bytesT_33, fieldT_33_0, fieldT_33_1, fieldT_33_2, fieldT_33_3, fieldT_33_4, placesT_33, zeroT_33, aggT_31, sizeT_31, bytesT_31, und_31, elemT_31, isSliceT_31, zero1_31, zeroT_31, aggT_76, sizeT_76, bytesT_76, zero1_76, zeroT_76, aggT_3, sizeT_3, bytesT_3, und_3, zero1_3, zeroT_3, h0, hl, Int.toNat_natCast, hk, tmD_eq y, hC]
  (refine (r_inLoop_some ?_).trans h; kernel_rfl)
theorem st1c (x y : Tm) (a : ByteArray) (r : List ByteArray) (k : Nat) (hk : x.l[k]? = some y) (hl : (k : Int) < x.l.length) (hr : run Tryz.prog ext (.call 116 [tmV y, .c (.fn 117 [] [0])] (On (a :: r))) = some (.ret [] (On (a :: r)))) (out : Option Out) (h : H116a ext 1 (E116 x (wr ((k : Int) + 1))) (On (a :: r)) = out) : H116a ext 1 (E116 x k) (On (a :: r)) = out := by
  have h0 : (0 : Int) ≤ k := by omega
  have hC := fun o1 slot => cC116 (run Tryz.prog ext) y o1 slot a r hr
  unfold H116a at h ⊢
  simp only [tmV, tmC, dV, iV, E116, On_nil, On_cons, Ox, List.map_cons, lD_lt hl] at hC h ⊢
  (rw [show (It.code L116a) = It.code (sub B116 [1, 1, 1, 0, 0]) from rfl]; simp only [B116, K116a, sub, Option.getD_some, Tryz.f116, ↓reduceIte, Nat.one_ne_zero])
  simp only [zS, nilEq, wantedA, opA, eff, boxA, cells, ev, gt, pt, putO, updO, setO, okC, loadA, cutC, fieldAddrA, fieldA, indexAddrA, indexA, builtinA, callOpA, callV, target, ptrV, lenS, binA, intOp, strOp, unA, num, lk, over, allocA, pickA, buildA, fillA, convertA, extractA, ofComp, nilCheckA, makeFuncA, ptrs, ofValue, cellB, Nat.reduceAdd, Nat.reduceSub, Nat.reduceMul, Nat.reduceLT, Nat.reduceLeDiff, Nat.reduceGT, ↓reduceIte, Nat.reduceEqDiff, Nat.reduceBEq, reduceCtorEq, Int.reduceBEq, Int.reduceBNe, Int.reduceLT, Int.reduceLE, Int.reduceGT, Int.reduceGE, aggT_33, sizeT_33, bytesT_33, fieldT_33_0, fieldT_33_1, fieldT_33_2, fieldT_33_3, fieldT_33_4, placesT_33, zeroT_33, aggT_31, sizeT_31, bytesT_31, und_31, elemT_31, isSliceT_31, zero1_31, zeroT_31, aggT_76, sizeT_76, bytesT_76, zero1_76, zeroT_76, aggT_3, sizeT_3, bytesT_3, und_3, zero1_3, zeroT_3, h0, hl, Int.toNat_natCast, hk, tmD_eq y, hC]
  (refine (r_inLoop_some ?_).trans h; kernel_rfl)
theorem st1d (x y : Tm) (a b : ByteArray) (r q : List ByteArray) (k : Nat) (hk : x.l[k]? = some y) (hl : (k : Int) < x.l.length) (hr : run Tryz.prog ext (.call 116 [tmV y, .c (.fn 117 [] [0])] (On (a :: r))) = some (.ret [] (Ox true (b :: q)))) (out : Option Out) (h : H116a ext 1 (E116 x (wr ((k : Int) + 1))) (On (b :: q)) = out) : H116a ext 1 (E116 x k) (On (a :: r)) = out := by
  have h0 : (0 : Int) ≤ k := by omega
  have hC := fun o1 slot => cD116 (run Tryz.prog ext) y o1 slot a b r q hr
  unfold H116a at h ⊢
  simp only [tmV, tmC, dV, iV, E116, On_nil, On_cons, Ox, List.map_cons, lD_lt hl] at hC h ⊢
  (rw [show (It.code L116a) = It.code (sub B116 [1, 1, 1, 0, 0]) from rfl]; simp only [B116, K116a, sub, Option.getD_some, Tryz.f116, ↓reduceIte, Nat.one_ne_zero])
  simp only [zS, nilEq, wantedA, opA, eff, boxA, cells, ev, gt, pt, putO, updO, setO, okC, loadA, cutC, fieldAddrA, fieldA, indexAddrA, indexA, builtinA, callOpA, callV, target, ptrV, lenS, binA, intOp, strOp, unA, num, lk, over, allocA, pickA, buildA, fillA, convertA, extractA, ofComp, nilCheckA, makeFuncA, ptrs, ofValue, cellB, Nat.reduceAdd, Nat.reduceSub, Nat.reduceMul, Nat.reduceLT, Nat.reduceLeDiff, Nat.reduceGT, ↓reduceIte, Nat.reduceEqDiff, Nat.reduceBEq, reduceCtorEq, Int.reduceBEq, Int.reduceBNe, Int.reduceLT, Int.reduceLE, Int.reduceGT, Int.reduceGE, aggT_33, sizeT_33, bytesT_33, fieldT_33_0, fieldT_33_1, fieldT_33_2, fieldT_33_3, fieldT_33_4, placesT_33, zeroT_33, aggT_31, sizeT_31, bytesT_31, und_31, elemT_31, isSliceT_31, zero1_31, zeroT_31, aggT_76, sizeT_76, bytesT_76, zero1_76, zeroT_76, aggT_3, sizeT_3, bytesT_3, und_3, zero1_3, zeroT_3, h0, hl, Int.toNat_natCast, hk, tmD_eq y, hC]
  (refine (r_inLoop_some ?_).trans h; kernel_rfl)
theorem st2c (x y : Tm) (a : ByteArray) (r : List ByteArray) (k : Nat) (hk : x.l[k]? = some y) (hl : (k : Int) < x.l.length) (hr : run Tryz.prog ext (.call 116 [tmV y, .c (.fn 117 [] [0])] (On (a :: r))) = some (.ret [] (On (a :: r)))) (out : Option Out) (h : H116a ext 2 (E116 x (wr ((k : Int) + 1))) (Ox false (a :: r)) = out) : H116a ext 2 (E116 x k) (Ox false (a :: r)) = out := by
  have h0 : (0 : Int) ≤ k := by omega
  have hC := fun o1 slot => cC116 (run Tryz.prog ext) y o1 slot a r hr
  unfold H116a at h ⊢
  simp only [tmV, tmC, dV, iV, E116, On_nil, On_cons, Ox, List.map_cons, lD_lt hl] at hC h ⊢
  (rw [show (It.code L116a) = It.code (sub B116 [1, 1, 1, 0, 0]) from rfl]; simp only [B116, K116a, sub, Option.getD_some, Tryz.f116, ↓reduceIte, Nat.one_ne_zero])
  simp only [zS, nilEq, wantedA, opA, eff, boxA, cells, ev, gt, pt, putO, updO, setO, okC, loadA, cutC, fieldAddrA, fieldA, indexAddrA, indexA, builtinA, callOpA, callV, target, ptrV, lenS, binA, intOp, strOp, unA, num, lk, over, allocA, pickA, buildA, fillA, convertA, extractA, ofComp, nilCheckA, makeFuncA, ptrs, ofValue, cellB, Nat.reduceAdd, Nat.reduceSub, Nat.reduceMul, Nat.reduceLT, Nat.reduceLeDiff, Nat.reduceGT, ↓reduceIte, Nat.reduceEqDiff, Nat.reduceBEq, reduceCtorEq, Int.reduceBEq, Int.reduceBNe, Int.reduceLT, Int.reduceLE, Int.reduceGT, Int.reduceGE, aggT_33, sizeT_33, bytesT_33, fieldT_33_0, fieldT_33_1, fieldT_33_2, fieldT_33_3, fieldT_33_4, placesT_33, zeroT_33, aggT_31, sizeT_31, bytesT_31, und_31, elemT_31, isSliceT_31, zero1_31, zeroT_31, aggT_76, sizeT_76, bytesT_76, zero1_76, zeroT_76, aggT_3, sizeT_3, bytesT_3, und_3, zero1_3, zeroT_3, h0, hl, Int.toNat_natCast, hk, tmD_eq y, hC]
  (refine (r_inLoop_some ?_).trans h; kernel_rfl)
theorem st2d (x y : Tm) (a b : ByteArray) (r q : List ByteArray) (k : Nat) (hk : x.l[k]? = some y) (hl : (k : Int) < x.l.length) (hr : run Tryz.prog ext (.call 116 [tmV y, .c (.fn 117 [] [0])] (On (a :: r))) = some (.ret [] (Ox true (b :: q)))) (out : Option Out) (h : H116a ext 2 (E116 x (wr ((k : Int) + 1))) (Ox true (b :: q)) = out) : H116a ext 2 (E116 x k) (Ox false (a :: r)) = out := by
  have h0 : (0 : Int) ≤ k := by omega
  have hC := fun o1 slot => cD116 (run Tryz.prog ext) y o1 slot a b r q hr
  unfold H116a at h ⊢
  simp only [tmV, tmC, dV, iV, E116, On_nil, On_cons, Ox, List.map_cons, lD_lt hl] at hC h ⊢
  (rw [show (It.code L116a) = It.code (sub B116 [1, 1, 1, 0, 0]) from rfl]; simp only [B116, K116a, sub, Option.getD_some, Tryz.f116, ↓reduceIte, Nat.one_ne_zero])
  simp only [zS, nilEq, wantedA, opA, eff, boxA, cells, ev, gt, pt, putO, updO, setO, okC, loadA, cutC, fieldAddrA, fieldA, indexAddrA, indexA, builtinA, callOpA, callV, target, ptrV, lenS, binA, intOp, strOp, unA, num, lk, over, allocA, pickA, buildA, fillA, convertA, extractA, ofComp, nilCheckA, makeFuncA, ptrs, ofValue, cellB, Nat.reduceAdd, Nat.reduceSub, Nat.reduceMul, Nat.reduceLT, Nat.reduceLeDiff, Nat.reduceGT, ↓reduceIte, Nat.reduceEqDiff, Nat.reduceBEq, reduceCtorEq, Int.reduceBEq, Int.reduceBNe, Int.reduceLT, Int.reduceLE, Int.reduceGT, Int.reduceGE, aggT_33, sizeT_33, bytesT_33, fieldT_33_0, fieldT_33_1, fieldT_33_2, fieldT_33_3, fieldT_33_4, placesT_33, zeroT_33, aggT_31, sizeT_31, bytesT_31, und_31, elemT_31, isSliceT_31, zero1_31, zeroT_31, aggT_76, sizeT_76, bytesT_76, zero1_76, zeroT_76, aggT_3, sizeT_3, bytesT_3, und_3, zero1_3, zeroT_3, h0, hl, Int.toNat_natCast, hk, tmD_eq y, hC]
  (refine (r_inLoop_some ?_).trans h; kernel_rfl)
theorem st2e (x y : Tm) (a : ByteArray) (r : List ByteArray) (k : Nat) (hk : x.l[k]? = some y) (hl : (k : Int) < x.l.length) (hr : run Tryz.prog ext (.call 116 [tmV y, .c (.fn 117 [] [0])] (On (a :: r))) = some (.ret [] (On (a :: r)))) (out : Option Out) (h : H116a ext 2 (E116 x (wr ((k : Int) + 1))) (Ox true (a :: r)) = out) : H116a ext 2 (E116 x k) (Ox true (a :: r)) = out := by
  have h0 : (0 : Int) ≤ k := by omega
  have hC := fun o1 slot => cE116 (run Tryz.prog ext) y o1 slot a r hr
  unfold H116a at h ⊢
  simp only [tmV, tmC, dV, iV, E116, On_nil, On_cons, Ox, List.map_cons, lD_lt hl] at hC h ⊢
  (rw [show (It.code L116a) = It.code (sub B116 [1, 1, 1, 0, 0]) from rfl]; simp only [B116, K116a, sub, Option.getD_some, Tryz.f116, ↓reduceIte, Nat.one_ne_zero])
  simp only [zS, nilEq, wantedA, opA, eff, boxA, cells, ev, gt, pt, putO, updO, setO, okC, loadA, cutC, fieldAddrA, fieldA, indexAddrA, indexA, builtinA, callOpA, callV, target, ptrV, lenS, binA, intOp, strOp, unA, num, lk, over, allocA, pickA, buildA, fillA, convertA, extractA, ofComp, nilCheckA, makeFuncA, ptrs, ofValue, cellB, Nat.reduceAdd, Nat.reduceSub, Nat.reduceMul, Nat.reduceLT, Nat.reduceLeDiff, Nat.reduceGT, ↓reduceIte, Nat.reduceEqDiff, Nat.reduceBEq, reduceCtorEq, Int.reduceBEq, Int.reduceBNe, Int.reduceLT, Int.reduceLE, Int.reduceGT, Int.reduceGE, aggT_33, sizeT_33, bytesT_33, fieldT_33_0, fieldT_33_1, fieldT_33_2, fieldT_33_3, fieldT_33_4, placesT_33, zeroT_33, aggT_31, sizeT_31, bytesT_31, und_31, elemT_31, isSliceT_31, zero1_31, zeroT_31, aggT_76, sizeT_76, bytesT_76, zero1_76, zeroT_76, aggT_3, sizeT_3, bytesT_3, und_3, zero1_3, zeroT_3, h0, hl, Int.toNat_natCast, hk, tmD_eq y, hC]
  (refine (r_inLoop_some ?_).trans h; kernel_rfl)
theorem st2f (x y : Tm) (a b : ByteArray) (r q : List ByteArray) (k : Nat) (hk : x.l[k]? = some y) (hl : (k : Int) < x.l.length) (hr : run Tryz.prog ext (.call 116 [tmV y, .c (.fn 117 [] [0])] (On (a :: r))) = some (.ret [] (Ox true (b :: q)))) (out : Option Out) (h : H116a ext 2 (E116 x (wr ((k : Int) + 1))) (Ox true (b :: q)) = out) : H116a ext 2 (E116 x k) (Ox true (a :: r)) = out := by
  have h0 : (0 : Int) ≤ k := by omega
  have hC := fun o1 slot => cF116 (run Tryz.prog ext) y o1 slot a b r q hr
  unfold H116a at h ⊢
  simp only [tmV, tmC, dV, iV, E116, On_nil, On_cons, Ox, List.map_cons, lD_lt hl] at hC h ⊢
  (rw [show (It.code L116a) = It.code (sub B116 [1, 1, 1, 0, 0]) from rfl]; simp only [B116, K116a, sub, Option.getD_some, Tryz.f116, ↓reduceIte, Nat.one_ne_zero])
  simp only [zS, nilEq, wantedA, opA, eff, boxA, cells, ev, gt, pt, putO, updO, setO, okC, loadA, cutC, fieldAddrA, fieldA, indexAddrA, indexA, builtinA, callOpA, callV, target, ptrV, lenS, binA, intOp, strOp, unA, num, lk, over, allocA, pickA, buildA, fillA, convertA, extractA, ofComp, nilCheckA, makeFuncA, ptrs, ofValue, cellB, Nat.reduceAdd, Nat.reduceSub, Nat.reduceMul, Nat.reduceLT, Nat.reduceLeDiff, Nat.reduceGT, ↓reduceIte, Nat.reduceEqDiff, Nat.reduceBEq, reduceCtorEq, Int.reduceBEq, Int.reduceBNe, Int.reduceLT, Int.reduceLE, Int.reduceGT, Int.reduceGE, aggT_33, sizeT_33, bytesT_33, fieldT_33_0, fieldT_33_1, fieldT_33_2, fieldT_33_3, fieldT_33_4, placesT_33, zeroT_33, aggT_31, sizeT_31, bytesT_31, und_31, elemT_31, isSliceT_31, zero1_31, zeroT_31, aggT_76, sizeT_76, bytesT_76, zero1_76, zeroT_76, aggT_3, sizeT_3, bytesT_3, und_3, zero1_3, zeroT_3, h0, hl, Int.toNat_natCast, hk, tmD_eq y, hC]
  (refine (r_inLoop_some ?_).trans h; kernel_rfl)
theorem dn1a (x : Tm)  : H116a ext 1 (E116 x x.l.length) (On []) = some (.ret [] (On [])) := by
  unfold H116a
  simp only [dV, iV, E116, On_nil, On_cons, Ox, List.map_cons]
  (rw [show (It.code L116a) = It.code (sub B116 [1, 1, 1, 0, 0]) from rfl]; simp only [B116, K116a, sub, Option.getD_some, Tryz.f116, ↓reduceIte, Nat.one_ne_zero])
  simp only [zS, nilEq, wantedA, opA, eff, boxA, cells, ev, gt, pt, putO, updO, setO, okC, loadA, cutC, fieldAddrA, fieldA, indexAddrA, indexA, builtinA, callOpA, callV, target, ptrV, lenS, binA, intOp, strOp, unA, num, lk, over, allocA, pickA, buildA, fillA, convertA, extractA, ofComp, nilCheckA, makeFuncA, ptrs, ofValue, cellB, Nat.reduceAdd, Nat.reduceSub, Nat.reduceMul, Nat.reduceLT, Nat.reduceLeDiff, Nat.reduceGT, ↓reduceIte, Nat.reduceEqDiff, Nat.reduceBEq, reduceCtorEq, Int.reduceBEq, Int.reduceBNe, Int.reduceLT, Int.reduceLE, Int.reduceGT, Int.reduceGE, aggT_31, sizeT_31, bytesT_31, und_31, elemT_31, isSliceT_31, zero1_31, zeroT_31, aggT_76, sizeT_76, bytesT_76, zero1_76, zeroT_76, aggT_3, sizeT_3, bytesT_3, und_3, zero1_3, zeroT_3, Int.lt_irrefl]
  (refine Eq.trans ?_ rfl; kernel_rfl)
theorem dn1b (x : Tm) (a : ByteArray) (r : List ByteArray) : H116a ext 1 (E116 x x.l.length) (On (a :: r)) = some (.ret [] (On (a :: r))) := by
  unfold H116a
  simp only [dV, iV, E116, On_nil, On_cons, Ox, List.map_cons]
  (rw [show (It.code L116a) = It.code (sub B116 [1, 1, 1, 0, 0]) from rfl]; simp only [B116, K116a, sub, Option.getD_some, Tryz.f116, ↓reduceIte, Nat.one_ne_zero])
  simp only [zS, nilEq, wantedA, opA, eff, boxA, cells, ev, gt, pt, putO, updO, setO, okC, loadA, cutC, fieldAddrA, fieldA, indexAddrA, indexA, builtinA, callOpA, callV, target, ptrV, lenS, binA, intOp, strOp, unA, num, lk, over, allocA, pickA, buildA, fillA, convertA, extractA, ofComp, nilCheckA, makeFuncA, ptrs, ofValue, cellB, Nat.reduceAdd, Nat.reduceSub, Nat.reduceMul, Nat.reduceLT, Nat.reduceLeDiff, Nat.reduceGT, ↓reduceIte, Nat.reduceEqDiff, Nat.reduceBEq, reduceCtorEq, Int.reduceBEq, Int.reduceBNe, Int.reduceLT, Int.reduceLE, Int.reduceGT, Int.reduceGE, aggT_31, sizeT_31, bytesT_31, und_31, elemT_31, isSliceT_31, zero1_31, zeroT_31, aggT_76, sizeT_76, bytesT_76, zero1_76, zeroT_76, aggT_3, sizeT_3, bytesT_3, und_3, zero1_3, zeroT_3, Int.lt_irrefl]
  (refine Eq.trans ?_ rfl; kernel_rfl)
theorem dn2c (x : Tm) (a : ByteArray) (r : List ByteArray) : H116a ext 2 (E116 x x.l.length) (Ox false (a :: r)) = some (.ret [] (Ox false (a :: r))) := by
  unfold H116a
  simp only [dV, iV, E116, On_nil, On_cons, Ox, List.map_cons]
  (rw [show (It.code L116a) = It.code (sub B116 [1, 1, 1, 0, 0]) from rfl]; simp only [B116, K116a, sub, Option.getD_some, Tryz.f116, ↓reduceIte, Nat.one_ne_zero])
  simp only [zS, nilEq, wantedA, opA, eff, boxA, cells, ev, gt, pt, putO, updO, setO, okC, loadA, cutC, fieldAddrA, fieldA, indexAddrA, indexA, builtinA, callOpA, callV, target, ptrV, lenS, binA, intOp, strOp, unA, num, lk, over, allocA, pickA, buildA, fillA, convertA, extractA, ofComp, nilCheckA, makeFuncA, ptrs, ofValue, cellB, Nat.reduceAdd, Nat.reduceSub, Nat.reduceMul, Nat.reduceLT, Nat.reduceLeDiff, Nat.reduceGT, ↓reduceIte, Nat.reduceEqDiff, Nat.reduceBEq, reduceCtorEq, Int.reduceBEq, Int.reduceBNe, Int.reduceLT, Int.reduceLE, Int.reduceGT, Int.reduceGE, aggT_31, sizeT_31, bytesT_31, und_31, elemT_31, isSliceT_31, zero1_31, zeroT_31, aggT_76, sizeT_76, bytesT_76, zero1_76, zeroT_76, aggT_3, sizeT_3, bytesT_3, und_3, zero1_3, zeroT_3, Int.lt_irrefl]
  (refine Eq.trans ?_ rfl; kernel_rfl)
theorem dn2d (x : Tm) (a : ByteArray) (r : List ByteArray) : H116a ext 2 (E116 x x.l.length) (Ox true (a :: r)) = some (.ret [] (Ox true (a :: r))) := by
  unfold H116a
  simp only [dV, iV, E116, On_nil, On_cons, Ox, List.map_cons]
  (rw [show (It.code L116a) = It.code (sub B116 [1, 1, 1, 0, 0]) from rfl]; simp only [B116, K116a, sub, Option.getD_some, Tryz.f116, ↓reduceIte, Nat.one_ne_zero])
  simp only [zS, nilEq, wantedA, opA, eff, boxA, cells, ev, gt, pt, putO, updO, setO, okC, loadA, cutC, fieldAddrA, fieldA, indexAddrA, indexA, builtinA, callOpA, callV, target, ptrV, lenS, binA, intOp, strOp, unA, num, lk, over, allocA, pickA, buildA, fillA, convertA, extractA, ofComp, nilCheckA, makeFuncA, ptrs, ofValue, cellB, Nat.reduceAdd, Nat.reduceSub, Nat.reduceMul, Nat.reduceLT, Nat.reduceLeDiff, Nat.reduceGT, ↓reduceIte, Nat.reduceEqDiff, Nat.reduceBEq, reduceCtorEq, Int.reduceBEq, Int.reduceBNe, Int.reduceLT, Int.reduceLE, Int.reduceGT, Int.reduceGE, aggT_31, sizeT_31, bytesT_31, und_31, elemT_31, isSliceT_31, zero1_31, zeroT_31, aggT_76, sizeT_76, bytesT_76, zero1_76, zeroT_76, aggT_3, sizeT_3, bytesT_3, und_3, zero1_3, zeroT_3, Int.lt_irrefl]
  (refine Eq.trans ?_ rfl; kernel_rfl)
theorem take_fold {f : List ByteArray → Tm → List ByteArray} {ls : List Tm} {k : Nat} {y : Tm} (l : List ByteArray) (hk : ls[k]? = some y) : (ls.take (k + 1)).foldl f l = f ((ls.take k).foldl f l) y := by
  rw [List.take_add_one, hk]
  simp
def chg' (l l' : List ByteArray) (g : Bool) : Prop := (g = false → l = [] ∨ l' = l) ∧ (g = true → l ≠ [] ∧ l' ≠ [])
theorem each116 (hx : ext 116 = none) (h117 : ext 117 = none) (h118 : ext 118 = none) (h186 : ext 186 = none) : ∀ (N : Nat) (x : Tm), x.sz ≤ N → N < 2 ^ 27 → ∀ l : List ByteArray, l.length + x.sz < 2 ^ 28 →
    ∃ g, chg' l (nms l x) g ∧ run Tryz.prog ext (.call 116 [tmV x, .c (.fn 117 [] [0])] (On l)) = some (.ret [] (Ox g (nms l x)))
  | 0, x, h, _, _, _ => by have := x.sz_pos; omega
  | N + 1, x, h, hN, l, hb => by
    have hll := x.len_lt
    obtain ⟨g0, ⟨c1, c2⟩, hr0⟩ := clo117 ext h117 h118 h186 x l (by omega)
    have small : ∀ (k : Nat) (y : Tm), x.l[k]? = some y → ((x.l.take k).foldl nms (nm1 l x)).length + y.sz < 2 ^ 28 := by
      intro k y hk
      have e1 := fold_len (x.l.take (k + 1)) (nm1 l x) (fun y hy => nms_len y.sz y (Nat.le_refl _))
      have e2 := fold_len (x.l.take k) (nm1 l x) (fun y hy => nms_len y.sz y (Nat.le_refl _))
      have e3 := nm1_len l x
      have e4 := x.sz_eq
      have e5 : ((x.l.take k).map Tm.sz).sum + y.sz ≤ (x.l.map Tm.sz).sum := by
        have h1 : ((x.l.take (k + 1)).map Tm.sz).sum + ((x.l.drop (k + 1)).map Tm.sz).sum = (x.l.map Tm.sz).sum := by
          rw [← List.sum_append, ← List.map_append, List.take_append_drop]
        have h2 : ((x.l.take (k + 1)).map Tm.sz).sum = ((x.l.take k).map Tm.sz).sum + y.sz := by
          rw [List.take_add_one, hk]; simp
        omega
      omega
    cases l with
    | nil =>
      have hg0 : g0 = false := by cases g0 with | false => rfl | true => exact absurd rfl (c2 rfl)
      subst hg0
      refine ⟨false, ⟨fun _ => .inl rfl, fun h => (by cases h)⟩, ?_⟩
      have hloop := loop_inv x.l (fun k l' => H116a ext 1 (E116 x k) (On l')) (fun k l' => l' = (x.l.take k).foldl nms (nm1 [] x)) (fun o => o = some (.ret [] (On (nms [] x)))) (by omega) (fun k y l' hI hk hl => by
        have hs := small k y hk
        rw [← hI] at hs
        obtain ⟨g, ⟨d1, d2⟩, hr⟩ := each116 hx h117 h118 h186 N y (by have := Tm.sz_lt (List.mem_of_getElem? hk); omega) (by omega) l' hs
        refine ⟨nms l' y, by rw [take_fold _ hk, ← hI], fun out ho => ?_⟩
        cases l' with
        | nil =>
          have hg : g = false := by cases g with | false => rfl | true => exact absurd rfl (d2 rfl).1
          subst hg
          cases e : nms [] y with
          | nil => rw [e] at hr ho; exact st1a ext x y k hk hl hr out ho
          | cons b q => rw [e] at hr ho; exact st1b ext x y b q k hk hl hr out ho
        | cons a r =>
          cases g with
          | false =>
            have e : nms (a :: r) y = a :: r := by rcases d1 rfl with h | h; (· cases h); (· exact h)
            rw [e] at hr ho; exact st1c ext x y a r k hk hl hr out ho
          | true =>
            cases e : nms (a :: r) y with
            | nil => exact absurd e (d2 rfl).2
            | cons b q => rw [e] at hr ho; exact st1d ext x y a b r q k hk hl hr out ho) (fun l' hI => by
        have e : nms [] x = l' := by rw [nms_eq, hI, List.take_length]
        rw [e]
        cases l' with
        | nil => exact dn1a ext x
        | cons a r => exact dn1b ext x a r) (nm1 [] x) rfl
      show run Tryz.prog ext (.call 116 [tmV x, .c (.fn 117 [] [0])] (On [])) = some (.ret [] (On (nms [] x)))
      cases e : nm1 [] x with
      | nil => rw [e] at hr0 hloop; exact en116a ext hx x hr0 _ hloop
      | cons b q => rw [e] at hr0 hloop; exact en116b ext hx x b q hr0 _ hloop
    | cons a r =>
      have hloop := loop_inv x.l (fun k (s : Bool × List ByteArray) => H116a ext 2 (E116 x k) (Ox s.1 s.2)) (fun k s => s.2 = (x.l.take k).foldl nms (nm1 (a :: r) x) ∧ s.2 ≠ [] ∧ (s.1 = false → s.2 = a :: r))
        (fun o => ∃ g, chg' (a :: r) (nms (a :: r) x) g ∧ o = some (.ret [] (Ox g (nms (a :: r) x)))) (by omega) (fun k y s hI hk hl => by
        obtain ⟨g1, l'⟩ := s
        obtain ⟨hI, hne, hI2⟩ := hI
        dsimp only at hI hne hI2
        have hs := small k y hk
        rw [← hI] at hs
        obtain ⟨g, ⟨d1, d2⟩, hr⟩ := each116 hx h117 h118 h186 N y (by have := Tm.sz_lt (List.mem_of_getElem? hk); omega) (by omega) l' hs
        have hn := nms_ne y.sz y (Nat.le_refl _) l' hne
        have hI' : nms l' y = (x.l.take (k + 1)).foldl nms (nm1 (a :: r) x) := by rw [take_fold _ hk, ← hI]
        cases l' with
        | nil => exact absurd rfl hne
        | cons b q =>
          cases g with
          | false =>
            have e : nms (b :: q) y = b :: q := by rcases d1 rfl with h | h; (· cases h); (· exact h)
            rw [e] at hr hI'
            refine ⟨(g1, b :: q), ⟨hI', hne, hI2⟩, fun out ho => ?_⟩
            cases g1 with
            | false => exact st2c ext x y b q k hk hl hr out ho
            | true => exact st2e ext x y b q k hk hl hr out ho
          | true =>
            cases e : nms (b :: q) y with
            | nil => exact absurd e hn
            | cons c t =>
              rw [e] at hr hI'
              refine ⟨(true, c :: t), ⟨hI', by simp, fun h => (by cases h)⟩, fun out ho => ?_⟩
              cases g1 with
              | false => exact st2d ext x y b c q t k hk hl hr out ho
              | true => exact st2f ext x y b c q t k hk hl hr out ho) (fun s hI => by
        obtain ⟨g1, l'⟩ := s
        obtain ⟨hI, hne, hI2⟩ := hI
        dsimp only at hI hne hI2 ⊢
        have e : nms (a :: r) x = l' := by rw [nms_eq, hI, List.take_length]
        rw [e]
        refine ⟨g1, ⟨fun h => .inr (hI2 h), fun _ => ⟨by simp, hne⟩⟩, ?_⟩
        cases l' with
        | nil => exact absurd rfl hne
        | cons b q =>
          cases g1 with
          | false => exact dn2c ext x b q
          | true => exact dn2d ext x b q)
      cases g0 with
      | false =>
        have e : nm1 (a :: r) x = a :: r := by rcases c1 rfl with h | h; (· cases h); (· exact h)
        rw [e] at hr0
        obtain ⟨g, q1, q2⟩ := hloop (false, a :: r) ⟨by rw [e]; rfl, by simp, fun _ => rfl⟩
        exact ⟨g, q1, en116c ext hx x a r hr0 _ q2⟩
      | true =>
        cases e : nm1 (a :: r) x with
        | nil => exact absurd e (nm1_ne x (by simp))
        | cons b q =>
          rw [e] at hr0
          obtain ⟨g, q1, q2⟩ := hloop (true, b :: q) ⟨by rw [e]; rfl, by simp, fun h => (by cases h)⟩
          exact ⟨g, q1, en116d ext hx x a b r q hr0 _ q2⟩
theorem names75 (hx : ext 75 = none) (h116 : ext 116 = none) (h117 : ext 117 = none) (h118 : ext 118 = none) (h186 : ext 186 = none) (x : Tm) (hs : x.sz < 2 ^ 27) : run Tryz.prog ext (.call 75 [tmV x] []) = some (.ret [dV (listD true 1 ((nms [] x).map stD))] []) := by
  obtain ⟨g, ⟨_, c2⟩, hr⟩ := each116 ext h116 h117 h118 h186 x.sz x (Nat.le_refl _) hs [] (by simp; omega)
  have hg : g = false := by cases g with | false => rfl | true => exact absurd rfl (c2 rfl).1
  subst hg
  have hr' : run Tryz.prog ext (.call 116 [tmV x, .c (.fn 117 [] [0])] (On [])) = some (.ret [] (On (nms [] x))) := hr
  cases e : nms [] x with
  | nil =>
    rw [e] at hr'
    have hC := fun o0 slot => callA_of (rec := run Tryz.prog ext) (look := lk [o0, .box [.d (.v (.slice none 0 0))]]) (slot := slot) (f := 116) (args := [tmV x, .c (.fn 117 [] [1])]) (ids := [1]) (bor := []) (e := ⟨.val (.tup []), [(1, .box [.d (.v (.slice none 0 0))])], [1]⟩) (by kernel_rfl) hr' (by kernel_rfl)
    (rw [run_eq]; simp only [stepA, hx, Tryz.func75, Tryz.f75, show retF 75 = false from rfl]; simp only [List.length_cons, List.length_nil, Nat.reduceAdd, Nat.reduceLeDiff, Nat.zero_le, ↓reduceIte, List.zipIdx_cons, List.zipIdx_nil, List.map_cons, List.map_nil])
    simp only [tmV, tmC, dV, List.map_nil, listD_n1] at hC ⊢
    simp only [zS, nilEq, wantedA, opA, eff, boxA, cells, ev, gt, pt, putO, updO, setO, okC, loadA, cutC, fieldAddrA, fieldA, indexAddrA, indexA, builtinA, callOpA, callV, target, ptrV, lenS, binA, intOp, strOp, unA, num, lk, over, allocA, pickA, buildA, fillA, convertA, extractA, ofComp, nilCheckA, makeFuncA, ptrs, ofValue, cellB, Nat.reduceAdd, Nat.reduceSub, Nat.reduceMul, Nat.reduceLT, Nat.reduceLeDiff, Nat.reduceGT, ↓reduceIte, Nat.reduceEqDiff, Nat.reduceBEq, reduceCtorEq, Int.reduceBEq, Int.reduceBNe, Int.reduceLT, Int.reduceLE, Int.reduceGT, Int.reduceGE, aggT_33, sizeT_33, bytesT_33, fieldT_33_0, fieldT_33_1, fieldT_33_2, fieldT_33_3, fieldT_33_4, placesT_33, zeroT_33, aggT_52, sizeT_52, bytesT_52, und_52, elemT_52, isSliceT_52, zero1_52, zeroT_52, aggT_76, sizeT_76, bytesT_76, zero1_76, zeroT_76, hC]
    (refine Eq.trans ?_ rfl; kernel_rfl)
  | cons b q =>
    rw [e] at hr'
    have hC := fun o0 slot => callA_of (rec := run Tryz.prog ext) (look := lk [o0, .box [.d (.v (.slice none 0 0))]]) (slot := slot) (f := 116) (args := [tmV x, .c (.fn 117 [] [1])]) (ids := [1]) (bor := []) (e := ⟨.val (.tup []), [(1, .box [.own slot]), (slot, .arr 1 (stD b :: q.map stD))], [1]⟩) (by kernel_rfl) hr' (by simp [answer, On_cons, mapO, renV, renO, renC, back, number, results1, kills])
    (rw [run_eq]; simp only [stepA, hx, Tryz.func75, Tryz.f75, show retF 75 = false from rfl]; simp only [List.length_cons, List.length_nil, Nat.reduceAdd, Nat.reduceLeDiff, Nat.zero_le, ↓reduceIte, List.zipIdx_cons, List.zipIdx_nil, List.map_cons, List.map_nil])
    simp only [tmV, tmC, dV, List.map_cons, listD_t1] at hC ⊢
    simp only [zS, nilEq, wantedA, opA, eff, boxA, cells, ev, gt, pt, putO, updO, setO, okC, loadA, cutC, fieldAddrA, fieldA, indexAddrA, indexA, builtinA, callOpA, callV, target, ptrV, lenS, binA, intOp, strOp, unA, num, lk, over, allocA, pickA, buildA, fillA, convertA, extractA, ofComp, nilCheckA, makeFuncA, ptrs, ofValue, cellB, Nat.reduceAdd, Nat.reduceSub, Nat.reduceMul, Nat.reduceLT, Nat.reduceLeDiff, Nat.reduceGT, ↓reduceIte, Nat.reduceEqDiff, Nat.reduceBEq, reduceCtorEq, Int.reduceBEq, Int.reduceBNe, Int.reduceLT, Int.reduceLE, Int.reduceGT, Int.reduceGE, aggT_33, sizeT_33, bytesT_33, fieldT_33_0, fieldT_33_1, fieldT_33_2, fieldT_33_3, fieldT_33_4, placesT_33, zeroT_33, aggT_52, sizeT_52, bytesT_52, und_52, elemT_52, isSliceT_52, zero1_52, zeroT_52, aggT_76, sizeT_76, bytesT_76, zero1_76, zeroT_76, hC]
    (refine Eq.trans ?_ rfl; kernel_rfl)
end Go.Proofs.YteenjodhmppgjaaGreatDoor.Am
end
section
/- Level variables of a level, numbers in order, by the reference. -/
namespace Go.Proofs.YteenjodhmppgjaaGreatDoor.Am
open Go
variable (ext : Ext)
set_option maxHeartbeats 8000000
set_option maxRecDepth 4000
noncomputable def B187 : Code := (Tryz.f187.body.getD .skip)
noncomputable def L187a : Code := sub B187 [1, 1, 0, 1, 0, 0]
noncomputable def K187a : List It := [.inBlock 0, .code (sub B187 [1, 1, 1])]
noncomputable def H187a (ext : Ext) (m : Nat) (env : Env) (loc : List O) : Option Out := run Tryz.prog ext (.k ⟨38, m, [.tmp 2], false⟩ (.code L187a :: .inLoop L187a :: K187a) env loc)
noncomputable def L187b : Code := sub B187 [1, 1, 1, 1, 0, 1, 0, 0]
noncomputable def K187b : List It := [.inBlock 2, .code (sub B187 [1, 1, 1, 1, 1])]
noncomputable def H187b (ext : Ext) (m : Nat) (env : Env) (loc : List O) : Option Out := run Tryz.prog ext (.k ⟨38, m, [.tmp 2], false⟩ (.code L187b :: .inLoop L187b :: K187b) env loc)
noncomputable def B188 : Code := (Tryz.f188.body.getD .skip)
noncomputable def L188a : Code := sub B188 [1, 1, 1, 0, 1, 0, 0]
noncomputable def K188a : List It := [.inBlock 0, .code (sub B188 [1, 1, 1, 1])]
noncomputable def H188a (ext : Ext) (m : Nat) (env : Env) (loc : List O) : Option Out := run Tryz.prog ext (.k ⟨48, m, [.tmp 4], false⟩ (.code L188a :: .inLoop L188a :: K188a) env loc)
/-! ### ordered -/
def ordStep (n : Int) (s : List Int × Bool) (a : Int) : List Int × Bool :=
  if s.2 = false ∧ n ≤ a then (if n = a then (s.1 ++ [n], true) else (s.1 ++ [n] ++ [a], true)) else (s.1 ++ [a], s.2)
def ordL (l : List Int) (n : Int) : List Int := if (l.foldl (ordStep n) ([], false)).2 = true then (l.foldl (ordStep n) ([], false)).1 else (l.foldl (ordStep n) ([], false)).1 ++ [n]
theorem ordStep_len (n : Int) (s : List Int × Bool) (a : Int) (k : Nat) (h : s.1.length ≤ k + s.2.toNat) : (ordStep n s a).1.length ≤ k + 1 + (ordStep n s a).2.toNat := by
  obtain ⟨l, b⟩ := s
  unfold ordStep
  dsimp only at h ⊢
  split
  · rename_i c
    rw [c.1] at h
    split <;> simp at h ⊢ <;> omega
  · cases b <;> simp at h ⊢ <;> omega
theorem ordF_len (n : Int) : ∀ (l : List Int) (s : List Int × Bool) (k : Nat), s.1.length ≤ k + s.2.toNat → (l.foldl (ordStep n) s).1.length ≤ k + l.length + (l.foldl (ordStep n) s).2.toNat
  | [], s, k, h => h
  | a :: l, s, k, h => by
    have := ordF_len n l (ordStep n s a) (k + 1) (ordStep_len n s a k h)
    simp only [List.foldl_cons, List.length_cons]; omega
theorem ordL_len (l : List Int) (n : Int) : (ordL l n).length ≤ l.length + 1 := by
  have := ordF_len n l ([], false) 0 (by simp)
  unfold ordL
  split
  · rename_i h; rw [h] at this; simp at this; omega
  · rename_i h
    have h' : (l.foldl (ordStep n) ([], false)).2 = false := by simpa using h
    rw [h'] at this; simp at this ⊢; omega
def E188 (z : Bool) (l els : List Int) (n : Int) (d : Bool) (k : Int) : Env := [(0, dV (listD z 1 (l.map inD))), (1, iV n), (5, mkV 0 (els.map inD)), (6, bV d), (7, iV k)]
theorem enter188 (hx : ext 188 = none) (z : Bool) (l : List Int) (n : Int) (out : Option Out) (h : H188a ext 0 (E188 z l [] n false 0) [] = out) : run Tryz.prog ext (.call 188 [dV (listD z 1 (l.map inD)), iV n] []) = out := by
  unfold H188a at h
  (rw [run_eq]; simp only [stepA, hx, Tryz.func188, Tryz.f188, show retF 188 = false from rfl]; simp only [List.length_cons, List.length_nil, Nat.reduceAdd, Nat.reduceLeDiff, Nat.zero_le, ↓reduceIte, List.zipIdx_cons, List.zipIdx_nil, List.map_cons, List.map_nil])
  simp only [dV, iV, bV, E188, List.map_nil, mkV_nil] at h ⊢
  simp only [zS, nilEq, wantedA, opA, eff, boxA, cells, ev, gt, pt, putO, updO, setO, okC, loadA, cutC, fieldAddrA, fieldA, indexAddrA, indexA, builtinA, callOpA, callV, target, ptrV, lenS, binA, intOp, strOp, unA, num, lk, over, allocA, pickA, buildA, fillA, convertA, extractA, ofComp, nilCheckA, makeFuncA, ptrs, ofValue, cellB, Nat.reduceAdd, Nat.reduceSub, Nat.reduceMul, Nat.reduceLT, Nat.reduceLeDiff, Nat.reduceGT, ↓reduceIte, Nat.reduceEqDiff, Nat.reduceBEq, reduceCtorEq, Int.reduceBEq, Int.reduceBNe, Int.reduceLT, Int.reduceLE, Int.reduceGT, Int.reduceGE, aggT_43, sizeT_43, bytesT_43, und_43, elemT_43, isSliceT_43, zero1_43, zeroT_43, aggT_3, sizeT_3, bytesT_3, und_3, zero1_3, zeroT_3]
  (refine (r_inLoop_some ?_).trans h; kernel_rfl)
theorem step188 (z : Bool) (l els : List Int) (n a : Int) (d : Bool) (k : Nat) (hb : els.length < 100000000) (hk : l[k]? = some a) (hl : (k : Int) < l.length) (out : Option Out)
    (h : H188a ext 0 (E188 z l (ordStep n (els, d) a).1 n (ordStep n (els, d) a).2 (wr ((k : Int) + 1))) (mkO 1 ((ordStep n (els, d) a).1.map inD)) = out) : H188a ext 0 (E188 z l els n d k) (mkO 1 (els.map inD)) = out := by
  have h0 : (0 : Int) ≤ k := by omega
  have hd : listD z 1 (l.map inD) = .s 1 (l.map inD) := listD_of_lt h0 (by simpa using hl)
  unfold H188a at h ⊢
  simp only [dV, iV, bV, E188, hd, ordStep] at h ⊢
  cases d with
  | true =>
    simp only [Bool.true_eq_false, false_and, if_false, List.map_append, List.map_cons, List.map_nil, mkV_snoc, mkO_snoc, inD_eq a] at h ⊢
    cases els with
    | nil =>
      simp only [List.map_nil, mkV_nil, mkO_nil, List.nil_append] at h ⊢
      (rw [show (It.code L188a) = It.code (sub B188 [1, 1, 1, 0, 1, 0, 0]) from rfl]; simp only [B188, K188a, sub, Option.getD_some, Tryz.f188, ↓reduceIte, Nat.one_ne_zero])
      simp only [zS, nilEq, wantedA, opA, eff, boxA, cells, ev, gt, pt, putO, updO, setO, okC, loadA, cutC, fieldAddrA, fieldA, indexAddrA, indexA, builtinA, callOpA, callV, target, ptrV, lenS, binA, intOp, strOp, unA, num, lk, over, allocA, pickA, buildA, fillA, convertA, extractA, ofComp, nilCheckA, makeFuncA, ptrs, ofValue, cellB, Nat.reduceAdd, Nat.reduceSub, Nat.reduceMul, Nat.reduceLT, Nat.reduceLeDiff, Nat.reduceGT, ↓reduceIte, Nat.reduceEqDiff, Nat.reduceBEq, reduceCtorEq, Int.reduceBEq, Int.reduceBNe, Int.reduceLT, Int.reduceLE, Int.reduceGT, Int.reduceGE, aggT_43, sizeT_43, bytesT_43, und_43, elemT_43, isSliceT_43, zero1_43, zeroT_43, aggT_3, sizeT_3, bytesT_3, und_3, zero1_3, zeroT_3, h0, hl, Bool.not_true, Int.toNat_natCast, hk, inD, bsIn, no43, apH_arr, oo43, apG_arr, Nat.zero_le]
      (refine (r_inLoop_some ?_).trans h; kernel_rfl)
    | cons a r =>
      have hb' : r.length + 1 ≤ 1000000000 := by simp only [List.length_cons] at hb; omega
      have hb2 : r.length + 1 + 1 ≤ 1000000000 := by simp only [List.length_cons] at hb; omega
      simp only [List.map_cons, mkV_cons, mkO_cons, List.cons_append, List.nil_append] at h ⊢
      (rw [show (It.code L188a) = It.code (sub B188 [1, 1, 1, 0, 1, 0, 0]) from rfl]; simp only [B188, K188a, sub, Option.getD_some, Tryz.f188, ↓reduceIte, Nat.one_ne_zero])
      simp only [zS, nilEq, wantedA, opA, eff, boxA, cells, ev, gt, pt, putO, updO, setO, okC, loadA, cutC, fieldAddrA, fieldA, indexAddrA, indexA, builtinA, callOpA, callV, target, ptrV, lenS, binA, intOp, strOp, unA, num, lk, over, allocA, pickA, buildA, fillA, convertA, extractA, ofComp, nilCheckA, makeFuncA, ptrs, ofValue, cellB, Nat.reduceAdd, Nat.reduceSub, Nat.reduceMul, Nat.reduceLT, Nat.reduceLeDiff, Nat.reduceGT, ↓reduceIte, Nat.reduceEqDiff, Nat.reduceBEq, reduceCtorEq, Int.reduceBEq, Int.reduceBNe, Int.reduceLT, Int.reduceLE, Int.reduceGT, Int.reduceGE, aggT_43, sizeT_43, bytesT_43, und_43, elemT_43, isSliceT_43, zero1_43, zeroT_43, aggT_3, sizeT_3, bytesT_3, und_3, zero1_3, zeroT_3, h0, hl, Bool.not_true, Int.toNat_natCast, hk, inD, bsIn, oo43, apG_arr, hb', hb2]
      (refine (r_inLoop_some ?_).trans h; kernel_rfl)
  | false =>
    by_cases h1 : n ≤ a
    · by_cases h2 : n = a
      · subst h2
        simp only [Int.le_refl, true_and, if_true, List.map_append, List.map_cons, List.map_nil, mkV_snoc, mkO_snoc, inD_eq n] at h ⊢
        cases els with
        | nil =>
          simp only [List.map_nil, mkV_nil, mkO_nil, List.nil_append] at h ⊢
          (rw [show (It.code L188a) = It.code (sub B188 [1, 1, 1, 0, 1, 0, 0]) from rfl]; simp only [B188, K188a, sub, Option.getD_some, Tryz.f188, ↓reduceIte, Nat.one_ne_zero])
          simp only [zS, nilEq, wantedA, opA, eff, boxA, cells, ev, gt, pt, putO, updO, setO, okC, loadA, cutC, fieldAddrA, fieldA, indexAddrA, indexA, builtinA, callOpA, callV, target, ptrV, lenS, binA, intOp, strOp, unA, num, lk, over, allocA, pickA, buildA, fillA, convertA, extractA, ofComp, nilCheckA, makeFuncA, ptrs, ofValue, cellB, Nat.reduceAdd, Nat.reduceSub, Nat.reduceMul, Nat.reduceLT, Nat.reduceLeDiff, Nat.reduceGT, ↓reduceIte, Nat.reduceEqDiff, Nat.reduceBEq, reduceCtorEq, Int.reduceBEq, Int.reduceBNe, Int.reduceLT, Int.reduceLE, Int.reduceGT, Int.reduceGE, aggT_43, sizeT_43, bytesT_43, und_43, elemT_43, isSliceT_43, zero1_43, zeroT_43, aggT_3, sizeT_3, bytesT_3, und_3, zero1_3, zeroT_3, h0, hl, Int.le_refl, Int.toNat_natCast, hk, inD, bsIn, no43, apH_arr, oo43, apG_arr, Nat.zero_le]
          (refine (r_inLoop_some ?_).trans h; kernel_rfl)
        | cons a r =>
          have hb' : r.length + 1 ≤ 1000000000 := by simp only [List.length_cons] at hb; omega
          have hb2 : r.length + 1 + 1 ≤ 1000000000 := by simp only [List.length_cons] at hb; omega
          simp only [List.map_cons, mkV_cons, mkO_cons, List.cons_append, List.nil_append] at h ⊢
          (rw [show (It.code L188a) = It.code (sub B188 [1, 1, 1, 0, 1, 0, 0]) from rfl]; simp only [B188, K188a, sub, Option.getD_some, Tryz.f188, ↓reduceIte, Nat.one_ne_zero])
          simp only [zS, nilEq, wantedA, opA, eff, boxA, cells, ev, gt, pt, putO, updO, setO, okC, loadA, cutC, fieldAddrA, fieldA, indexAddrA, indexA, builtinA, callOpA, callV, target, ptrV, lenS, binA, intOp, strOp, unA, num, lk, over, allocA, pickA, buildA, fillA, convertA, extractA, ofComp, nilCheckA, makeFuncA, ptrs, ofValue, cellB, Nat.reduceAdd, Nat.reduceSub, Nat.reduceMul, Nat.reduceLT, Nat.reduceLeDiff, Nat.reduceGT, ↓reduceIte, Nat.reduceEqDiff, Nat.reduceBEq, reduceCtorEq, Int.reduceBEq, Int.reduceBNe, Int.reduceLT, Int.reduceLE, Int.reduceGT, Int.reduceGE, aggT_43, sizeT_43, bytesT_43, und_43, elemT_43, isSliceT_43, zero1_43, zeroT_43, aggT_3, sizeT_3, bytesT_3, und_3, zero1_3, zeroT_3, h0, hl, Int.le_refl, Int.toNat_natCast, hk, inD, bsIn, oo43, apG_arr, hb', hb2]
          (refine (r_inLoop_some ?_).trans h; kernel_rfl)
      · simp only [h1, h2, true_and, if_true, if_false, List.map_append, List.map_cons, List.map_nil, mkV_snoc, mkO_snoc, inD_eq n, inD_eq a] at h ⊢
        cases els with
        | nil =>
          simp only [List.map_nil, mkV_nil, mkO_nil, List.nil_append] at h ⊢
          (rw [show (It.code L188a) = It.code (sub B188 [1, 1, 1, 0, 1, 0, 0]) from rfl]; simp only [B188, K188a, sub, Option.getD_some, Tryz.f188, ↓reduceIte, Nat.one_ne_zero])
          simp only [zS, nilEq, wantedA, opA, eff, boxA, cells, ev, gt, pt, putO, updO, setO, okC, loadA, cutC, fieldAddrA, fieldA, indexAddrA, indexA, builtinA, callOpA, callV, target, ptrV, lenS, binA, intOp, strOp, unA, num, lk, over, allocA, pickA, buildA, fillA, convertA, extractA, ofComp, nilCheckA, makeFuncA, ptrs, ofValue, cellB, Nat.reduceAdd, Nat.reduceSub, Nat.reduceMul, Nat.reduceLT, Nat.reduceLeDiff, Nat.reduceGT, ↓reduceIte, Nat.reduceEqDiff, Nat.reduceBEq, reduceCtorEq, Int.reduceBEq, Int.reduceBNe, Int.reduceLT, Int.reduceLE, Int.reduceGT, Int.reduceGE, aggT_43, sizeT_43, bytesT_43, und_43, elemT_43, isSliceT_43, zero1_43, zeroT_43, aggT_3, sizeT_3, bytesT_3, und_3, zero1_3, zeroT_3, h0, hl, h1, h2, Int.toNat_natCast, hk, inD, bsIn, no43, apH_arr, oo43, apG_arr, Nat.zero_le]
          (refine (r_inLoop_some ?_).trans h; kernel_rfl)
        | cons a r =>
          have hb' : r.length + 1 ≤ 1000000000 := by simp only [List.length_cons] at hb; omega
          have hb2 : r.length + 1 + 1 ≤ 1000000000 := by simp only [List.length_cons] at hb; omega
          simp only [List.map_cons, mkV_cons, mkO_cons, List.cons_append, List.nil_append] at h ⊢
          (rw [show (It.code L188a) = It.code (sub B188 [1, 1, 1, 0, 1, 0, 0]) from rfl]; simp only [B188, K188a, sub, Option.getD_some, Tryz.f188, ↓reduceIte, Nat.one_ne_zero])
          simp only [zS, nilEq, wantedA, opA, eff, boxA, cells, ev, gt, pt, putO, updO, setO, okC, loadA, cutC, fieldAddrA, fieldA, indexAddrA, indexA, builtinA, callOpA, callV, target, ptrV, lenS, binA, intOp, strOp, unA, num, lk, over, allocA, pickA, buildA, fillA, convertA, extractA, ofComp, nilCheckA, makeFuncA, ptrs, ofValue, cellB, Nat.reduceAdd, Nat.reduceSub, Nat.reduceMul, Nat.reduceLT, Nat.reduceLeDiff, Nat.reduceGT, ↓reduceIte, Nat.reduceEqDiff, Nat.reduceBEq, reduceCtorEq, Int.reduceBEq, Int.reduceBNe, Int.reduceLT, Int.reduceLE, Int.reduceGT, Int.reduceGE, aggT_43, sizeT_43, bytesT_43, und_43, elemT_43, isSliceT_43, zero1_43, zeroT_43, aggT_3, sizeT_3, bytesT_3, und_3, zero1_3, zeroT_3, h0, hl, h1, h2, Int.toNat_natCast, hk, inD, bsIn, oo43, apG_arr, hb', hb2]
          (refine (r_inLoop_some ?_).trans h; kernel_rfl)
    · simp only [h1, and_false, if_false, List.map_append, List.map_cons, List.map_nil, mkV_snoc, mkO_snoc, inD_eq a] at h ⊢
      cases els with
      | nil =>
        simp only [List.map_nil, mkV_nil, mkO_nil, List.nil_append] at h ⊢
        (rw [show (It.code L188a) = It.code (sub B188 [1, 1, 1, 0, 1, 0, 0]) from rfl]; simp only [B188, K188a, sub, Option.getD_some, Tryz.f188, ↓reduceIte, Nat.one_ne_zero])
        simp only [zS, nilEq, wantedA, opA, eff, boxA, cells, ev, gt, pt, putO, updO, setO, okC, loadA, cutC, fieldAddrA, fieldA, indexAddrA, indexA, builtinA, callOpA, callV, target, ptrV, lenS, binA, intOp, strOp, unA, num, lk, over, allocA, pickA, buildA, fillA, convertA, extractA, ofComp, nilCheckA, makeFuncA, ptrs, ofValue, cellB, Nat.reduceAdd, Nat.reduceSub, Nat.reduceMul, Nat.reduceLT, Nat.reduceLeDiff, Nat.reduceGT, ↓reduceIte, Nat.reduceEqDiff, Nat.reduceBEq, reduceCtorEq, Int.reduceBEq, Int.reduceBNe, Int.reduceLT, Int.reduceLE, Int.reduceGT, Int.reduceGE, aggT_43, sizeT_43, bytesT_43, und_43, elemT_43, isSliceT_43, zero1_43, zeroT_43, aggT_3, sizeT_3, bytesT_3, und_3, zero1_3, zeroT_3, h0, hl, h1, Int.toNat_natCast, hk, inD, bsIn, no43, apH_arr, oo43, apG_arr, Nat.zero_le]
        (refine (r_inLoop_some ?_).trans h; kernel_rfl)
      | cons a r =>
        have hb' : r.length + 1 ≤ 1000000000 := by simp only [List.length_cons] at hb; omega
        have hb2 : r.length + 1 + 1 ≤ 1000000000 := by simp only [List.length_cons] at hb; omega
        simp only [List.map_cons, mkV_cons, mkO_cons, List.cons_append, List.nil_append] at h ⊢
        (rw [show (It.code L188a) = It.code (sub B188 [1, 1, 1, 0, 1, 0, 0]) from rfl]; simp only [B188, K188a, sub, Option.getD_some, Tryz.f188, ↓reduceIte, Nat.one_ne_zero])
        simp only [zS, nilEq, wantedA, opA, eff, boxA, cells, ev, gt, pt, putO, updO, setO, okC, loadA, cutC, fieldAddrA, fieldA, indexAddrA, indexA, builtinA, callOpA, callV, target, ptrV, lenS, binA, intOp, strOp, unA, num, lk, over, allocA, pickA, buildA, fillA, convertA, extractA, ofComp, nilCheckA, makeFuncA, ptrs, ofValue, cellB, Nat.reduceAdd, Nat.reduceSub, Nat.reduceMul, Nat.reduceLT, Nat.reduceLeDiff, Nat.reduceGT, ↓reduceIte, Nat.reduceEqDiff, Nat.reduceBEq, reduceCtorEq, Int.reduceBEq, Int.reduceBNe, Int.reduceLT, Int.reduceLE, Int.reduceGT, Int.reduceGE, aggT_43, sizeT_43, bytesT_43, und_43, elemT_43, isSliceT_43, zero1_43, zeroT_43, aggT_3, sizeT_3, bytesT_3, und_3, zero1_3, zeroT_3, h0, hl, h1, Int.toNat_natCast, hk, inD, bsIn, oo43, apG_arr, hb', hb2]
        (refine (r_inLoop_some ?_).trans h; kernel_rfl)
theorem done188 (z : Bool) (l els : List Int) (n : Int) (d : Bool) (hb : els.length < 100000000) : H188a ext 0 (E188 z l els n d l.length) (mkO 1 (els.map inD)) = some (.ret [dV (listD true 1 ((if d = true then els else els ++ [n]).map inD))] []) := by
  unfold H188a
  cases d with
  | true =>
    cases els
    all_goals
      simp only [dV, iV, bV, E188, if_true, List.map_cons, List.map_nil, mkV_nil, mkV_cons, mkO_nil, mkO_cons, listD_n1, listD_t1]
      (rw [show (It.code L188a) = It.code (sub B188 [1, 1, 1, 0, 1, 0, 0]) from rfl]; simp only [B188, K188a, sub, Option.getD_some, Tryz.f188, ↓reduceIte, Nat.one_ne_zero])
      simp only [zS, nilEq, wantedA, opA, eff, boxA, cells, ev, gt, pt, putO, updO, setO, okC, loadA, cutC, fieldAddrA, fieldA, indexAddrA, indexA, builtinA, callOpA, callV, target, ptrV, lenS, binA, intOp, strOp, unA, num, lk, over, allocA, pickA, buildA, fillA, convertA, extractA, ofComp, nilCheckA, makeFuncA, ptrs, ofValue, cellB, Nat.reduceAdd, Nat.reduceSub, Nat.reduceMul, Nat.reduceLT, Nat.reduceLeDiff, Nat.reduceGT, ↓reduceIte, Nat.reduceEqDiff, Nat.reduceBEq, reduceCtorEq, Int.reduceBEq, Int.reduceBNe, Int.reduceLT, Int.reduceLE, Int.reduceGT, Int.reduceGE, aggT_43, sizeT_43, bytesT_43, und_43, elemT_43, isSliceT_43, zero1_43, zeroT_43, aggT_3, sizeT_3, bytesT_3, und_3, zero1_3, zeroT_3, Int.lt_irrefl]
      (refine Eq.trans ?_ rfl; kernel_rfl)
  | false =>
    cases els with
    | nil =>
      simp only [dV, iV, bV, E188, Bool.false_eq_true, if_false, List.nil_append, List.map_cons, List.map_nil, mkV_nil, mkO_nil, listD_t1, inD_eq n]
      (rw [show (It.code L188a) = It.code (sub B188 [1, 1, 1, 0, 1, 0, 0]) from rfl]; simp only [B188, K188a, sub, Option.getD_some, Tryz.f188, ↓reduceIte, Nat.one_ne_zero])
      simp only [zS, nilEq, wantedA, opA, eff, boxA, cells, ev, gt, pt, putO, updO, setO, okC, loadA, cutC, fieldAddrA, fieldA, indexAddrA, indexA, builtinA, callOpA, callV, target, ptrV, lenS, binA, intOp, strOp, unA, num, lk, over, allocA, pickA, buildA, fillA, convertA, extractA, ofComp, nilCheckA, makeFuncA, ptrs, ofValue, cellB, Nat.reduceAdd, Nat.reduceSub, Nat.reduceMul, Nat.reduceLT, Nat.reduceLeDiff, Nat.reduceGT, ↓reduceIte, Nat.reduceEqDiff, Nat.reduceBEq, reduceCtorEq, Int.reduceBEq, Int.reduceBNe, Int.reduceLT, Int.reduceLE, Int.reduceGT, Int.reduceGE, aggT_43, sizeT_43, bytesT_43, und_43, elemT_43, isSliceT_43, zero1_43, zeroT_43, aggT_3, sizeT_3, bytesT_3, und_3, zero1_3, zeroT_3, Int.lt_irrefl, bsIn, no43, apH_arr, Nat.zero_le]
      (refine Eq.trans ?_ rfl; kernel_rfl)
    | cons a r =>
      have hb' : r.length + 1 ≤ 1000000000 := by simp only [List.length_cons] at hb; omega
      simp only [dV, iV, bV, E188, Bool.false_eq_true, if_false, List.map_append, List.cons_append, List.map_cons, List.map_nil, mkV_cons, mkO_cons, listD_t1, inD_eq n]
      (rw [show (It.code L188a) = It.code (sub B188 [1, 1, 1, 0, 1, 0, 0]) from rfl]; simp only [B188, K188a, sub, Option.getD_some, Tryz.f188, ↓reduceIte, Nat.one_ne_zero])
      simp only [zS, nilEq, wantedA, opA, eff, boxA, cells, ev, gt, pt, putO, updO, setO, okC, loadA, cutC, fieldAddrA, fieldA, indexAddrA, indexA, builtinA, callOpA, callV, target, ptrV, lenS, binA, intOp, strOp, unA, num, lk, over, allocA, pickA, buildA, fillA, convertA, extractA, ofComp, nilCheckA, makeFuncA, ptrs, ofValue, cellB, Nat.reduceAdd, Nat.reduceSub, Nat.reduceMul, Nat.reduceLT, Nat.reduceLeDiff, Nat.reduceGT, ↓reduceIte, Nat.reduceEqDiff, Nat.reduceBEq, reduceCtorEq, Int.reduceBEq, Int.reduceBNe, Int.reduceLT, Int.reduceLE, Int.reduceGT, Int.reduceGE, aggT_43, sizeT_43, bytesT_43, und_43, elemT_43, isSliceT_43, zero1_43, zeroT_43, aggT_3, sizeT_3, bytesT_3, und_3, zero1_3, zeroT_3, Int.lt_irrefl, bsIn, oo43, apG_arr, hb']
      (refine Eq.trans ?_ rfl; kernel_rfl)
theorem ord188 (hx : ext 188 = none) (z : Bool) (l : List Int) (n : Int) (hs : l.length < 50000000) : run Tryz.prog ext (.call 188 [dV (listD z 1 (l.map inD)), iV n] []) = some (.ret [dV (listD true 1 ((ordL l n).map inD))] []) := by
  refine enter188 ext hx z l n _ ?_
  have := loop_inv l (fun k (s : List Int × Bool) => H188a ext 0 (E188 z l s.1 n s.2 k) (mkO 1 (s.1.map inD))) (fun k s => s = (l.take k).foldl (ordStep n) ([], false) ∧ s.1.length ≤ k + s.2.toNat) (fun o => o = some (.ret [dV (listD true 1 ((ordL l n).map inD))] [])) (by omega)
    (fun k a s hI hk hl => by
      obtain ⟨hI, hlen⟩ := hI
      have hb : s.1.length < 100000000 := by
        have : s.2.toNat ≤ 1 := by cases s.2 <;> simp
        omega
      exact ⟨ordStep n s a, ⟨by rw [List.take_add_one, hk, List.foldl_append, ← hI]; rfl, ordStep_len n s a k hlen⟩, fun out ho => step188 ext z l s.1 n a s.2 k hb hk hl out ho⟩) (fun s hI => by
      obtain ⟨hI, hlen⟩ := hI
      have hb : s.1.length < 100000000 := by
        have : s.2.toNat ≤ 1 := by cases s.2 <;> simp
        omega
      rw [List.take_length] at hI
      rw [done188 ext z l s.1 n s.2 hb, hI]
      rfl) ([], false) ⟨rfl, by simp⟩
  exact this
/-! ### Vars -/
def E187a (vs : List LV) (k : Int) : Env := [(1, .c (.ptr 0 0)), (3, dV (listD true 2 (vs.map lvD))), (4, iV k)]
theorem enter187 (hx : ext 187 = none) (u : Lev) (out : Option Out) (h : H187a ext 0 (E187a [] 0) [.box (levC u)] = out) : run Tryz.prog ext (.call 187 [levV u] []) = out := by
  have e : listD true 2 [] = .v (.slice none 0 0) := rfl
  unfold H187a at h
  (rw [run_eq]; simp only [stepA, hx, Tryz.func187, Tryz.f187, show retF 187 = false from rfl]; simp only [List.length_cons, List.length_nil, Nat.reduceAdd, Nat.reduceLeDiff, Nat.zero_le, ↓reduceIte, List.zipIdx_cons, List.zipIdx_nil, List.map_cons, List.map_nil])
  simp only [levV, levC, dV, iV, E187a, List.map_nil, e] at h ⊢
  simp only [zS, nilEq, wantedA, opA, eff, boxA, cells, ev, gt, pt, putO, updO, setO, okC, loadA, cutC, fieldAddrA, fieldA, indexAddrA, indexA, builtinA, callOpA, callV, target, ptrV, lenS, binA, intOp, strOp, unA, num, lk, over, allocA, pickA, buildA, fillA, convertA, extractA, ofComp, nilCheckA, makeFuncA, ptrs, ofValue, cellB, Nat.reduceAdd, Nat.reduceSub, Nat.reduceMul, Nat.reduceLT, Nat.reduceLeDiff, Nat.reduceGT, ↓reduceIte, Nat.reduceEqDiff, Nat.reduceBEq, reduceCtorEq, Int.reduceBEq, Int.reduceBNe, Int.reduceLT, Int.reduceLE, Int.reduceGT, Int.reduceGE, aggT_36, sizeT_36, bytesT_36, fieldT_36_0, fieldT_36_1, placesT_36, zeroT_36, aggT_34, sizeT_34, bytesT_34, und_34, elemT_34, isSliceT_34, zero1_34, zeroT_34, aggT_110, sizeT_110, bytesT_110, fieldT_110_0, fieldT_110_1, placesT_110, zeroT_110, aggT_3, sizeT_3, bytesT_3, und_3, zero1_3, zeroT_3]
  (refine (r_inLoop_some ?_).trans h; kernel_rfl)
theorem listD_put (l : List LV) (x : LV) : listD true 2 ((putL l x).map lvD) = .s 2 ((putL l x).map lvD) := listD_ne (by simp [putL_ne])
theorem vdN_lt {u : Lev} {k : Nat} (h : (k : Int) < u.vs.length) : u.d = .s 2 (u.vs.map lvD) := by unfold Lev.d; exact listD_of_lt (b := k) (by omega) (by simpa using h)
theorem step187a (hp : ext 196 = none) (u : Lev) (y : LV) (vs : List LV) (hb : vs.length < 40000000) (k : Nat) (hk : u.vs[k]? = some y) (hl : (k : Int) < u.vs.length) (out : Option Out)
    (h : H187a ext 0 (E187a (putL vs ⟨y.v, 0⟩) (wr ((k : Int) + 1))) [.box (levC u)] = out) : H187a ext 0 (E187a vs k) [.box (levC u)] = out := by
  have h0 : (0 : Int) ≤ k := by omega
  have hr := putL_D ext hp true vs ⟨y.v, 0⟩ hb
  rw [← listD_put] at hr
  unfold H187a at h ⊢
  simp only [levC, lvV, lvC, dV, iV, E187a, listD_put, vdN_lt hl] at h hr ⊢
  (rw [show (It.code L187a) = It.code (sub B187 [1, 1, 0, 1, 0, 0]) from rfl]; simp only [B187, K187a, sub, Option.getD_some, Tryz.f187, ↓reduceIte, Nat.one_ne_zero])
  simp only [zS, nilEq, wantedA, opA, eff, boxA, cells, ev, gt, pt, putO, updO, setO, okC, loadA, cutC, fieldAddrA, fieldA, indexAddrA, indexA, builtinA, callOpA, callV, target, ptrV, lenS, binA, intOp, strOp, unA, num, lk, over, allocA, pickA, buildA, fillA, convertA, extractA, ofComp, nilCheckA, makeFuncA, ptrs, ofValue, cellB, Nat.reduceAdd, Nat.reduceSub, Nat.reduceMul, Nat.reduceLT, Nat.reduceLeDiff, Nat.reduceGT, ↓reduceIte, Nat.reduceEqDiff, Nat.reduceBEq, reduceCtorEq, Int.reduceBEq, Int.reduceBNe, Int.reduceLT, Int.reduceLE, Int.reduceGT, Int.reduceGE, aggT_36, sizeT_36, bytesT_36, fieldT_36_0, fieldT_36_1, placesT_36, zeroT_36, aggT_34, sizeT_34, bytesT_34, und_34, elemT_34, isSliceT_34, zero1_34, zeroT_34, aggT_110, sizeT_110, bytesT_110, fieldT_110_0, fieldT_110_1, placesT_110, zeroT_110, aggT_3, sizeT_3, bytesT_3, und_3, zero1_3, zeroT_3, lenA_vd, h0, hl, Int.toNat_natCast, hk, lvD, hr]
  (refine (r_inLoop_some ?_).trans h; kernel_rfl)
def E187b (vs : List LV) (ns : List Int) (k : Int) : Env := [(3, dV (listD true 2 (vs.map lvD))), (5, mkV 0 (ns.map inD)), (6, iV k)]
theorem mid187 (u : Lev) (vs : List LV) (out : Option Out) (h : H187b ext 0 (E187b vs [] 0) [] = out) : H187a ext 0 (E187a vs u.vs.length) [.box (levC u)] = out := by
  unfold H187b at h
  unfold H187a
  simp only [levC, dV, iV, E187a, E187b, List.map_nil, mkV_nil] at h ⊢
  (rw [show (It.code L187a) = It.code (sub B187 [1, 1, 0, 1, 0, 0]) from rfl]; simp only [B187, K187a, sub, Option.getD_some, Tryz.f187, ↓reduceIte, Nat.one_ne_zero])
  simp only [zS, nilEq, wantedA, opA, eff, boxA, cells, ev, gt, pt, putO, updO, setO, okC, loadA, cutC, fieldAddrA, fieldA, indexAddrA, indexA, builtinA, callOpA, callV, target, ptrV, lenS, binA, intOp, strOp, unA, num, lk, over, allocA, pickA, buildA, fillA, convertA, extractA, ofComp, nilCheckA, makeFuncA, ptrs, ofValue, cellB, Nat.reduceAdd, Nat.reduceSub, Nat.reduceMul, Nat.reduceLT, Nat.reduceLeDiff, Nat.reduceGT, ↓reduceIte, Nat.reduceEqDiff, Nat.reduceBEq, reduceCtorEq, Int.reduceBEq, Int.reduceBNe, Int.reduceLT, Int.reduceLE, Int.reduceGT, Int.reduceGE, aggT_36, sizeT_36, bytesT_36, fieldT_36_0, fieldT_36_1, placesT_36, zeroT_36, aggT_34, sizeT_34, bytesT_34, und_34, elemT_34, isSliceT_34, zero1_34, zeroT_34, aggT_3, sizeT_3, bytesT_3, und_3, zero1_3, zeroT_3, lenA_vd, Int.lt_irrefl]
  (refine (r_inLoop_some ?_).trans h; kernel_rfl)
theorem step187b (vs : List LV) (y : LV) (ns : List Int) (hb : ns.length < 100000000) (k : Nat) (hk : vs[k]? = some y) (hl : (k : Int) < vs.length) (out : Option Out)
    (h : H187b ext 0 (E187b vs (ns ++ [y.v]) (wr ((k : Int) + 1))) (mkO 1 ((ns ++ [y.v]).map inD)) = out) : H187b ext 0 (E187b vs ns k) (mkO 1 (ns.map inD)) = out := by
  have h0 : (0 : Int) ≤ k := by omega
  have hd : listD true 2 (vs.map lvD) = .s 2 (vs.map lvD) := listD_of_lt h0 (by simpa using hl)
  unfold H187b at h ⊢
  cases ns with
  | nil =>
    simp only [dV, iV, E187b, hd, List.map_append, List.map_cons, List.map_nil, mkV_nil, mkO_nil, mkV_snoc, mkO_snoc, List.nil_append, inD_eq] at h ⊢
    (rw [show (It.code L187b) = It.code (sub B187 [1, 1, 1, 1, 0, 1, 0, 0]) from rfl]; simp only [B187, K187b, sub, Option.getD_some, Tryz.f187, ↓reduceIte, Nat.one_ne_zero])
    simp only [zS, nilEq, wantedA, opA, eff, boxA, cells, ev, gt, pt, putO, updO, setO, okC, loadA, cutC, fieldAddrA, fieldA, indexAddrA, indexA, builtinA, callOpA, callV, target, ptrV, lenS, binA, intOp, strOp, unA, num, lk, over, allocA, pickA, buildA, fillA, convertA, extractA, ofComp, nilCheckA, makeFuncA, ptrs, ofValue, cellB, Nat.reduceAdd, Nat.reduceSub, Nat.reduceMul, Nat.reduceLT, Nat.reduceLeDiff, Nat.reduceGT, ↓reduceIte, Nat.reduceEqDiff, Nat.reduceBEq, reduceCtorEq, Int.reduceBEq, Int.reduceBNe, Int.reduceLT, Int.reduceLE, Int.reduceGT, Int.reduceGE, aggT_34, sizeT_34, bytesT_34, und_34, elemT_34, isSliceT_34, zero1_34, zeroT_34, aggT_110, sizeT_110, bytesT_110, fieldT_110_0, fieldT_110_1, placesT_110, zeroT_110, aggT_43, sizeT_43, bytesT_43, und_43, elemT_43, isSliceT_43, zero1_43, zeroT_43, aggT_3, sizeT_3, bytesT_3, und_3, zero1_3, zeroT_3, h0, hl, Int.toNat_natCast, hk, lvD, bsIn, no43, apH_arr, Nat.zero_le]
    (refine (r_inLoop_some ?_).trans h; kernel_rfl)
  | cons a r =>
    have hb' : r.length + 1 ≤ 1000000000 := by simp only [List.length_cons] at hb; omega
    simp only [dV, iV, E187b, hd, List.map_append, List.map_cons, List.map_nil, mkV_cons, mkO_cons, mkV_snoc, mkO_snoc, List.cons_append, List.nil_append, inD_eq] at h ⊢
    (rw [show (It.code L187b) = It.code (sub B187 [1, 1, 1, 1, 0, 1, 0, 0]) from rfl]; simp only [B187, K187b, sub, Option.getD_some, Tryz.f187, ↓reduceIte, Nat.one_ne_zero])
    simp only [zS, nilEq, wantedA, opA, eff, boxA, cells, ev, gt, pt, putO, updO, setO, okC, loadA, cutC, fieldAddrA, fieldA, indexAddrA, indexA, builtinA, callOpA, callV, target, ptrV, lenS, binA, intOp, strOp, unA, num, lk, over, allocA, pickA, buildA, fillA, convertA, extractA, ofComp, nilCheckA, makeFuncA, ptrs, ofValue, cellB, Nat.reduceAdd, Nat.reduceSub, Nat.reduceMul, Nat.reduceLT, Nat.reduceLeDiff, Nat.reduceGT, ↓reduceIte, Nat.reduceEqDiff, Nat.reduceBEq, reduceCtorEq, Int.reduceBEq, Int.reduceBNe, Int.reduceLT, Int.reduceLE, Int.reduceGT, Int.reduceGE, aggT_34, sizeT_34, bytesT_34, und_34, elemT_34, isSliceT_34, zero1_34, zeroT_34, aggT_110, sizeT_110, bytesT_110, fieldT_110_0, fieldT_110_1, placesT_110, zeroT_110, aggT_43, sizeT_43, bytesT_43, und_43, elemT_43, isSliceT_43, zero1_43, zeroT_43, aggT_3, sizeT_3, bytesT_3, und_3, zero1_3, zeroT_3, h0, hl, Int.toNat_natCast, hk, lvD, bsIn, oo43, apG_arr, hb']
    (refine (r_inLoop_some ?_).trans h; kernel_rfl)
theorem done187 (vs : List LV) (ns : List Int) : H187b ext 0 (E187b vs ns vs.length) (mkO 1 (ns.map inD)) = some (.ret [dV (listD true 1 (ns.map inD))] []) := by
  unfold H187b
  cases ns
  all_goals
    simp only [dV, iV, E187b, List.map_cons, List.map_nil, mkV_nil, mkV_cons, mkO_nil, mkO_cons]
    (rw [show (It.code L187b) = It.code (sub B187 [1, 1, 1, 1, 0, 1, 0, 0]) from rfl]; simp only [B187, K187b, sub, Option.getD_some, Tryz.f187, ↓reduceIte, Nat.one_ne_zero])
    simp only [zS, nilEq, wantedA, opA, eff, boxA, cells, ev, gt, pt, putO, updO, setO, okC, loadA, cutC, fieldAddrA, fieldA, indexAddrA, indexA, builtinA, callOpA, callV, target, ptrV, lenS, binA, intOp, strOp, unA, num, lk, over, allocA, pickA, buildA, fillA, convertA, extractA, ofComp, nilCheckA, makeFuncA, ptrs, ofValue, cellB, Nat.reduceAdd, Nat.reduceSub, Nat.reduceMul, Nat.reduceLT, Nat.reduceLeDiff, Nat.reduceGT, ↓reduceIte, Nat.reduceEqDiff, Nat.reduceBEq, reduceCtorEq, Int.reduceBEq, Int.reduceBNe, Int.reduceLT, Int.reduceLE, Int.reduceGT, Int.reduceGE, aggT_34, sizeT_34, bytesT_34, und_34, elemT_34, isSliceT_34, zero1_34, zeroT_34, aggT_43, sizeT_43, bytesT_43, und_43, elemT_43, isSliceT_43, zero1_43, zeroT_43, aggT_3, sizeT_3, bytesT_3, und_3, zero1_3, zeroT_3, Int.lt_irrefl]
    (refine Eq.trans ?_ rfl; kernel_rfl)
def varsL (u : Lev) : List Int := (u.vs.foldl (fun l y => putL l ⟨y.v, 0⟩) []).map LV.v
theorem putF_len (f : List LV → LV → List LV) (hf : ∀ l y, (f l y).length ≤ l.length + 1) : ∀ (l : List LV) (s : List LV), (l.foldl f s).length ≤ s.length + l.length
  | [], s => Nat.le_refl _
  | a :: l, s => by have := putF_len f hf l (f s a); have := hf s a; simp only [List.foldl_cons, List.length_cons]; omega
theorem varsL_len (u : Lev) : (varsL u).length ≤ u.vs.length := by
  have := putF_len (fun l y => putL l ⟨y.v, 0⟩) (fun l y => putL_len l _) u.vs []
  simpa [varsL] using this
theorem vars187 (hx : ext 187 = none) (hp : ext 196 = none) (u : Lev) (hs : u.vs.length < 40000000) : run Tryz.prog ext (.call 187 [levV u] []) = some (.ret [dV (listD true 1 ((varsL u).map inD))] []) := by
  refine enter187 ext hx u _ ?_
  have := loop_inv u.vs (fun k vs => H187a ext 0 (E187a vs k) [.box (levC u)]) (fun k vs => vs = (u.vs.take k).foldl (fun l y => putL l ⟨y.v, 0⟩) []) (fun o => o = some (.ret [dV (listD true 1 ((varsL u).map inD))] [])) (by omega)
    (fun k y vs hI hk hl => by
      have hb := putF_len (fun l y => putL l ⟨y.v, 0⟩) (fun l y => putL_len l _) (u.vs.take k) []
      rw [← hI] at hb
      exact ⟨putL vs ⟨y.v, 0⟩, by rw [List.take_add_one, hk, List.foldl_append, ← hI]; rfl, fun out ho => step187a ext hp u y vs (by simp at hb; omega) k hk hl out ho⟩) (fun vs hI => by
      rw [List.take_length] at hI
      have hb := putF_len (fun l y => putL l ⟨y.v, 0⟩) (fun l y => putL_len l _) u.vs []
      rw [← hI] at hb
      refine mid187 ext u vs _ ?_
      have h2 := loop_inv vs (fun k ns => H187b ext 0 (E187b vs ns k) (mkO 1 (ns.map inD))) (fun k ns => ns = (vs.take k).map LV.v) (fun o => o = some (.ret [dV (listD true 1 ((varsL u).map inD))] [])) (by simp at hb; omega)
        (fun k y ns hI2 hk hl => ⟨ns ++ [y.v], by rw [List.take_add_one, hk, List.map_append, ← hI2]; rfl, fun out ho => step187b ext vs y ns (by rw [hI2]; simp at hb ⊢; omega) k hk hl out ho⟩) (fun ns hI2 => by
          rw [List.take_length] at hI2
          rw [done187, hI2, hI]
          rfl) [] rfl
      exact h2) [] rfl
  exact this
end Go.Proofs.YteenjodhmppgjaaGreatDoor.Am
end
