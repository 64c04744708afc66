/- Part 6 of the proof of the card of TableFits, second form: no statement of its own; no conditions. -/
import Derived.Test.YteenjodhmppgjaaGreatDoorPa5
import Derived.ChangeMaps5
set_option linter.unusedSimpArgs false
set_option linter.unusedVariables false
set_option linter.defProp false
set_option linter.unusedSectionVars false
section
/- Calls that are handed a slice that is read and lengthened. -/
namespace Go.Proofs.YteenjodhmppgjaaGreatDoor.Am
open Go
set_option maxHeartbeats 4000000
theorem dataC_noAp {c : C} (h : dataC c = true) : noApC c = true := by cases c <;> first | rfl | cases h
theorem dataV_noAp {v : V} (h : dataV v = true) : noApV v = true := by
  cases v with
  | c x => exact dataC_noAp h
  | agg cs => exact List.all_eq_true.2 fun c hc => dataC_noAp (List.all_eq_true.1 h c hc)
  | tup vs => cases h
theorem sameC_in (i : Int) : sameC [.v (.int .i64 i)] [.v (.int .i64 i)] = true := by simp [sameC]
theorem sameL_in : ∀ l : List Int, sameL (l.map inD) (l.map inD) = true
  | [] => rfl
  | a :: l => by simp only [List.map_cons, sameL, inD, sameC_in, sameL_in l, Bool.and_self]
theorem sameL_snoc (l : List Int) (i : Int) : sameL (l.map inD ++ [[.v (.int .i64 i)]]) (l.map inD ++ [[.v (.int .i64 i)]]) = true := by
  have := sameL_in (l ++ [i])
  rwa [List.map_append] at this
def skK (rec : Rec) (look : Look) (slot : Nat) (f : FuncId) (pre : List V) (id : Nat) (o : Option O) : Option Eff :=
  match o with
  | some (.stk k els none _) => stkBack look slot (callOut [id] [] slot (rec (.call f (pre ++ [.c (.own 0)]) [.stk k els none true])))
  | some (.arr k els) => if castF f = true then stkBack look slot (callOut [id] [] slot (castOut [.arr k els] (rec (.call f (pre ++ [.c (.own 0)]) [.stk k els none true])))) else callA rec look slot f (pre ++ [.c (.own id)])
  | _ => callA rec look slot f (pre ++ [.c (.own id)])
theorem callA_sk (rec : Rec) (look : Look) (slot : Nat) (f : FuncId) (pre : List V) (id : Nat) (hf : ownF f = true) (hp : pre.all dataV = true) :
    callA rec look slot f (pre ++ [.c (.own id)]) = skK rec look slot f pre id (look id) := by
  obtain ⟨k1, k2, k3⟩ := argVs_data (look := look) hp
  have a2 : (pre ++ [V.c (.own id)]).flatMap refsV = [id] := by rw [List.flatMap_append, k2]; rfl
  have a4 : mapO (renV (pos [id])) (pre ++ [.c (.own id)]) = some (pre ++ [.c (.own 0)]) := by
    have e : renV (pos [id]) (.c (.own id)) = some (.c (.own 0)) := by simp [renV, renC, pos]
    have : ∀ l : List V, mapO (renV (pos [id])) l = some l → mapO (renV (pos [id])) (l ++ [.c (.own id)]) = some (l ++ [.c (.own 0)]) := by
      intro l
      induction l with
      | nil => intro _; simp only [List.nil_append, mapO, e]
      | cons v l ih =>
        intro h
        simp only [mapO] at h
        cases h1 : renV (pos [id]) v with
        | none => rw [h1] at h; cases h
        | some v' =>
          rw [h1] at h
          cases h2 : mapO (renV (pos [id])) l with
          | none => rw [h2] at h; cases h
          | some l' =>
            rw [h2] at h
            simp only [Option.some.injEq, List.cons.injEq] at h
            obtain ⟨rfl, rfl⟩ := h
            simp only [List.cons_append, mapO, h1, ih h2]
    exact this pre (k3 _)
  cases hl : look id with
  | none => rfl
  | some o =>
    cases o with
    | stk k els cur r =>
      cases cur with
      | some c => rfl
      | none =>
        unfold callA callPrep skK
        rw [hf]
        simp only [argVsK]
        have a3 : Am.reach look 200 [] [id] = [id] := by
          show (if ([] : List Nat).contains id = true then _ else Am.reach look 199 ([] ++ [id]) ([] ++ refsO (look id))) = [id]
          rw [hl]
          rfl
        have a5 : mapO look [id] = some [.stk k els none r] := by simp only [mapO, hl]
        have a9 : [O.stk k els none r].map enterO = [O.stk k els none true] := rfl
        have a6 : mapO (renO (pos [id])) [.stk k els none true] = some [.stk k els none true] := rfl
        have a7 : callRec rec f (pre ++ [.c (.own 0)]) [.stk k els none true] = rec (.call f (pre ++ [.c (.own 0)]) [.stk k els none true]) := by unfold callRec; rfl
        have a8 : stkOK look [id] = true := by simp [stkOK, stkOne, hl, isStk]
        simp only [a2, a3, a4, a5, a9, a6, a8]
        refine Eq.trans (b := stkBack look slot (callOut [id] [] slot (callRec rec f (pre ++ [.c (.own 0)]) [.stk k els none true]))) (by simp [callFin]) ?_
        rw [a7]
    | arr k els =>
      cases hcf : castF f with
      | false => simp [skK, hcf]
      | true =>
        unfold skK
        dsimp only
        rw [hcf, if_pos rfl]
        unfold callA callPrep
        rw [hf]
        simp only [argVsK]
        have a3 : Am.reach look 200 [] [id] = [id] := by
          show (if ([] : List Nat).contains id = true then _ else Am.reach look 199 ([] ++ [id]) ([] ++ refsO (look id))) = [id]
          rw [hl]
          rfl
        have a5 : mapO look [id] = some [.arr k els] := by simp only [mapO, hl]
        have a9 : [O.arr k els].map enterO = [O.arr k els] := rfl
        have a6 : mapO (renO (pos [id])) [.arr k els] = some [.arr k els] := rfl
        have a8 : stkOK look [id] = true := by simp [stkOK, stkOne, hl, isStk]
        have hap : (pre ++ [V.c (.own 0)]).all noApV = true := by
          rw [List.all_append, List.all_eq_true.2 fun v hv => dataV_noAp (List.all_eq_true.1 hp v hv)]; rfl
        have a7 : callRec rec f (pre ++ [.c (.own 0)]) [.arr k els] = castOut [.arr k els] (rec (.call f (pre ++ [.c (.own 0)]) [.stk k els none true])) := by
          unfold callRec
          rw [hcf, hap]
          rfl
        simp only [a2, a3, a4, a5, a9, a6, a8]
        refine Eq.trans (b := stkBack look slot (callOut [id] [] slot (callRec rec f (pre ++ [.c (.own 0)]) [.arr k els]))) (by simp [callFin]) ?_
        rw [a7]
    | _ => rfl
section
variable (rec : Rec) (look : Look) (slot : Nat) (f : FuncId)
theorem callA_sk1 (id : Nat) (hf : ownF f = true) : callA rec look slot f [.c (.own id)] = skK rec look slot f [] id (look id) := callA_sk rec look slot f [] id hf rfl
theorem callA_sk2 (a : V) (id : Nat) (hf : ownF f = true) (ha : dataV a = true) : callA rec look slot f [a, .c (.own id)] = skK rec look slot f [a] id (look id) := callA_sk rec look slot f [a] id hf (by simp [ha])
theorem callA_sk4 (a b c : V) (id : Nat) (hf : ownF f = true) (ha : dataV a = true) (hb : dataV b = true) (hc : dataV c = true) : callA rec look slot f [a, b, c, .c (.own id)] = skK rec look slot f [a, b, c] id (look id) := callA_sk rec look slot f [a, b, c] id hf (by simp [ha, hb, hc])
theorem skK_stk (pre : List V) (id k : Nat) (els : List (List D)) (r : Bool) : skK rec look slot f pre id (some (.stk k els none r)) = stkBack look slot (callOut [id] [] slot (rec (.call f (pre ++ [.c (.own 0)]) [.stk k els none true]))) := rfl
theorem skK_arr (pre : List V) (id k : Nat) (els : List (List D)) (hc : castF f = true) : skK rec look slot f pre id (some (.arr k els)) = stkBack look slot (callOut [id] [] slot (castOut [.arr k els] (rec (.call f (pre ++ [.c (.own 0)]) [.stk k els none true])))) := by unfold skK; dsimp only; rw [if_pos hc]
theorem sk_back (id k : Nat) (els : List (List D)) (v : V) (c : Option Nat) (r : Bool) (hv : dataV v = true) (hl : sameO (.stk k els none true) (look id) = true) (hid : id < slot) : stkBack look slot (callOut [id] [] slot (some (.ret [v] [.stk k els c r]))) = some ⟨.val v, [], [id]⟩ := by
  obtain ⟨_, _, h3⟩ := argV_data (look := fun _ => none) hv
  obtain ⟨els', c', r', hl'⟩ : ∃ els' c' r', look id = some (.stk k els' c' r') := by
    cases h : look id with
    | none => rw [h] at hl; cases hl
    | some o =>
      rw [h] at hl
      cases o with
      | stk k' els' c' r' =>
        simp only [sameO, Bool.and_eq_true, decide_eq_true_eq] at hl
        exact ⟨els', c', r', by rw [hl.1]⟩
      | _ => cases hl
  rw [hl'] at hl
  simp only [sameO, Bool.and_eq_true, decide_eq_true_eq] at hl
  have hb : ∀ c2 : Option Nat, backOK look slot [id] [(id, .stk k els c2 r)] = true := by
    intro c2
    simp [backOK, backP, hl', isStk, sameO, hl.2, hid]
  simp only [callOut, answer, mapO, h3, results1, renO, List.length_cons, List.length_nil, Nat.lt_irrefl, if_false, number, List.zipIdx_cons, List.zipIdx_nil, List.map_cons, List.map_nil, back, List.isEmpty_cons, Bool.and_false, kills, List.append_nil, Nat.zero_add, Nat.zero_lt_one, if_true, List.getElem?_cons_zero, Option.getD_some, Bool.false_eq_true]
  simp only [stkBack, hb, if_true, notStk, isStk, List.filter_cons, List.filter_nil, Bool.not_true, Bool.false_eq_true, if_false]
theorem sk_gone (id k : Nat) (els els' : List (List D)) (v : V) (c : Option Nat) (r : Bool) (hv : dataV v = true) (hl : isStk (look id) = false) : stkBack look slot (callOut [id] [] slot (castOut [.arr k els] (some (.ret [v] [.stk k els' c r])))) = some ⟨.val v, [(id, .gone)], [id]⟩ := by
  obtain ⟨_, _, h3⟩ := argV_data (look := fun _ => none) hv
  have hb : backOK look slot [id] [(id, .gone)] = true := by
    simp only [backOK, List.all_cons, List.all_nil, backP, hl, Bool.and_false, Bool.false_eq_true, if_false, Bool.and_true]; rfl
  simp only [castOut, uncast, callOut, answer, mapO, h3, results1, renO, List.length_cons, List.length_nil, Nat.lt_irrefl, if_false, number, List.zipIdx_cons, List.zipIdx_nil, List.map_cons, List.map_nil, back, List.isEmpty_cons, Bool.and_false, kills, List.append_nil, Nat.zero_add, Nat.zero_lt_one, if_true, List.getElem?_cons_zero, Option.getD_some, Bool.false_eq_true]
  simp only [stkBack, hb, if_true, notStk, isStk, List.filter_cons, List.filter_nil, Bool.not_false]
end
section
variable {P : Program} {look : Look} {slot : Nat} {t e : TypeId} {k b : Nat} (h1 : elemT P t = some e) (h2 : sizeT P e = some k) (h3 : bytesT P e = some b) (h4 : (zeroT P e).map List.length = some k) (h5 : 0 < k)
include h1 h2 h3 h4 h5
theorem app_so (id j : Nat) (els new : List (List D)) (hi : look id = some (.stk k els none true)) (hj : look j = some (.arr k new)) (hn : 0 < new.length) (hb : b ≤ 1000) (h6 : els.length ≤ 1000000000) (h7 : new.length ≤ 1000000000) (hne : ¬ j = id) :
    appendA P look slot [t, t] [.c (.own id), .c (.own j)] = some ⟨.val (.c (.own slot)), [(j, .gone), (id, .stk k els (some slot) true), (slot, .stk k (els ++ new) none false)], [j, id]⟩ := by
  have hc : ([j].contains id) = false := by simp; exact fun e => hne e.symm
  have h8 : (els.length + new.length) * b ≤ 140737488355328 := Nat.le_trans (Nat.mul_le_mul (Nat.add_le_add h6 h7) hb) (by decide)
  have h9 : els.length + new.length ≤ 9223372036854775807 := by omega
  simp only [appendA, h1, h2, h3, h4, h5, addedA, addedR, isStk, hj, hi, ne_eq, not_true_eq_false, if_false, and_self, if_true, List.append_nil, Bool.false_eq_true]
  rw [if_pos ⟨trivial, h8, h9, hc, hn⟩]
  rfl
theorem app_as (id j : Nat) (els new : List (List D)) (c : Option Nat) (r : Bool) (hi : look id = some (.arr k els)) (hj : look j = some (.stk k new c r)) (hb : b ≤ 1000) (h6 : els.length ≤ 1000000000) (h7 : new.length ≤ 1000000000) :
    appendA P look slot [t, t] [.c (.own id), .c (.own j)] = some ⟨.val (.c (.own slot)), [(id, .gone), (slot, .arr k (els ++ new))], [id, j]⟩ := by
  have h8 : (els.length + new.length) * b ≤ 140737488355328 := Nat.le_trans (Nat.mul_le_mul (Nat.add_le_add h6 h7) hb) (by decide)
  have h9 : els.length + new.length ≤ 9223372036854775807 := by omega
  simp only [appendA, h1, h2, h3, h4, h5, addedA, addedR, isStk, hj, hi, ne_eq, not_true_eq_false, if_false, and_self, if_true, List.append_nil, Bool.false_eq_true]
  rw [if_pos ⟨trivial, h8, h9, rfl⟩]
  rfl
end
theorem apG_d (k b slot id j k1 : Nat) (els new : List (List D)) (c : Option Nat) (r : Bool) (d : Option Eff) : apG k b slot id j (some (.stk k1 els c r)) (some (.arr k new)) d = d := by unfold apG; dsimp only; rw [if_pos rfl]
theorem apG_e (k b slot id j k1 : Nat) (o : Option O) (els : List (List D)) (c : Option Nat) (r : Bool) (d : Option Eff) : apG k b slot id j o (some (.stk k1 els c r)) d = d := rfl
/-- A slice that is read and lengthened gets one element more. -/
theorem apG_stk (look : Look) (slot id j : Nat) (els new : List (List D)) (hi : look id = some (.stk 1 els none true)) (hj : look j = some (.arr 1 new)) (hn : 0 < new.length) (h6 : els.length ≤ 1000000000) (h7 : new.length ≤ 1000000000) (hne : ¬ j = id) :
    apG 1 8 slot id j (some (.stk 1 els none true)) (some (.arr 1 new)) (apD Tryz.prog look slot 43 (.c (.own id)) (.c (.own j))) = some ⟨.val (.c (.own slot)), [(j, .gone), (id, .stk 1 els (some slot) true), (slot, .stk 1 (els ++ new) none false)], [j, id]⟩ := by
  rw [apG_d]
  unfold apD
  exact app_so (P := Tryz.prog) (slot := slot) elemT_43 sizeT_3 bytesT_3 z43 (by decide) id j els new hi hj hn (by decide) h6 h7 hne
theorem apG_as (look : Look) (slot id j : Nat) (els new : List (List D)) (c : Option Nat) (r : Bool) (hi : look id = some (.arr 1 els)) (hj : look j = some (.stk 1 new c r)) (h6 : els.length ≤ 1000000000) (h7 : new.length ≤ 1000000000) :
    apG 1 8 slot id j (some (.arr 1 els)) (some (.stk 1 new c r)) (apD Tryz.prog look slot 43 (.c (.own id)) (.c (.own j))) = some ⟨.val (.c (.own slot)), [(id, .gone), (slot, .arr 1 (els ++ new))], [id, j]⟩ := by
  rw [apG_e]
  unfold apD
  exact app_as (P := Tryz.prog) (slot := slot) elemT_43 sizeT_3 bytesT_3 z43 (by decide) id j els new c r hi hj (by decide) h6 h7
end Go.Proofs.YteenjodhmppgjaaGreatDoor.Am
end
section
/- Refusals with a path: Clone, refuse. -/
namespace Go.Proofs.YteenjodhmppgjaaGreatDoor.Am
open Go
variable (ext : Ext)
set_option maxHeartbeats 8000000
set_option maxRecDepth 4000
/-- A path that came in: nil, or a slice that is read and lengthened. -/
def pV (p : List Int) : V := match p with | [] => dV nilD | _ :: _ => .c (.own 0)
def pO (p : List Int) : List O := match p with | [] => [] | a :: r => [.stk 1 ((a :: r).map inD) none true]
def pathD (p : List Int) : D := listD true 1 (p.map inD)
theorem pathD_nil : pathD [] = .v (.slice none 0 0) := rfl
theorem pathD_cons (a : Int) (r : List Int) : pathD (a :: r) = .s 1 ((a :: r).map inD) := by unfold pathD; exact listD_ne (by simp)
theorem bs43_0 (look : Look) (slot : Nat) : buildSliceA Tryz.prog look slot 43 0 [] = some ⟨.val (.c (.own slot)), [(slot, .arr 1 [])], []⟩ := by
  simp only [buildSliceA, elemT_43, sizeT_3, List.map_nil, toDss]
  rw [if_pos]
  · rfl
  · exact ⟨rfl, by decide, by decide, rfl, i43⟩
theorem clone163 (hx : ext 163 = none) (p : List Int) (hp : p.length < 2 ^ 29) : run Tryz.prog ext (.call 163 [pV p] (pO p)) = some (.ret [dV (pathD p)] (pO p)) := by
  cases p with
  | nil =>
    (rw [run_eq]; simp only [stepA, hx, Tryz.func163, Tryz.f163, show retF 163 = false from rfl]; simp only [List.length_cons, List.length_nil, Nat.reduceAdd, Nat.reduceLeDiff, Nat.zero_le, ↓reduceIte, List.zipIdx_cons, List.zipIdx_nil, List.map_cons, List.map_nil])
    simp only [pV, pO, dV, nilD, pathD_nil]
    simp only [zS, zD, convertA, makeFuncA, Nat.reduceAdd, Nat.reduceSub, Nat.reduceMul, Nat.reduceLT, Nat.reduceLeDiff, Nat.reduceGT, ↓reduceIte, Nat.reduceEqDiff, Nat.reduceBEq, reduceCtorEq, Int.reduceBEq, Int.reduceBNe, Int.reduceLT, Int.reduceLE, Int.reduceGT, Int.reduceGE, zT43, zT3, Option.isNone_none]
    (refine Eq.trans ?_ rfl; kernel_rfl)
  | cons a r =>
    rw [pathD_cons]
    have h6 : ([] : List (List D)).length ≤ 1000000000 := by decide
    have h7 : ((a :: r).map inD).length ≤ 1000000000 := by simp only [List.length_map]; simp only [List.length_cons] at hp ⊢; omega
    have e1 : pV (a :: r) = .c (.own 0) := rfl
    have e2 : pO (a :: r) = [.stk 1 ((a :: r).map inD) none true] := rfl
    rw [e1, e2]
    generalize (a :: r).map inD = els at h7 ⊢
    (rw [run_eq]; simp only [stepA, hx, Tryz.func163, Tryz.f163, show retF 163 = false from rfl]; simp only [List.length_cons, List.length_nil, Nat.reduceAdd, Nat.reduceLeDiff, Nat.zero_le, ↓reduceIte, List.zipIdx_cons, List.zipIdx_nil, List.map_cons, List.map_nil])
    simp only [dV]
    simp only [zS, zD, convertA, makeFuncA, Nat.reduceAdd, Nat.reduceSub, Nat.reduceMul, Nat.reduceLT, Nat.reduceLeDiff, Nat.reduceGT, ↓reduceIte, Nat.reduceEqDiff, Nat.reduceBEq, reduceCtorEq, Int.reduceBEq, Int.reduceBNe, Int.reduceLT, Int.reduceLE, Int.reduceGT, Int.reduceGE, zT43, zT3, bs43_0, oo43, apG_as, h6, h7]
    (refine Eq.trans ?_ rfl; kernel_rfl)
/-- An error: a code and a path. -/
def erV (c : Int) (p : List Int) : V := match p with
  | [] => .c (.d (.v (.iface 128 (.agg #[.int .i64 c, .slice none 0 0]))))
  | a :: r => .c (.d (.i 128 [.v (.int .i64 c), .s 1 ((a :: r).map inD)]))
theorem mi128n (look : Look) (c : Int) : makeInterfaceA Tryz.prog look 128 (.agg [.d (.v (.int .i64 c)), .d (.v (.slice none 0 0))]) = some ⟨.val (.c (.d (.v (.iface 128 (.agg #[.int .i64 c, .slice none 0 0]))))), [], []⟩ := by
  simp only [makeInterfaceA, Tryz.underlying128, plainV, mapO, plainC, eff]
theorem mi128s (look : Look) (c : Int) (els : List (List D)) : makeInterfaceA Tryz.prog look 128 (.agg [.d (.v (.int .i64 c)), .d (.s 1 els)]) = some ⟨.val (.c (.d (.i 128 [.v (.int .i64 c), .s 1 els]))), [], []⟩ := by
  simp only [makeInterfaceA, Tryz.underlying128, plainV, mapO, plainC, eff, ifaceD, toDs, toD, kills, List.append_nil, List.map_nil]
theorem refuse102 (hx : ext 102 = none) (c : Int) (p : List Int) (hr : run Tryz.prog ext (.call 163 [pV p] (pO p)) = some (.ret [dV (pathD p)] (pO p))) : run Tryz.prog ext (.call 102 [iV c, pV p] (pO p)) = some (.ret [erV c p] (pO p)) := by
  cases p with
  | nil =>
    (rw [run_eq]; simp only [stepA, hx, Tryz.func102, Tryz.f102, show retF 102 = false from rfl]; simp only [List.length_cons, List.length_nil, Nat.reduceAdd, Nat.reduceLeDiff, Nat.zero_le, ↓reduceIte, List.zipIdx_cons, List.zipIdx_nil, List.map_cons, List.map_nil])
    simp only [pV, pO, dV, iV, nilD, pathD_nil, erV] at hr ⊢
    simp only [zS, zD, convertA, makeFuncA, Nat.reduceAdd, Nat.reduceSub, Nat.reduceMul, Nat.reduceLT, Nat.reduceLeDiff, Nat.reduceGT, ↓reduceIte, Nat.reduceEqDiff, Nat.reduceBEq, reduceCtorEq, Int.reduceBEq, Int.reduceBNe, Int.reduceLT, Int.reduceLE, Int.reduceGT, Int.reduceGE, zT128, zT85, zT43, zT27, zT3, hr, mi128n]
    (refine Eq.trans ?_ rfl; kernel_rfl)
  | cons a r =>
    have hs := sameL_in (a :: r)
    have e1 : pV (a :: r) = .c (.own 0) := rfl
    have e2 : pO (a :: r) = [.stk 1 ((a :: r).map inD) none true] := rfl
    have e3 : erV c (a :: r) = .c (.d (.i 128 [.v (.int .i64 c), .s 1 ((a :: r).map inD)])) := rfl
    rw [e1, e2, pathD_cons] at hr
    rw [e1, e2, e3]
    generalize (a :: r).map inD = els at hr hs ⊢
    (rw [run_eq]; simp only [stepA, hx, Tryz.func102, Tryz.f102, show retF 102 = false from rfl]; simp only [List.length_cons, List.length_nil, Nat.reduceAdd, Nat.reduceLeDiff, Nat.zero_le, ↓reduceIte, List.zipIdx_cons, List.zipIdx_nil, List.map_cons, List.map_nil])
    simp only [dV, iV] at hr ⊢
    simp only [zS, zD, convertA, makeFuncA, Nat.reduceAdd, Nat.reduceSub, Nat.reduceMul, Nat.reduceLT, Nat.reduceLeDiff, Nat.reduceGT, ↓reduceIte, Nat.reduceEqDiff, Nat.reduceBEq, reduceCtorEq, Int.reduceBEq, Int.reduceBNe, Int.reduceLT, Int.reduceLE, Int.reduceGT, Int.reduceGE, zT128, zT85, zT43, zT27, zT3, callA_sk1, (id rfl : ownF 163 = true), skK_stk, hr, sk_back, sameO, hs, mi128s]
    (refine Eq.trans ?_ rfl; kernel_rfl)
end Go.Proofs.YteenjodhmppgjaaGreatDoor.Am
end
section
/- The name of a node, by the program. Printed by tb/gennp.py. -/
namespace Go.Proofs.YteenjodhmppgjaaGreatDoor.Am
open Go
variable (ext : Ext)
set_option maxHeartbeats 16000000
set_option maxRecDepth 8000
def arB (t : Tm) (d : Dc) : Bool := ((t.u.length : Int) != d.levels) || (((t.op == 27) && decide ((d.cons.length : Int) ≤ t.n)) || ((t.op == 28) && (wr ((t.l.length : Int) - 3) != (d.cons.length : Int))))
/-- What is wrong with the name of a node, by what its name leads to. -/
def ndE (t : Tm) (th fa : Dc × Bool) : Int :=
  if (t.op == 2) = true then (if th.2 = true then (if ((t.u.length : Int) != th.1.levels) = true then 42 else 0) else 41)
  else if ((t.op == 26) || ((t.op == 27) || (t.op == 28))) = true then (if fa.2 = true then (if arB t fa.1 = true then 42 else 0) else 41)
  else 0
def errV (e : Int) (p : List Int) : V := if e = 0 then dV (.v .nilIface) else erV e p
theorem errV_41 (p : List Int) : errV 41 p = erV 41 p := rfl
theorem errV_42 (p : List Int) : errV 42 p = erV 42 p := rfl
theorem binB_pn (P : Program) (op : BinOp) (t : TypeId) (c : Bool) : binB P op t c (.c (.d (.v (.pointer none)))) (.c (.d (.v (.pointer none)))) = if isPtrT P t = true then nilEq op true else none := id rfl

theorem nd109_2n (hx : ext 109 = none) (x : Tb) (t : Tm) (w : Int → D) (th : Dc × Bool) (e2 : (t.op == 2) = true) (r102 : ∀ c, run Tryz.prog ext (.call 102 [iV c, dV nilD] []) = some (.ret [dV (w c)] [])) (h78 : run Tryz.prog ext (.call 78 [tbV x, sV t.s] []) = some (.ret [dcV th.1, bV th.2] [])) :
    run Tryz.prog ext (.call 109 [tbV x, dV (.v (.pointer none)), tmV t, dV nilD] []) = some (.ret [if th.2 = true then (if ((t.u.length : Int) != th.1.levels) = true then dV (w 42) else V.c (.d (.v .nilIface))) else dV (w 41)] []) := by
  obtain ⟨d, b⟩ := th
  cases b with
  | false =>
    (rw [run_eq]; simp only [stepA, hx, Tryz.func109, Tryz.f109, show retF 109 = false from rfl]; simp only [List.length_cons, List.length_nil, Nat.reduceAdd, Nat.reduceLeDiff, Nat.zero_le, ↓reduceIte, List.zipIdx_cons, List.zipIdx_nil, List.map_cons, List.map_nil])
    simp only [tbV, tbC, dV, sV, iV, bV, tmV, tmC, dcV, dcC, nilD, Tm.uD] at r102 h78 ⊢
    simp only [zS, zD, convertA, makeFuncA, Nat.reduceAdd, Nat.reduceSub, Nat.reduceMul, Nat.reduceLT, Nat.reduceLeDiff, Nat.reduceGT, ↓reduceIte, Nat.reduceEqDiff, Nat.reduceBEq, reduceCtorEq, Int.reduceBEq, Int.reduceBNe, Int.reduceLT, Int.reduceLE, Int.reduceGT, Int.reduceGE, zT24, zT39, zT33, zT31, zT30, zT37, zT22, zT9, zT4, zT3, zT85, zT43, zT27, zT133, binB_pn, lenA_uD, h78, callOut_vd, e2, r102, callOut_one]
    (refine Eq.trans ?_ rfl; kernel_rfl)
  | true =>
    cases c : ((t.u.length : Int) != d.levels) with
    | true =>
      (rw [run_eq]; simp only [stepA, hx, Tryz.func109, Tryz.f109, show retF 109 = false from rfl]; simp only [List.length_cons, List.length_nil, Nat.reduceAdd, Nat.reduceLeDiff, Nat.zero_le, ↓reduceIte, List.zipIdx_cons, List.zipIdx_nil, List.map_cons, List.map_nil])
      simp only [tbV, tbC, dV, sV, iV, bV, tmV, tmC, dcV, dcC, nilD, Tm.uD] at r102 h78 ⊢
      simp only [zS, zD, convertA, makeFuncA, Nat.reduceAdd, Nat.reduceSub, Nat.reduceMul, Nat.reduceLT, Nat.reduceLeDiff, Nat.reduceGT, ↓reduceIte, Nat.reduceEqDiff, Nat.reduceBEq, reduceCtorEq, Int.reduceBEq, Int.reduceBNe, Int.reduceLT, Int.reduceLE, Int.reduceGT, Int.reduceGE, zT24, zT39, zT33, zT31, zT30, zT37, zT22, zT9, zT4, zT3, zT85, zT43, zT27, zT133, binB_pn, lenA_listD, List.length_map, h78, callOut_vd, e2, c, r102, callOut_one]
      (refine Eq.trans ?_ rfl; kernel_rfl)
    | false =>
      (rw [run_eq]; simp only [stepA, hx, Tryz.func109, Tryz.f109, show retF 109 = false from rfl]; simp only [List.length_cons, List.length_nil, Nat.reduceAdd, Nat.reduceLeDiff, Nat.zero_le, ↓reduceIte, List.zipIdx_cons, List.zipIdx_nil, List.map_cons, List.map_nil])
      simp only [tbV, tbC, dV, sV, iV, bV, tmV, tmC, dcV, dcC, nilD, Tm.uD] at r102 h78 ⊢
      simp only [zS, zD, convertA, makeFuncA, Nat.reduceAdd, Nat.reduceSub, Nat.reduceMul, Nat.reduceLT, Nat.reduceLeDiff, Nat.reduceGT, ↓reduceIte, Nat.reduceEqDiff, Nat.reduceBEq, reduceCtorEq, Int.reduceBEq, Int.reduceBNe, Int.reduceLT, Int.reduceLE, Int.reduceGT, Int.reduceGE, zT24, zT39, zT33, zT31, zT30, zT37, zT22, zT9, zT4, zT3, zT85, zT43, zT27, zT133, binB_pn, lenA_listD, List.length_map, h78, callOut_vd, e2, c, r102, callOut_one]
      (refine Eq.trans ?_ rfl; kernel_rfl)

theorem nd109_0n (hx : ext 109 = none) (x : Tb) (t : Tm) (e2 : (t.op == 2) = false) (e26 : (t.op == 26) = false) (e27 : (t.op == 27) = false) (e28 : (t.op == 28) = false)  :
    run Tryz.prog ext (.call 109 [tbV x, dV (.v (.pointer none)), tmV t, dV nilD] []) = some (.ret [V.c (.d (.v .nilIface))] []) := by
  (rw [run_eq]; simp only [stepA, hx, Tryz.func109, Tryz.f109, show retF 109 = false from rfl]; simp only [List.length_cons, List.length_nil, Nat.reduceAdd, Nat.reduceLeDiff, Nat.zero_le, ↓reduceIte, List.zipIdx_cons, List.zipIdx_nil, List.map_cons, List.map_nil])
  simp only [tbV, tbC, dV, sV, iV, bV, tmV, tmC, dcV, dcC, nilD, Tm.uD]
  simp only [zS, zD, convertA, makeFuncA, Nat.reduceAdd, Nat.reduceSub, Nat.reduceMul, Nat.reduceLT, Nat.reduceLeDiff, Nat.reduceGT, ↓reduceIte, Nat.reduceEqDiff, Nat.reduceBEq, reduceCtorEq, Int.reduceBEq, Int.reduceBNe, Int.reduceLT, Int.reduceLE, Int.reduceGT, Int.reduceGE, zT24, zT39, zT33, zT31, zT30, zT37, zT22, zT9, zT4, zT3, zT85, zT43, zT27, zT133, binB_pn, e2, e26, e27, e28]
  (refine Eq.trans ?_ rfl; kernel_rfl)

theorem nd109_26n (hx : ext 109 = none) (x : Tb) (t : Tm) (w : Int → D) (fa : Dc × Bool) (e2 : (t.op == 2) = false) (e26 : (t.op == 26) = true) (e27 : (t.op == 27) = false) (e28 : (t.op == 28) = false) (r102 : ∀ c, run Tryz.prog ext (.call 102 [iV c, dV nilD] []) = some (.ret [dV (w c)] [])) (h71 : run Tryz.prog ext (.call 71 [tbV x, sV t.s] []) = some (.ret [dcV fa.1, bV fa.2] [])) :
    run Tryz.prog ext (.call 109 [tbV x, dV (.v (.pointer none)), tmV t, dV nilD] []) = some (.ret [if fa.2 = true then (if arB t fa.1 = true then dV (w 42) else V.c (.d (.v .nilIface))) else dV (w 41)] []) := by
  obtain ⟨d, b⟩ := fa
  cases b with
  | false =>
    (rw [run_eq]; simp only [stepA, hx, Tryz.func109, Tryz.f109, show retF 109 = false from rfl]; simp only [List.length_cons, List.length_nil, Nat.reduceAdd, Nat.reduceLeDiff, Nat.zero_le, ↓reduceIte, List.zipIdx_cons, List.zipIdx_nil, List.map_cons, List.map_nil])
    simp only [tbV, tbC, dV, sV, iV, bV, tmV, tmC, dcV, dcC, nilD, Tm.uD] at r102 h71 ⊢
    simp only [zS, zD, convertA, makeFuncA, Nat.reduceAdd, Nat.reduceSub, Nat.reduceMul, Nat.reduceLT, Nat.reduceLeDiff, Nat.reduceGT, ↓reduceIte, Nat.reduceEqDiff, Nat.reduceBEq, reduceCtorEq, Int.reduceBEq, Int.reduceBNe, Int.reduceLT, Int.reduceLE, Int.reduceGT, Int.reduceGE, zT24, zT39, zT33, zT31, zT30, zT37, zT22, zT9, zT4, zT3, zT85, zT43, zT27, zT133, binB_pn, lenA_listD, List.length_map, h71, callOut_vd, e2, e26, e27, e28]
    refine draw_of ?_
    simp only [zS, zD, convertA, makeFuncA, Nat.reduceAdd, Nat.reduceSub, Nat.reduceMul, Nat.reduceLT, Nat.reduceLeDiff, Nat.reduceGT, ↓reduceIte, Nat.reduceEqDiff, Nat.reduceBEq, reduceCtorEq, Int.reduceBEq, Int.reduceBNe, Int.reduceLT, Int.reduceLE, Int.reduceGT, Int.reduceGE, zT24, zT39, zT33, zT31, zT30, zT37, zT22, zT9, zT4, zT3, zT85, zT43, zT27, zT133, binB_pn, dC_nil, dC_cons, dcW_true, dcW_false, dcV1_val, holes_succ, holes_zero, Array.size, List.length, e2, e26, e27, e28]
    rw [afterDraw_some _ _ _ _ (by kernel_rfl)]
    simp only [zS, zD, convertA, makeFuncA, Nat.reduceAdd, Nat.reduceSub, Nat.reduceMul, Nat.reduceLT, Nat.reduceLeDiff, Nat.reduceGT, ↓reduceIte, Nat.reduceEqDiff, Nat.reduceBEq, reduceCtorEq, Int.reduceBEq, Int.reduceBNe, Int.reduceLT, Int.reduceLE, Int.reduceGT, Int.reduceGE, zT24, zT39, zT33, zT31, zT30, zT37, zT22, zT9, zT4, zT3, zT85, zT43, zT27, zT133, binB_pn, lenA_cd, ge_iff_le, lenA_listD, List.length_map, wrap_wr, e2, e26, e27, e28, r102, callOut_one]
    (refine Eq.trans ?_ rfl; kernel_rfl)
  | true =>
    unfold arB
    cases c : ((t.u.length : Int) != d.levels) with
    | true =>
      (rw [run_eq]; simp only [stepA, hx, Tryz.func109, Tryz.f109, show retF 109 = false from rfl]; simp only [List.length_cons, List.length_nil, Nat.reduceAdd, Nat.reduceLeDiff, Nat.zero_le, ↓reduceIte, List.zipIdx_cons, List.zipIdx_nil, List.map_cons, List.map_nil])
      simp only [tbV, tbC, dV, sV, iV, bV, tmV, tmC, dcV, dcC, nilD, Tm.uD] at r102 h71 ⊢
      simp only [zS, zD, convertA, makeFuncA, Nat.reduceAdd, Nat.reduceSub, Nat.reduceMul, Nat.reduceLT, Nat.reduceLeDiff, Nat.reduceGT, ↓reduceIte, Nat.reduceEqDiff, Nat.reduceBEq, reduceCtorEq, Int.reduceBEq, Int.reduceBNe, Int.reduceLT, Int.reduceLE, Int.reduceGT, Int.reduceGE, zT24, zT39, zT33, zT31, zT30, zT37, zT22, zT9, zT4, zT3, zT85, zT43, zT27, zT133, binB_pn, lenA_listD, List.length_map, h71, callOut_vd, e2, e26, e27, e28, c]
      refine draw_of ?_
      simp only [zS, zD, convertA, makeFuncA, Nat.reduceAdd, Nat.reduceSub, Nat.reduceMul, Nat.reduceLT, Nat.reduceLeDiff, Nat.reduceGT, ↓reduceIte, Nat.reduceEqDiff, Nat.reduceBEq, reduceCtorEq, Int.reduceBEq, Int.reduceBNe, Int.reduceLT, Int.reduceLE, Int.reduceGT, Int.reduceGE, zT24, zT39, zT33, zT31, zT30, zT37, zT22, zT9, zT4, zT3, zT85, zT43, zT27, zT133, binB_pn, dC_nil, dC_cons, dcW_true, dcW_false, dcV1_val, holes_succ, holes_zero, Array.size, List.length, e2, e26, e27, e28, c]
      rw [afterDraw_some _ _ _ _ (by kernel_rfl)]
      simp only [zS, zD, convertA, makeFuncA, Nat.reduceAdd, Nat.reduceSub, Nat.reduceMul, Nat.reduceLT, Nat.reduceLeDiff, Nat.reduceGT, ↓reduceIte, Nat.reduceEqDiff, Nat.reduceBEq, reduceCtorEq, Int.reduceBEq, Int.reduceBNe, Int.reduceLT, Int.reduceLE, Int.reduceGT, Int.reduceGE, zT24, zT39, zT33, zT31, zT30, zT37, zT22, zT9, zT4, zT3, zT85, zT43, zT27, zT133, binB_pn, lenA_cd, ge_iff_le, lenA_listD, List.length_map, wrap_wr, e2, e26, e27, e28, c, r102, callOut_one]
      (refine Eq.trans ?_ rfl; kernel_rfl)
    | false =>
      simp only [e27, e28, Bool.false_and, Bool.false_or, Bool.or_false]
      (rw [run_eq]; simp only [stepA, hx, Tryz.func109, Tryz.f109, show retF 109 = false from rfl]; simp only [List.length_cons, List.length_nil, Nat.reduceAdd, Nat.reduceLeDiff, Nat.zero_le, ↓reduceIte, List.zipIdx_cons, List.zipIdx_nil, List.map_cons, List.map_nil])
      simp only [tbV, tbC, dV, sV, iV, bV, tmV, tmC, dcV, dcC, nilD, Tm.uD] at r102 h71 ⊢
      simp only [zS, zD, convertA, makeFuncA, Nat.reduceAdd, Nat.reduceSub, Nat.reduceMul, Nat.reduceLT, Nat.reduceLeDiff, Nat.reduceGT, ↓reduceIte, Nat.reduceEqDiff, Nat.reduceBEq, reduceCtorEq, Int.reduceBEq, Int.reduceBNe, Int.reduceLT, Int.reduceLE, Int.reduceGT, Int.reduceGE, zT24, zT39, zT33, zT31, zT30, zT37, zT22, zT9, zT4, zT3, zT85, zT43, zT27, zT133, binB_pn, lenA_listD, List.length_map, h71, callOut_vd, e2, e26, e27, e28, c]
      refine draw_of ?_
      simp only [zS, zD, convertA, makeFuncA, Nat.reduceAdd, Nat.reduceSub, Nat.reduceMul, Nat.reduceLT, Nat.reduceLeDiff, Nat.reduceGT, ↓reduceIte, Nat.reduceEqDiff, Nat.reduceBEq, reduceCtorEq, Int.reduceBEq, Int.reduceBNe, Int.reduceLT, Int.reduceLE, Int.reduceGT, Int.reduceGE, zT24, zT39, zT33, zT31, zT30, zT37, zT22, zT9, zT4, zT3, zT85, zT43, zT27, zT133, binB_pn, dC_nil, dC_cons, dcW_true, dcW_false, dcV1_val, holes_succ, holes_zero, Array.size, List.length, e2, e26, e27, e28, c]
      rw [afterDraw_some _ _ _ _ (by kernel_rfl)]
      simp only [zS, zD, convertA, makeFuncA, Nat.reduceAdd, Nat.reduceSub, Nat.reduceMul, Nat.reduceLT, Nat.reduceLeDiff, Nat.reduceGT, ↓reduceIte, Nat.reduceEqDiff, Nat.reduceBEq, reduceCtorEq, Int.reduceBEq, Int.reduceBNe, Int.reduceLT, Int.reduceLE, Int.reduceGT, Int.reduceGE, zT24, zT39, zT33, zT31, zT30, zT37, zT22, zT9, zT4, zT3, zT85, zT43, zT27, zT133, binB_pn, lenA_cd, ge_iff_le, lenA_listD, List.length_map, wrap_wr, e2, e26, e27, e28, c, r102, callOut_one]
      (refine Eq.trans ?_ rfl; kernel_rfl)

theorem nd109_27n (hx : ext 109 = none) (x : Tb) (t : Tm) (w : Int → D) (fa : Dc × Bool) (e2 : (t.op == 2) = false) (e26 : (t.op == 26) = false) (e27 : (t.op == 27) = true) (e28 : (t.op == 28) = false) (r102 : ∀ c, run Tryz.prog ext (.call 102 [iV c, dV nilD] []) = some (.ret [dV (w c)] [])) (h71 : run Tryz.prog ext (.call 71 [tbV x, sV t.s] []) = some (.ret [dcV fa.1, bV fa.2] [])) :
    run Tryz.prog ext (.call 109 [tbV x, dV (.v (.pointer none)), tmV t, dV nilD] []) = some (.ret [if fa.2 = true then (if arB t fa.1 = true then dV (w 42) else V.c (.d (.v .nilIface))) else dV (w 41)] []) := by
  obtain ⟨d, b⟩ := fa
  cases b with
  | false =>
    (rw [run_eq]; simp only [stepA, hx, Tryz.func109, Tryz.f109, show retF 109 = false from rfl]; simp only [List.length_cons, List.length_nil, Nat.reduceAdd, Nat.reduceLeDiff, Nat.zero_le, ↓reduceIte, List.zipIdx_cons, List.zipIdx_nil, List.map_cons, List.map_nil])
    simp only [tbV, tbC, dV, sV, iV, bV, tmV, tmC, dcV, dcC, nilD, Tm.uD] at r102 h71 ⊢
    simp only [zS, zD, convertA, makeFuncA, Nat.reduceAdd, Nat.reduceSub, Nat.reduceMul, Nat.reduceLT, Nat.reduceLeDiff, Nat.reduceGT, ↓reduceIte, Nat.reduceEqDiff, Nat.reduceBEq, reduceCtorEq, Int.reduceBEq, Int.reduceBNe, Int.reduceLT, Int.reduceLE, Int.reduceGT, Int.reduceGE, zT24, zT39, zT33, zT31, zT30, zT37, zT22, zT9, zT4, zT3, zT85, zT43, zT27, zT133, binB_pn, lenA_listD, List.length_map, h71, callOut_vd, e2, e26, e27, e28]
    refine draw_of ?_
    simp only [zS, zD, convertA, makeFuncA, Nat.reduceAdd, Nat.reduceSub, Nat.reduceMul, Nat.reduceLT, Nat.reduceLeDiff, Nat.reduceGT, ↓reduceIte, Nat.reduceEqDiff, Nat.reduceBEq, reduceCtorEq, Int.reduceBEq, Int.reduceBNe, Int.reduceLT, Int.reduceLE, Int.reduceGT, Int.reduceGE, zT24, zT39, zT33, zT31, zT30, zT37, zT22, zT9, zT4, zT3, zT85, zT43, zT27, zT133, binB_pn, dC_nil, dC_cons, dcW_true, dcW_false, dcV1_val, holes_succ, holes_zero, Array.size, List.length, e2, e26, e27, e28]
    rw [afterDraw_some _ _ _ _ (by kernel_rfl)]
    simp only [zS, zD, convertA, makeFuncA, Nat.reduceAdd, Nat.reduceSub, Nat.reduceMul, Nat.reduceLT, Nat.reduceLeDiff, Nat.reduceGT, ↓reduceIte, Nat.reduceEqDiff, Nat.reduceBEq, reduceCtorEq, Int.reduceBEq, Int.reduceBNe, Int.reduceLT, Int.reduceLE, Int.reduceGT, Int.reduceGE, zT24, zT39, zT33, zT31, zT30, zT37, zT22, zT9, zT4, zT3, zT85, zT43, zT27, zT133, binB_pn, lenA_cd, ge_iff_le, lenA_listD, List.length_map, wrap_wr, e2, e26, e27, e28, r102, callOut_one]
    (refine Eq.trans ?_ rfl; kernel_rfl)
  | true =>
    unfold arB
    cases c : ((t.u.length : Int) != d.levels) with
    | true =>
      (rw [run_eq]; simp only [stepA, hx, Tryz.func109, Tryz.f109, show retF 109 = false from rfl]; simp only [List.length_cons, List.length_nil, Nat.reduceAdd, Nat.reduceLeDiff, Nat.zero_le, ↓reduceIte, List.zipIdx_cons, List.zipIdx_nil, List.map_cons, List.map_nil])
      simp only [tbV, tbC, dV, sV, iV, bV, tmV, tmC, dcV, dcC, nilD, Tm.uD] at r102 h71 ⊢
      simp only [zS, zD, convertA, makeFuncA, Nat.reduceAdd, Nat.reduceSub, Nat.reduceMul, Nat.reduceLT, Nat.reduceLeDiff, Nat.reduceGT, ↓reduceIte, Nat.reduceEqDiff, Nat.reduceBEq, reduceCtorEq, Int.reduceBEq, Int.reduceBNe, Int.reduceLT, Int.reduceLE, Int.reduceGT, Int.reduceGE, zT24, zT39, zT33, zT31, zT30, zT37, zT22, zT9, zT4, zT3, zT85, zT43, zT27, zT133, binB_pn, lenA_listD, List.length_map, h71, callOut_vd, e2, e26, e27, e28, c]
      refine draw_of ?_
      simp only [zS, zD, convertA, makeFuncA, Nat.reduceAdd, Nat.reduceSub, Nat.reduceMul, Nat.reduceLT, Nat.reduceLeDiff, Nat.reduceGT, ↓reduceIte, Nat.reduceEqDiff, Nat.reduceBEq, reduceCtorEq, Int.reduceBEq, Int.reduceBNe, Int.reduceLT, Int.reduceLE, Int.reduceGT, Int.reduceGE, zT24, zT39, zT33, zT31, zT30, zT37, zT22, zT9, zT4, zT3, zT85, zT43, zT27, zT133, binB_pn, dC_nil, dC_cons, dcW_true, dcW_false, dcV1_val, holes_succ, holes_zero, Array.size, List.length, e2, e26, e27, e28, c]
      rw [afterDraw_some _ _ _ _ (by kernel_rfl)]
      simp only [zS, zD, convertA, makeFuncA, Nat.reduceAdd, Nat.reduceSub, Nat.reduceMul, Nat.reduceLT, Nat.reduceLeDiff, Nat.reduceGT, ↓reduceIte, Nat.reduceEqDiff, Nat.reduceBEq, reduceCtorEq, Int.reduceBEq, Int.reduceBNe, Int.reduceLT, Int.reduceLE, Int.reduceGT, Int.reduceGE, zT24, zT39, zT33, zT31, zT30, zT37, zT22, zT9, zT4, zT3, zT85, zT43, zT27, zT133, binB_pn, lenA_cd, ge_iff_le, lenA_listD, List.length_map, wrap_wr, e2, e26, e27, e28, c, r102, callOut_one]
      (refine Eq.trans ?_ rfl; kernel_rfl)
    | false =>
      cases c2 : decide ((d.cons.length : Int) ≤ t.n) with
      | true =>
        simp only [e27, e28, Bool.true_and, Bool.false_and, Bool.false_or, Bool.or_false]
        (rw [run_eq]; simp only [stepA, hx, Tryz.func109, Tryz.f109, show retF 109 = false from rfl]; simp only [List.length_cons, List.length_nil, Nat.reduceAdd, Nat.reduceLeDiff, Nat.zero_le, ↓reduceIte, List.zipIdx_cons, List.zipIdx_nil, List.map_cons, List.map_nil])
        simp only [tbV, tbC, dV, sV, iV, bV, tmV, tmC, dcV, dcC, nilD, Tm.uD] at r102 h71 ⊢
        simp only [zS, zD, convertA, makeFuncA, Nat.reduceAdd, Nat.reduceSub, Nat.reduceMul, Nat.reduceLT, Nat.reduceLeDiff, Nat.reduceGT, ↓reduceIte, Nat.reduceEqDiff, Nat.reduceBEq, reduceCtorEq, Int.reduceBEq, Int.reduceBNe, Int.reduceLT, Int.reduceLE, Int.reduceGT, Int.reduceGE, zT24, zT39, zT33, zT31, zT30, zT37, zT22, zT9, zT4, zT3, zT85, zT43, zT27, zT133, binB_pn, lenA_listD, List.length_map, h71, callOut_vd, e2, e26, e27, e28, c, c2]
        refine draw_of ?_
        simp only [zS, zD, convertA, makeFuncA, Nat.reduceAdd, Nat.reduceSub, Nat.reduceMul, Nat.reduceLT, Nat.reduceLeDiff, Nat.reduceGT, ↓reduceIte, Nat.reduceEqDiff, Nat.reduceBEq, reduceCtorEq, Int.reduceBEq, Int.reduceBNe, Int.reduceLT, Int.reduceLE, Int.reduceGT, Int.reduceGE, zT24, zT39, zT33, zT31, zT30, zT37, zT22, zT9, zT4, zT3, zT85, zT43, zT27, zT133, binB_pn, dC_nil, dC_cons, dcW_true, dcW_false, dcV1_val, holes_succ, holes_zero, Array.size, List.length, e2, e26, e27, e28, c, c2]
        rw [afterDraw_some _ _ _ _ (by kernel_rfl)]
        simp only [zS, zD, convertA, makeFuncA, Nat.reduceAdd, Nat.reduceSub, Nat.reduceMul, Nat.reduceLT, Nat.reduceLeDiff, Nat.reduceGT, ↓reduceIte, Nat.reduceEqDiff, Nat.reduceBEq, reduceCtorEq, Int.reduceBEq, Int.reduceBNe, Int.reduceLT, Int.reduceLE, Int.reduceGT, Int.reduceGE, zT24, zT39, zT33, zT31, zT30, zT37, zT22, zT9, zT4, zT3, zT85, zT43, zT27, zT133, binB_pn, lenA_cd, ge_iff_le, lenA_listD, List.length_map, wrap_wr, e2, e26, e27, e28, c, c2, r102, callOut_one]
        (refine Eq.trans ?_ rfl; kernel_rfl)
      | false =>
        simp only [e27, e28, Bool.true_and, Bool.false_and, Bool.false_or, Bool.or_false]
        (rw [run_eq]; simp only [stepA, hx, Tryz.func109, Tryz.f109, show retF 109 = false from rfl]; simp only [List.length_cons, List.length_nil, Nat.reduceAdd, Nat.reduceLeDiff, Nat.zero_le, ↓reduceIte, List.zipIdx_cons, List.zipIdx_nil, List.map_cons, List.map_nil])
        simp only [tbV, tbC, dV, sV, iV, bV, tmV, tmC, dcV, dcC, nilD, Tm.uD] at r102 h71 ⊢
        simp only [zS, zD, convertA, makeFuncA, Nat.reduceAdd, Nat.reduceSub, Nat.reduceMul, Nat.reduceLT, Nat.reduceLeDiff, Nat.reduceGT, ↓reduceIte, Nat.reduceEqDiff, Nat.reduceBEq, reduceCtorEq, Int.reduceBEq, Int.reduceBNe, Int.reduceLT, Int.reduceLE, Int.reduceGT, Int.reduceGE, zT24, zT39, zT33, zT31, zT30, zT37, zT22, zT9, zT4, zT3, zT85, zT43, zT27, zT133, binB_pn, lenA_listD, List.length_map, h71, callOut_vd, e2, e26, e27, e28, c, c2]
        refine draw_of ?_
        simp only [zS, zD, convertA, makeFuncA, Nat.reduceAdd, Nat.reduceSub, Nat.reduceMul, Nat.reduceLT, Nat.reduceLeDiff, Nat.reduceGT, ↓reduceIte, Nat.reduceEqDiff, Nat.reduceBEq, reduceCtorEq, Int.reduceBEq, Int.reduceBNe, Int.reduceLT, Int.reduceLE, Int.reduceGT, Int.reduceGE, zT24, zT39, zT33, zT31, zT30, zT37, zT22, zT9, zT4, zT3, zT85, zT43, zT27, zT133, binB_pn, dC_nil, dC_cons, dcW_true, dcW_false, dcV1_val, holes_succ, holes_zero, Array.size, List.length, e2, e26, e27, e28, c, c2]
        rw [afterDraw_some _ _ _ _ (by kernel_rfl)]
        simp only [zS, zD, convertA, makeFuncA, Nat.reduceAdd, Nat.reduceSub, Nat.reduceMul, Nat.reduceLT, Nat.reduceLeDiff, Nat.reduceGT, ↓reduceIte, Nat.reduceEqDiff, Nat.reduceBEq, reduceCtorEq, Int.reduceBEq, Int.reduceBNe, Int.reduceLT, Int.reduceLE, Int.reduceGT, Int.reduceGE, zT24, zT39, zT33, zT31, zT30, zT37, zT22, zT9, zT4, zT3, zT85, zT43, zT27, zT133, binB_pn, lenA_cd, ge_iff_le, lenA_listD, List.length_map, wrap_wr, e2, e26, e27, e28, c, c2, r102, callOut_one]
        (refine Eq.trans ?_ rfl; kernel_rfl)

theorem nd109_28n (hx : ext 109 = none) (x : Tb) (t : Tm) (w : Int → D) (fa : Dc × Bool) (e2 : (t.op == 2) = false) (e26 : (t.op == 26) = false) (e27 : (t.op == 27) = false) (e28 : (t.op == 28) = true) (r102 : ∀ c, run Tryz.prog ext (.call 102 [iV c, dV nilD] []) = some (.ret [dV (w c)] [])) (h71 : run Tryz.prog ext (.call 71 [tbV x, sV t.s] []) = some (.ret [dcV fa.1, bV fa.2] [])) :
    run Tryz.prog ext (.call 109 [tbV x, dV (.v (.pointer none)), tmV t, dV nilD] []) = some (.ret [if fa.2 = true then (if arB t fa.1 = true then dV (w 42) else V.c (.d (.v .nilIface))) else dV (w 41)] []) := by
  obtain ⟨d, b⟩ := fa
  cases b with
  | false =>
    (rw [run_eq]; simp only [stepA, hx, Tryz.func109, Tryz.f109, show retF 109 = false from rfl]; simp only [List.length_cons, List.length_nil, Nat.reduceAdd, Nat.reduceLeDiff, Nat.zero_le, ↓reduceIte, List.zipIdx_cons, List.zipIdx_nil, List.map_cons, List.map_nil])
    simp only [tbV, tbC, dV, sV, iV, bV, tmV, tmC, dcV, dcC, nilD, Tm.uD] at r102 h71 ⊢
    simp only [zS, zD, convertA, makeFuncA, Nat.reduceAdd, Nat.reduceSub, Nat.reduceMul, Nat.reduceLT, Nat.reduceLeDiff, Nat.reduceGT, ↓reduceIte, Nat.reduceEqDiff, Nat.reduceBEq, reduceCtorEq, Int.reduceBEq, Int.reduceBNe, Int.reduceLT, Int.reduceLE, Int.reduceGT, Int.reduceGE, zT24, zT39, zT33, zT31, zT30, zT37, zT22, zT9, zT4, zT3, zT85, zT43, zT27, zT133, binB_pn, lenA_listD, List.length_map, h71, callOut_vd, e2, e26, e27, e28]
    refine draw_of ?_
    simp only [zS, zD, convertA, makeFuncA, Nat.reduceAdd, Nat.reduceSub, Nat.reduceMul, Nat.reduceLT, Nat.reduceLeDiff, Nat.reduceGT, ↓reduceIte, Nat.reduceEqDiff, Nat.reduceBEq, reduceCtorEq, Int.reduceBEq, Int.reduceBNe, Int.reduceLT, Int.reduceLE, Int.reduceGT, Int.reduceGE, zT24, zT39, zT33, zT31, zT30, zT37, zT22, zT9, zT4, zT3, zT85, zT43, zT27, zT133, binB_pn, dC_nil, dC_cons, dcW_true, dcW_false, dcV1_val, holes_succ, holes_zero, Array.size, List.length, e2, e26, e27, e28]
    rw [afterDraw_some _ _ _ _ (by kernel_rfl)]
    simp only [zS, zD, convertA, makeFuncA, Nat.reduceAdd, Nat.reduceSub, Nat.reduceMul, Nat.reduceLT, Nat.reduceLeDiff, Nat.reduceGT, ↓reduceIte, Nat.reduceEqDiff, Nat.reduceBEq, reduceCtorEq, Int.reduceBEq, Int.reduceBNe, Int.reduceLT, Int.reduceLE, Int.reduceGT, Int.reduceGE, zT24, zT39, zT33, zT31, zT30, zT37, zT22, zT9, zT4, zT3, zT85, zT43, zT27, zT133, binB_pn, lenA_cd, ge_iff_le, lenA_listD, List.length_map, wrap_wr, e2, e26, e27, e28, r102, callOut_one]
    (refine Eq.trans ?_ rfl; kernel_rfl)
  | true =>
    unfold arB
    cases c : ((t.u.length : Int) != d.levels) with
    | true =>
      (rw [run_eq]; simp only [stepA, hx, Tryz.func109, Tryz.f109, show retF 109 = false from rfl]; simp only [List.length_cons, List.length_nil, Nat.reduceAdd, Nat.reduceLeDiff, Nat.zero_le, ↓reduceIte, List.zipIdx_cons, List.zipIdx_nil, List.map_cons, List.map_nil])
      simp only [tbV, tbC, dV, sV, iV, bV, tmV, tmC, dcV, dcC, nilD, Tm.uD] at r102 h71 ⊢
      simp only [zS, zD, convertA, makeFuncA, Nat.reduceAdd, Nat.reduceSub, Nat.reduceMul, Nat.reduceLT, Nat.reduceLeDiff, Nat.reduceGT, ↓reduceIte, Nat.reduceEqDiff, Nat.reduceBEq, reduceCtorEq, Int.reduceBEq, Int.reduceBNe, Int.reduceLT, Int.reduceLE, Int.reduceGT, Int.reduceGE, zT24, zT39, zT33, zT31, zT30, zT37, zT22, zT9, zT4, zT3, zT85, zT43, zT27, zT133, binB_pn, lenA_listD, List.length_map, h71, callOut_vd, e2, e26, e27, e28, c]
      refine draw_of ?_
      simp only [zS, zD, convertA, makeFuncA, Nat.reduceAdd, Nat.reduceSub, Nat.reduceMul, Nat.reduceLT, Nat.reduceLeDiff, Nat.reduceGT, ↓reduceIte, Nat.reduceEqDiff, Nat.reduceBEq, reduceCtorEq, Int.reduceBEq, Int.reduceBNe, Int.reduceLT, Int.reduceLE, Int.reduceGT, Int.reduceGE, zT24, zT39, zT33, zT31, zT30, zT37, zT22, zT9, zT4, zT3, zT85, zT43, zT27, zT133, binB_pn, dC_nil, dC_cons, dcW_true, dcW_false, dcV1_val, holes_succ, holes_zero, Array.size, List.length, e2, e26, e27, e28, c]
      rw [afterDraw_some _ _ _ _ (by kernel_rfl)]
      simp only [zS, zD, convertA, makeFuncA, Nat.reduceAdd, Nat.reduceSub, Nat.reduceMul, Nat.reduceLT, Nat.reduceLeDiff, Nat.reduceGT, ↓reduceIte, Nat.reduceEqDiff, Nat.reduceBEq, reduceCtorEq, Int.reduceBEq, Int.reduceBNe, Int.reduceLT, Int.reduceLE, Int.reduceGT, Int.reduceGE, zT24, zT39, zT33, zT31, zT30, zT37, zT22, zT9, zT4, zT3, zT85, zT43, zT27, zT133, binB_pn, lenA_cd, ge_iff_le, lenA_listD, List.length_map, wrap_wr, e2, e26, e27, e28, c, r102, callOut_one]
      (refine Eq.trans ?_ rfl; kernel_rfl)
    | false =>
      cases c2 : (wr ((t.l.length : Int) - 3) != (d.cons.length : Int)) with
      | true =>
        simp only [e27, e28, Bool.true_and, Bool.false_and, Bool.false_or, Bool.or_false]
        (rw [run_eq]; simp only [stepA, hx, Tryz.func109, Tryz.f109, show retF 109 = false from rfl]; simp only [List.length_cons, List.length_nil, Nat.reduceAdd, Nat.reduceLeDiff, Nat.zero_le, ↓reduceIte, List.zipIdx_cons, List.zipIdx_nil, List.map_cons, List.map_nil])
        simp only [tbV, tbC, dV, sV, iV, bV, tmV, tmC, dcV, dcC, nilD, Tm.uD] at r102 h71 ⊢
        simp only [zS, zD, convertA, makeFuncA, Nat.reduceAdd, Nat.reduceSub, Nat.reduceMul, Nat.reduceLT, Nat.reduceLeDiff, Nat.reduceGT, ↓reduceIte, Nat.reduceEqDiff, Nat.reduceBEq, reduceCtorEq, Int.reduceBEq, Int.reduceBNe, Int.reduceLT, Int.reduceLE, Int.reduceGT, Int.reduceGE, zT24, zT39, zT33, zT31, zT30, zT37, zT22, zT9, zT4, zT3, zT85, zT43, zT27, zT133, binB_pn, lenA_listD, List.length_map, h71, callOut_vd, e2, e26, e27, e28, lenA_lD, c, c2]
        refine draw_of ?_
        simp only [zS, zD, convertA, makeFuncA, Nat.reduceAdd, Nat.reduceSub, Nat.reduceMul, Nat.reduceLT, Nat.reduceLeDiff, Nat.reduceGT, ↓reduceIte, Nat.reduceEqDiff, Nat.reduceBEq, reduceCtorEq, Int.reduceBEq, Int.reduceBNe, Int.reduceLT, Int.reduceLE, Int.reduceGT, Int.reduceGE, zT24, zT39, zT33, zT31, zT30, zT37, zT22, zT9, zT4, zT3, zT85, zT43, zT27, zT133, binB_pn, dC_nil, dC_cons, dcW_true, dcW_false, dcV1_val, holes_succ, holes_zero, Array.size, List.length, e2, e26, e27, e28, lenA_lD, c, c2]
        rw [afterDraw_some _ _ _ _ (by kernel_rfl)]
        simp only [zS, zD, convertA, makeFuncA, Nat.reduceAdd, Nat.reduceSub, Nat.reduceMul, Nat.reduceLT, Nat.reduceLeDiff, Nat.reduceGT, ↓reduceIte, Nat.reduceEqDiff, Nat.reduceBEq, reduceCtorEq, Int.reduceBEq, Int.reduceBNe, Int.reduceLT, Int.reduceLE, Int.reduceGT, Int.reduceGE, zT24, zT39, zT33, zT31, zT30, zT37, zT22, zT9, zT4, zT3, zT85, zT43, zT27, zT133, binB_pn, lenA_cd, ge_iff_le, lenA_listD, List.length_map, wrap_wr, e2, e26, e27, e28, lenA_lD, c, c2, r102, callOut_one]
        (refine Eq.trans ?_ rfl; kernel_rfl)
      | false =>
        simp only [e27, e28, Bool.true_and, Bool.false_and, Bool.false_or, Bool.or_false]
        (rw [run_eq]; simp only [stepA, hx, Tryz.func109, Tryz.f109, show retF 109 = false from rfl]; simp only [List.length_cons, List.length_nil, Nat.reduceAdd, Nat.reduceLeDiff, Nat.zero_le, ↓reduceIte, List.zipIdx_cons, List.zipIdx_nil, List.map_cons, List.map_nil])
        simp only [tbV, tbC, dV, sV, iV, bV, tmV, tmC, dcV, dcC, nilD, Tm.uD] at r102 h71 ⊢
        simp only [zS, zD, convertA, makeFuncA, Nat.reduceAdd, Nat.reduceSub, Nat.reduceMul, Nat.reduceLT, Nat.reduceLeDiff, Nat.reduceGT, ↓reduceIte, Nat.reduceEqDiff, Nat.reduceBEq, reduceCtorEq, Int.reduceBEq, Int.reduceBNe, Int.reduceLT, Int.reduceLE, Int.reduceGT, Int.reduceGE, zT24, zT39, zT33, zT31, zT30, zT37, zT22, zT9, zT4, zT3, zT85, zT43, zT27, zT133, binB_pn, lenA_listD, List.length_map, h71, callOut_vd, e2, e26, e27, e28, lenA_lD, c, c2]
        refine draw_of ?_
        simp only [zS, zD, convertA, makeFuncA, Nat.reduceAdd, Nat.reduceSub, Nat.reduceMul, Nat.reduceLT, Nat.reduceLeDiff, Nat.reduceGT, ↓reduceIte, Nat.reduceEqDiff, Nat.reduceBEq, reduceCtorEq, Int.reduceBEq, Int.reduceBNe, Int.reduceLT, Int.reduceLE, Int.reduceGT, Int.reduceGE, zT24, zT39, zT33, zT31, zT30, zT37, zT22, zT9, zT4, zT3, zT85, zT43, zT27, zT133, binB_pn, dC_nil, dC_cons, dcW_true, dcW_false, dcV1_val, holes_succ, holes_zero, Array.size, List.length, e2, e26, e27, e28, lenA_lD, c, c2]
        rw [afterDraw_some _ _ _ _ (by kernel_rfl)]
        simp only [zS, zD, convertA, makeFuncA, Nat.reduceAdd, Nat.reduceSub, Nat.reduceMul, Nat.reduceLT, Nat.reduceLeDiff, Nat.reduceGT, ↓reduceIte, Nat.reduceEqDiff, Nat.reduceBEq, reduceCtorEq, Int.reduceBEq, Int.reduceBNe, Int.reduceLT, Int.reduceLE, Int.reduceGT, Int.reduceGE, zT24, zT39, zT33, zT31, zT30, zT37, zT22, zT9, zT4, zT3, zT85, zT43, zT27, zT133, binB_pn, lenA_cd, ge_iff_le, lenA_listD, List.length_map, wrap_wr, e2, e26, e27, e28, lenA_lD, c, c2, r102, callOut_one]
        (refine Eq.trans ?_ rfl; kernel_rfl)

theorem nd109_2s (hx : ext 109 = none) (x : Tb) (t : Tm) (w : Int → D) (th : Dc × Bool) (e2 : (t.op == 2) = true) (els : List (List D)) (hs : sameL els els = true) (r102 : ∀ c, run Tryz.prog ext (.call 102 [iV c, .c (.own 0)] [.stk 1 els none true]) = some (.ret [dV (w c)] [.stk 1 els none true])) (h78 : run Tryz.prog ext (.call 78 [tbV x, sV t.s] []) = some (.ret [dcV th.1, bV th.2] [])) :
    run Tryz.prog ext (.call 109 [tbV x, dV (.v (.pointer none)), tmV t, .c (.own 0)] [.stk 1 els none true]) = some (.ret [if th.2 = true then (if ((t.u.length : Int) != th.1.levels) = true then dV (w 42) else V.c (.d (.v .nilIface))) else dV (w 41)] [.stk 1 els none true]) := by
  obtain ⟨d, b⟩ := th
  cases b with
  | false =>
    (rw [run_eq]; simp only [stepA, hx, Tryz.func109, Tryz.f109, show retF 109 = false from rfl]; simp only [List.length_cons, List.length_nil, Nat.reduceAdd, Nat.reduceLeDiff, Nat.zero_le, ↓reduceIte, List.zipIdx_cons, List.zipIdx_nil, List.map_cons, List.map_nil])
    simp only [tbV, tbC, dV, sV, iV, bV, tmV, tmC, dcV, dcC, nilD, Tm.uD] at r102 h78 ⊢
    simp only [zS, zD, convertA, makeFuncA, Nat.reduceAdd, Nat.reduceSub, Nat.reduceMul, Nat.reduceLT, Nat.reduceLeDiff, Nat.reduceGT, ↓reduceIte, Nat.reduceEqDiff, Nat.reduceBEq, reduceCtorEq, Int.reduceBEq, Int.reduceBNe, Int.reduceLT, Int.reduceLE, Int.reduceGT, Int.reduceGE, zT24, zT39, zT33, zT31, zT30, zT37, zT22, zT9, zT4, zT3, zT85, zT43, zT27, zT133, binB_pn, lenA_uD, h78, callOut_vd, e2, callA_sk2, (id rfl : ownF 102 = true), skK_stk, r102, sk_back, sameO, hs]
    (refine Eq.trans ?_ rfl; kernel_rfl)
  | true =>
    cases c : ((t.u.length : Int) != d.levels) with
    | true =>
      (rw [run_eq]; simp only [stepA, hx, Tryz.func109, Tryz.f109, show retF 109 = false from rfl]; simp only [List.length_cons, List.length_nil, Nat.reduceAdd, Nat.reduceLeDiff, Nat.zero_le, ↓reduceIte, List.zipIdx_cons, List.zipIdx_nil, List.map_cons, List.map_nil])
      simp only [tbV, tbC, dV, sV, iV, bV, tmV, tmC, dcV, dcC, nilD, Tm.uD] at r102 h78 ⊢
      simp only [zS, zD, convertA, makeFuncA, Nat.reduceAdd, Nat.reduceSub, Nat.reduceMul, Nat.reduceLT, Nat.reduceLeDiff, Nat.reduceGT, ↓reduceIte, Nat.reduceEqDiff, Nat.reduceBEq, reduceCtorEq, Int.reduceBEq, Int.reduceBNe, Int.reduceLT, Int.reduceLE, Int.reduceGT, Int.reduceGE, zT24, zT39, zT33, zT31, zT30, zT37, zT22, zT9, zT4, zT3, zT85, zT43, zT27, zT133, binB_pn, lenA_listD, List.length_map, h78, callOut_vd, e2, c, callA_sk2, (id rfl : ownF 102 = true), skK_stk, r102, sk_back, sameO, hs]
      (refine Eq.trans ?_ rfl; kernel_rfl)
    | false =>
      (rw [run_eq]; simp only [stepA, hx, Tryz.func109, Tryz.f109, show retF 109 = false from rfl]; simp only [List.length_cons, List.length_nil, Nat.reduceAdd, Nat.reduceLeDiff, Nat.zero_le, ↓reduceIte, List.zipIdx_cons, List.zipIdx_nil, List.map_cons, List.map_nil])
      simp only [tbV, tbC, dV, sV, iV, bV, tmV, tmC, dcV, dcC, nilD, Tm.uD] at r102 h78 ⊢
      simp only [zS, zD, convertA, makeFuncA, Nat.reduceAdd, Nat.reduceSub, Nat.reduceMul, Nat.reduceLT, Nat.reduceLeDiff, Nat.reduceGT, ↓reduceIte, Nat.reduceEqDiff, Nat.reduceBEq, reduceCtorEq, Int.reduceBEq, Int.reduceBNe, Int.reduceLT, Int.reduceLE, Int.reduceGT, Int.reduceGE, zT24, zT39, zT33, zT31, zT30, zT37, zT22, zT9, zT4, zT3, zT85, zT43, zT27, zT133, binB_pn, lenA_listD, List.length_map, h78, callOut_vd, e2, c, callA_sk2, (id rfl : ownF 102 = true), skK_stk, r102, sk_back, sameO, hs]
      (refine Eq.trans ?_ rfl; kernel_rfl)

theorem nd109_0s (hx : ext 109 = none) (x : Tb) (t : Tm) (e2 : (t.op == 2) = false) (e26 : (t.op == 26) = false) (e27 : (t.op == 27) = false) (e28 : (t.op == 28) = false) (els : List (List D)) :
    run Tryz.prog ext (.call 109 [tbV x, dV (.v (.pointer none)), tmV t, .c (.own 0)] [.stk 1 els none true]) = some (.ret [V.c (.d (.v .nilIface))] [.stk 1 els none true]) := by
  (rw [run_eq]; simp only [stepA, hx, Tryz.func109, Tryz.f109, show retF 109 = false from rfl]; simp only [List.length_cons, List.length_nil, Nat.reduceAdd, Nat.reduceLeDiff, Nat.zero_le, ↓reduceIte, List.zipIdx_cons, List.zipIdx_nil, List.map_cons, List.map_nil])
  simp only [tbV, tbC, dV, sV, iV, bV, tmV, tmC, dcV, dcC, nilD, Tm.uD]
  simp only [zS, zD, convertA, makeFuncA, Nat.reduceAdd, Nat.reduceSub, Nat.reduceMul, Nat.reduceLT, Nat.reduceLeDiff, Nat.reduceGT, ↓reduceIte, Nat.reduceEqDiff, Nat.reduceBEq, reduceCtorEq, Int.reduceBEq, Int.reduceBNe, Int.reduceLT, Int.reduceLE, Int.reduceGT, Int.reduceGE, zT24, zT39, zT33, zT31, zT30, zT37, zT22, zT9, zT4, zT3, zT85, zT43, zT27, zT133, binB_pn, e2, e26, e27, e28]
  (refine Eq.trans ?_ rfl; kernel_rfl)

theorem nd109_26s (hx : ext 109 = none) (x : Tb) (t : Tm) (w : Int → D) (fa : Dc × Bool) (e2 : (t.op == 2) = false) (e26 : (t.op == 26) = true) (e27 : (t.op == 27) = false) (e28 : (t.op == 28) = false) (els : List (List D)) (hs : sameL els els = true) (r102 : ∀ c, run Tryz.prog ext (.call 102 [iV c, .c (.own 0)] [.stk 1 els none true]) = some (.ret [dV (w c)] [.stk 1 els none true])) (h71 : run Tryz.prog ext (.call 71 [tbV x, sV t.s] []) = some (.ret [dcV fa.1, bV fa.2] [])) :
    run Tryz.prog ext (.call 109 [tbV x, dV (.v (.pointer none)), tmV t, .c (.own 0)] [.stk 1 els none true]) = some (.ret [if fa.2 = true then (if arB t fa.1 = true then dV (w 42) else V.c (.d (.v .nilIface))) else dV (w 41)] [.stk 1 els none true]) := by
  obtain ⟨d, b⟩ := fa
  cases b with
  | false =>
    (rw [run_eq]; simp only [stepA, hx, Tryz.func109, Tryz.f109, show retF 109 = false from rfl]; simp only [List.length_cons, List.length_nil, Nat.reduceAdd, Nat.reduceLeDiff, Nat.zero_le, ↓reduceIte, List.zipIdx_cons, List.zipIdx_nil, List.map_cons, List.map_nil])
    simp only [tbV, tbC, dV, sV, iV, bV, tmV, tmC, dcV, dcC, nilD, Tm.uD] at r102 h71 ⊢
    simp only [zS, zD, convertA, makeFuncA, Nat.reduceAdd, Nat.reduceSub, Nat.reduceMul, Nat.reduceLT, Nat.reduceLeDiff, Nat.reduceGT, ↓reduceIte, Nat.reduceEqDiff, Nat.reduceBEq, reduceCtorEq, Int.reduceBEq, Int.reduceBNe, Int.reduceLT, Int.reduceLE, Int.reduceGT, Int.reduceGE, zT24, zT39, zT33, zT31, zT30, zT37, zT22, zT9, zT4, zT3, zT85, zT43, zT27, zT133, binB_pn, lenA_listD, List.length_map, h71, callOut_vd, e2, e26, e27, e28]
    refine draw_of ?_
    simp only [zS, zD, convertA, makeFuncA, Nat.reduceAdd, Nat.reduceSub, Nat.reduceMul, Nat.reduceLT, Nat.reduceLeDiff, Nat.reduceGT, ↓reduceIte, Nat.reduceEqDiff, Nat.reduceBEq, reduceCtorEq, Int.reduceBEq, Int.reduceBNe, Int.reduceLT, Int.reduceLE, Int.reduceGT, Int.reduceGE, zT24, zT39, zT33, zT31, zT30, zT37, zT22, zT9, zT4, zT3, zT85, zT43, zT27, zT133, binB_pn, dC_nil, dC_cons, dcW_true, dcW_false, dcV1_val, holes_succ, holes_zero, Array.size, List.length, e2, e26, e27, e28]
    rw [afterDraw_some _ _ _ _ (by kernel_rfl)]
    simp only [zS, zD, convertA, makeFuncA, Nat.reduceAdd, Nat.reduceSub, Nat.reduceMul, Nat.reduceLT, Nat.reduceLeDiff, Nat.reduceGT, ↓reduceIte, Nat.reduceEqDiff, Nat.reduceBEq, reduceCtorEq, Int.reduceBEq, Int.reduceBNe, Int.reduceLT, Int.reduceLE, Int.reduceGT, Int.reduceGE, zT24, zT39, zT33, zT31, zT30, zT37, zT22, zT9, zT4, zT3, zT85, zT43, zT27, zT133, binB_pn, lenA_cd, ge_iff_le, lenA_listD, List.length_map, wrap_wr, e2, e26, e27, e28, callA_sk2, (id rfl : ownF 102 = true), skK_stk, r102, sk_back, sameO, hs]
    (refine Eq.trans ?_ rfl; kernel_rfl)
  | true =>
    unfold arB
    cases c : ((t.u.length : Int) != d.levels) with
    | true =>
      (rw [run_eq]; simp only [stepA, hx, Tryz.func109, Tryz.f109, show retF 109 = false from rfl]; simp only [List.length_cons, List.length_nil, Nat.reduceAdd, Nat.reduceLeDiff, Nat.zero_le, ↓reduceIte, List.zipIdx_cons, List.zipIdx_nil, List.map_cons, List.map_nil])
      simp only [tbV, tbC, dV, sV, iV, bV, tmV, tmC, dcV, dcC, nilD, Tm.uD] at r102 h71 ⊢
      simp only [zS, zD, convertA, makeFuncA, Nat.reduceAdd, Nat.reduceSub, Nat.reduceMul, Nat.reduceLT, Nat.reduceLeDiff, Nat.reduceGT, ↓reduceIte, Nat.reduceEqDiff, Nat.reduceBEq, reduceCtorEq, Int.reduceBEq, Int.reduceBNe, Int.reduceLT, Int.reduceLE, Int.reduceGT, Int.reduceGE, zT24, zT39, zT33, zT31, zT30, zT37, zT22, zT9, zT4, zT3, zT85, zT43, zT27, zT133, binB_pn, lenA_listD, List.length_map, h71, callOut_vd, e2, e26, e27, e28, c]
      refine draw_of ?_
      simp only [zS, zD, convertA, makeFuncA, Nat.reduceAdd, Nat.reduceSub, Nat.reduceMul, Nat.reduceLT, Nat.reduceLeDiff, Nat.reduceGT, ↓reduceIte, Nat.reduceEqDiff, Nat.reduceBEq, reduceCtorEq, Int.reduceBEq, Int.reduceBNe, Int.reduceLT, Int.reduceLE, Int.reduceGT, Int.reduceGE, zT24, zT39, zT33, zT31, zT30, zT37, zT22, zT9, zT4, zT3, zT85, zT43, zT27, zT133, binB_pn, dC_nil, dC_cons, dcW_true, dcW_false, dcV1_val, holes_succ, holes_zero, Array.size, List.length, e2, e26, e27, e28, c]
      rw [afterDraw_some _ _ _ _ (by kernel_rfl)]
      simp only [zS, zD, convertA, makeFuncA, Nat.reduceAdd, Nat.reduceSub, Nat.reduceMul, Nat.reduceLT, Nat.reduceLeDiff, Nat.reduceGT, ↓reduceIte, Nat.reduceEqDiff, Nat.reduceBEq, reduceCtorEq, Int.reduceBEq, Int.reduceBNe, Int.reduceLT, Int.reduceLE, Int.reduceGT, Int.reduceGE, zT24, zT39, zT33, zT31, zT30, zT37, zT22, zT9, zT4, zT3, zT85, zT43, zT27, zT133, binB_pn, lenA_cd, ge_iff_le, lenA_listD, List.length_map, wrap_wr, e2, e26, e27, e28, c, callA_sk2, (id rfl : ownF 102 = true), skK_stk, r102, sk_back, sameO, hs]
      (refine Eq.trans ?_ rfl; kernel_rfl)
    | false =>
      simp only [e27, e28, Bool.false_and, Bool.false_or, Bool.or_false]
      (rw [run_eq]; simp only [stepA, hx, Tryz.func109, Tryz.f109, show retF 109 = false from rfl]; simp only [List.length_cons, List.length_nil, Nat.reduceAdd, Nat.reduceLeDiff, Nat.zero_le, ↓reduceIte, List.zipIdx_cons, List.zipIdx_nil, List.map_cons, List.map_nil])
      simp only [tbV, tbC, dV, sV, iV, bV, tmV, tmC, dcV, dcC, nilD, Tm.uD] at r102 h71 ⊢
      simp only [zS, zD, convertA, makeFuncA, Nat.reduceAdd, Nat.reduceSub, Nat.reduceMul, Nat.reduceLT, Nat.reduceLeDiff, Nat.reduceGT, ↓reduceIte, Nat.reduceEqDiff, Nat.reduceBEq, reduceCtorEq, Int.reduceBEq, Int.reduceBNe, Int.reduceLT, Int.reduceLE, Int.reduceGT, Int.reduceGE, zT24, zT39, zT33, zT31, zT30, zT37, zT22, zT9, zT4, zT3, zT85, zT43, zT27, zT133, binB_pn, lenA_listD, List.length_map, h71, callOut_vd, e2, e26, e27, e28, c]
      refine draw_of ?_
      simp only [zS, zD, convertA, makeFuncA, Nat.reduceAdd, Nat.reduceSub, Nat.reduceMul, Nat.reduceLT, Nat.reduceLeDiff, Nat.reduceGT, ↓reduceIte, Nat.reduceEqDiff, Nat.reduceBEq, reduceCtorEq, Int.reduceBEq, Int.reduceBNe, Int.reduceLT, Int.reduceLE, Int.reduceGT, Int.reduceGE, zT24, zT39, zT33, zT31, zT30, zT37, zT22, zT9, zT4, zT3, zT85, zT43, zT27, zT133, binB_pn, dC_nil, dC_cons, dcW_true, dcW_false, dcV1_val, holes_succ, holes_zero, Array.size, List.length, e2, e26, e27, e28, c]
      rw [afterDraw_some _ _ _ _ (by kernel_rfl)]
      simp only [zS, zD, convertA, makeFuncA, Nat.reduceAdd, Nat.reduceSub, Nat.reduceMul, Nat.reduceLT, Nat.reduceLeDiff, Nat.reduceGT, ↓reduceIte, Nat.reduceEqDiff, Nat.reduceBEq, reduceCtorEq, Int.reduceBEq, Int.reduceBNe, Int.reduceLT, Int.reduceLE, Int.reduceGT, Int.reduceGE, zT24, zT39, zT33, zT31, zT30, zT37, zT22, zT9, zT4, zT3, zT85, zT43, zT27, zT133, binB_pn, lenA_cd, ge_iff_le, lenA_listD, List.length_map, wrap_wr, e2, e26, e27, e28, c, callA_sk2, (id rfl : ownF 102 = true), skK_stk, r102, sk_back, sameO, hs]
      (refine Eq.trans ?_ rfl; kernel_rfl)

theorem nd109_27s (hx : ext 109 = none) (x : Tb) (t : Tm) (w : Int → D) (fa : Dc × Bool) (e2 : (t.op == 2) = false) (e26 : (t.op == 26) = false) (e27 : (t.op == 27) = true) (e28 : (t.op == 28) = false) (els : List (List D)) (hs : sameL els els = true) (r102 : ∀ c, run Tryz.prog ext (.call 102 [iV c, .c (.own 0)] [.stk 1 els none true]) = some (.ret [dV (w c)] [.stk 1 els none true])) (h71 : run Tryz.prog ext (.call 71 [tbV x, sV t.s] []) = some (.ret [dcV fa.1, bV fa.2] [])) :
    run Tryz.prog ext (.call 109 [tbV x, dV (.v (.pointer none)), tmV t, .c (.own 0)] [.stk 1 els none true]) = some (.ret [if fa.2 = true then (if arB t fa.1 = true then dV (w 42) else V.c (.d (.v .nilIface))) else dV (w 41)] [.stk 1 els none true]) := by
  obtain ⟨d, b⟩ := fa
  cases b with
  | false =>
    (rw [run_eq]; simp only [stepA, hx, Tryz.func109, Tryz.f109, show retF 109 = false from rfl]; simp only [List.length_cons, List.length_nil, Nat.reduceAdd, Nat.reduceLeDiff, Nat.zero_le, ↓reduceIte, List.zipIdx_cons, List.zipIdx_nil, List.map_cons, List.map_nil])
    simp only [tbV, tbC, dV, sV, iV, bV, tmV, tmC, dcV, dcC, nilD, Tm.uD] at r102 h71 ⊢
    simp only [zS, zD, convertA, makeFuncA, Nat.reduceAdd, Nat.reduceSub, Nat.reduceMul, Nat.reduceLT, Nat.reduceLeDiff, Nat.reduceGT, ↓reduceIte, Nat.reduceEqDiff, Nat.reduceBEq, reduceCtorEq, Int.reduceBEq, Int.reduceBNe, Int.reduceLT, Int.reduceLE, Int.reduceGT, Int.reduceGE, zT24, zT39, zT33, zT31, zT30, zT37, zT22, zT9, zT4, zT3, zT85, zT43, zT27, zT133, binB_pn, lenA_listD, List.length_map, h71, callOut_vd, e2, e26, e27, e28]
    refine draw_of ?_
    simp only [zS, zD, convertA, makeFuncA, Nat.reduceAdd, Nat.reduceSub, Nat.reduceMul, Nat.reduceLT, Nat.reduceLeDiff, Nat.reduceGT, ↓reduceIte, Nat.reduceEqDiff, Nat.reduceBEq, reduceCtorEq, Int.reduceBEq, Int.reduceBNe, Int.reduceLT, Int.reduceLE, Int.reduceGT, Int.reduceGE, zT24, zT39, zT33, zT31, zT30, zT37, zT22, zT9, zT4, zT3, zT85, zT43, zT27, zT133, binB_pn, dC_nil, dC_cons, dcW_true, dcW_false, dcV1_val, holes_succ, holes_zero, Array.size, List.length, e2, e26, e27, e28]
    rw [afterDraw_some _ _ _ _ (by kernel_rfl)]
    simp only [zS, zD, convertA, makeFuncA, Nat.reduceAdd, Nat.reduceSub, Nat.reduceMul, Nat.reduceLT, Nat.reduceLeDiff, Nat.reduceGT, ↓reduceIte, Nat.reduceEqDiff, Nat.reduceBEq, reduceCtorEq, Int.reduceBEq, Int.reduceBNe, Int.reduceLT, Int.reduceLE, Int.reduceGT, Int.reduceGE, zT24, zT39, zT33, zT31, zT30, zT37, zT22, zT9, zT4, zT3, zT85, zT43, zT27, zT133, binB_pn, lenA_cd, ge_iff_le, lenA_listD, List.length_map, wrap_wr, e2, e26, e27, e28, callA_sk2, (id rfl : ownF 102 = true), skK_stk, r102, sk_back, sameO, hs]
    (refine Eq.trans ?_ rfl; kernel_rfl)
  | true =>
    unfold arB
    cases c : ((t.u.length : Int) != d.levels) with
    | true =>
      (rw [run_eq]; simp only [stepA, hx, Tryz.func109, Tryz.f109, show retF 109 = false from rfl]; simp only [List.length_cons, List.length_nil, Nat.reduceAdd, Nat.reduceLeDiff, Nat.zero_le, ↓reduceIte, List.zipIdx_cons, List.zipIdx_nil, List.map_cons, List.map_nil])
      simp only [tbV, tbC, dV, sV, iV, bV, tmV, tmC, dcV, dcC, nilD, Tm.uD] at r102 h71 ⊢
      simp only [zS, zD, convertA, makeFuncA, Nat.reduceAdd, Nat.reduceSub, Nat.reduceMul, Nat.reduceLT, Nat.reduceLeDiff, Nat.reduceGT, ↓reduceIte, Nat.reduceEqDiff, Nat.reduceBEq, reduceCtorEq, Int.reduceBEq, Int.reduceBNe, Int.reduceLT, Int.reduceLE, Int.reduceGT, Int.reduceGE, zT24, zT39, zT33, zT31, zT30, zT37, zT22, zT9, zT4, zT3, zT85, zT43, zT27, zT133, binB_pn, lenA_listD, List.length_map, h71, callOut_vd, e2, e26, e27, e28, c]
      refine draw_of ?_
      simp only [zS, zD, convertA, makeFuncA, Nat.reduceAdd, Nat.reduceSub, Nat.reduceMul, Nat.reduceLT, Nat.reduceLeDiff, Nat.reduceGT, ↓reduceIte, Nat.reduceEqDiff, Nat.reduceBEq, reduceCtorEq, Int.reduceBEq, Int.reduceBNe, Int.reduceLT, Int.reduceLE, Int.reduceGT, Int.reduceGE, zT24, zT39, zT33, zT31, zT30, zT37, zT22, zT9, zT4, zT3, zT85, zT43, zT27, zT133, binB_pn, dC_nil, dC_cons, dcW_true, dcW_false, dcV1_val, holes_succ, holes_zero, Array.size, List.length, e2, e26, e27, e28, c]
      rw [afterDraw_some _ _ _ _ (by kernel_rfl)]
      simp only [zS, zD, convertA, makeFuncA, Nat.reduceAdd, Nat.reduceSub, Nat.reduceMul, Nat.reduceLT, Nat.reduceLeDiff, Nat.reduceGT, ↓reduceIte, Nat.reduceEqDiff, Nat.reduceBEq, reduceCtorEq, Int.reduceBEq, Int.reduceBNe, Int.reduceLT, Int.reduceLE, Int.reduceGT, Int.reduceGE, zT24, zT39, zT33, zT31, zT30, zT37, zT22, zT9, zT4, zT3, zT85, zT43, zT27, zT133, binB_pn, lenA_cd, ge_iff_le, lenA_listD, List.length_map, wrap_wr, e2, e26, e27, e28, c, callA_sk2, (id rfl : ownF 102 = true), skK_stk, r102, sk_back, sameO, hs]
      (refine Eq.trans ?_ rfl; kernel_rfl)
    | false =>
      cases c2 : decide ((d.cons.length : Int) ≤ t.n) with
      | true =>
        simp only [e27, e28, Bool.true_and, Bool.false_and, Bool.false_or, Bool.or_false]
        (rw [run_eq]; simp only [stepA, hx, Tryz.func109, Tryz.f109, show retF 109 = false from rfl]; simp only [List.length_cons, List.length_nil, Nat.reduceAdd, Nat.reduceLeDiff, Nat.zero_le, ↓reduceIte, List.zipIdx_cons, List.zipIdx_nil, List.map_cons, List.map_nil])
        simp only [tbV, tbC, dV, sV, iV, bV, tmV, tmC, dcV, dcC, nilD, Tm.uD] at r102 h71 ⊢
        simp only [zS, zD, convertA, makeFuncA, Nat.reduceAdd, Nat.reduceSub, Nat.reduceMul, Nat.reduceLT, Nat.reduceLeDiff, Nat.reduceGT, ↓reduceIte, Nat.reduceEqDiff, Nat.reduceBEq, reduceCtorEq, Int.reduceBEq, Int.reduceBNe, Int.reduceLT, Int.reduceLE, Int.reduceGT, Int.reduceGE, zT24, zT39, zT33, zT31, zT30, zT37, zT22, zT9, zT4, zT3, zT85, zT43, zT27, zT133, binB_pn, lenA_listD, List.length_map, h71, callOut_vd, e2, e26, e27, e28, c, c2]
        refine draw_of ?_
        simp only [zS, zD, convertA, makeFuncA, Nat.reduceAdd, Nat.reduceSub, Nat.reduceMul, Nat.reduceLT, Nat.reduceLeDiff, Nat.reduceGT, ↓reduceIte, Nat.reduceEqDiff, Nat.reduceBEq, reduceCtorEq, Int.reduceBEq, Int.reduceBNe, Int.reduceLT, Int.reduceLE, Int.reduceGT, Int.reduceGE, zT24, zT39, zT33, zT31, zT30, zT37, zT22, zT9, zT4, zT3, zT85, zT43, zT27, zT133, binB_pn, dC_nil, dC_cons, dcW_true, dcW_false, dcV1_val, holes_succ, holes_zero, Array.size, List.length, e2, e26, e27, e28, c, c2]
        rw [afterDraw_some _ _ _ _ (by kernel_rfl)]
        simp only [zS, zD, convertA, makeFuncA, Nat.reduceAdd, Nat.reduceSub, Nat.reduceMul, Nat.reduceLT, Nat.reduceLeDiff, Nat.reduceGT, ↓reduceIte, Nat.reduceEqDiff, Nat.reduceBEq, reduceCtorEq, Int.reduceBEq, Int.reduceBNe, Int.reduceLT, Int.reduceLE, Int.reduceGT, Int.reduceGE, zT24, zT39, zT33, zT31, zT30, zT37, zT22, zT9, zT4, zT3, zT85, zT43, zT27, zT133, binB_pn, lenA_cd, ge_iff_le, lenA_listD, List.length_map, wrap_wr, e2, e26, e27, e28, c, c2, callA_sk2, (id rfl : ownF 102 = true), skK_stk, r102, sk_back, sameO, hs]
        (refine Eq.trans ?_ rfl; kernel_rfl)
      | false =>
        simp only [e27, e28, Bool.true_and, Bool.false_and, Bool.false_or, Bool.or_false]
        (rw [run_eq]; simp only [stepA, hx, Tryz.func109, Tryz.f109, show retF 109 = false from rfl]; simp only [List.length_cons, List.length_nil, Nat.reduceAdd, Nat.reduceLeDiff, Nat.zero_le, ↓reduceIte, List.zipIdx_cons, List.zipIdx_nil, List.map_cons, List.map_nil])
        simp only [tbV, tbC, dV, sV, iV, bV, tmV, tmC, dcV, dcC, nilD, Tm.uD] at r102 h71 ⊢
        simp only [zS, zD, convertA, makeFuncA, Nat.reduceAdd, Nat.reduceSub, Nat.reduceMul, Nat.reduceLT, Nat.reduceLeDiff, Nat.reduceGT, ↓reduceIte, Nat.reduceEqDiff, Nat.reduceBEq, reduceCtorEq, Int.reduceBEq, Int.reduceBNe, Int.reduceLT, Int.reduceLE, Int.reduceGT, Int.reduceGE, zT24, zT39, zT33, zT31, zT30, zT37, zT22, zT9, zT4, zT3, zT85, zT43, zT27, zT133, binB_pn, lenA_listD, List.length_map, h71, callOut_vd, e2, e26, e27, e28, c, c2]
        refine draw_of ?_
        simp only [zS, zD, convertA, makeFuncA, Nat.reduceAdd, Nat.reduceSub, Nat.reduceMul, Nat.reduceLT, Nat.reduceLeDiff, Nat.reduceGT, ↓reduceIte, Nat.reduceEqDiff, Nat.reduceBEq, reduceCtorEq, Int.reduceBEq, Int.reduceBNe, Int.reduceLT, Int.reduceLE, Int.reduceGT, Int.reduceGE, zT24, zT39, zT33, zT31, zT30, zT37, zT22, zT9, zT4, zT3, zT85, zT43, zT27, zT133, binB_pn, dC_nil, dC_cons, dcW_true, dcW_false, dcV1_val, holes_succ, holes_zero, Array.size, List.length, e2, e26, e27, e28, c, c2]
        rw [afterDraw_some _ _ _ _ (by kernel_rfl)]
        simp only [zS, zD, convertA, makeFuncA, Nat.reduceAdd, Nat.reduceSub, Nat.reduceMul, Nat.reduceLT, Nat.reduceLeDiff, Nat.reduceGT, ↓reduceIte, Nat.reduceEqDiff, Nat.reduceBEq, reduceCtorEq, Int.reduceBEq, Int.reduceBNe, Int.reduceLT, Int.reduceLE, Int.reduceGT, Int.reduceGE, zT24, zT39, zT33, zT31, zT30, zT37, zT22, zT9, zT4, zT3, zT85, zT43, zT27, zT133, binB_pn, lenA_cd, ge_iff_le, lenA_listD, List.length_map, wrap_wr, e2, e26, e27, e28, c, c2, callA_sk2, (id rfl : ownF 102 = true), skK_stk, r102, sk_back, sameO, hs]
        (refine Eq.trans ?_ rfl; kernel_rfl)

theorem nd109_28s (hx : ext 109 = none) (x : Tb) (t : Tm) (w : Int → D) (fa : Dc × Bool) (e2 : (t.op == 2) = false) (e26 : (t.op == 26) = false) (e27 : (t.op == 27) = false) (e28 : (t.op == 28) = true) (els : List (List D)) (hs : sameL els els = true) (r102 : ∀ c, run Tryz.prog ext (.call 102 [iV c, .c (.own 0)] [.stk 1 els none true]) = some (.ret [dV (w c)] [.stk 1 els none true])) (h71 : run Tryz.prog ext (.call 71 [tbV x, sV t.s] []) = some (.ret [dcV fa.1, bV fa.2] [])) :
    run Tryz.prog ext (.call 109 [tbV x, dV (.v (.pointer none)), tmV t, .c (.own 0)] [.stk 1 els none true]) = some (.ret [if fa.2 = true then (if arB t fa.1 = true then dV (w 42) else V.c (.d (.v .nilIface))) else dV (w 41)] [.stk 1 els none true]) := by
  obtain ⟨d, b⟩ := fa
  cases b with
  | false =>
    (rw [run_eq]; simp only [stepA, hx, Tryz.func109, Tryz.f109, show retF 109 = false from rfl]; simp only [List.length_cons, List.length_nil, Nat.reduceAdd, Nat.reduceLeDiff, Nat.zero_le, ↓reduceIte, List.zipIdx_cons, List.zipIdx_nil, List.map_cons, List.map_nil])
    simp only [tbV, tbC, dV, sV, iV, bV, tmV, tmC, dcV, dcC, nilD, Tm.uD] at r102 h71 ⊢
    simp only [zS, zD, convertA, makeFuncA, Nat.reduceAdd, Nat.reduceSub, Nat.reduceMul, Nat.reduceLT, Nat.reduceLeDiff, Nat.reduceGT, ↓reduceIte, Nat.reduceEqDiff, Nat.reduceBEq, reduceCtorEq, Int.reduceBEq, Int.reduceBNe, Int.reduceLT, Int.reduceLE, Int.reduceGT, Int.reduceGE, zT24, zT39, zT33, zT31, zT30, zT37, zT22, zT9, zT4, zT3, zT85, zT43, zT27, zT133, binB_pn, lenA_listD, List.length_map, h71, callOut_vd, e2, e26, e27, e28]
    refine draw_of ?_
    simp only [zS, zD, convertA, makeFuncA, Nat.reduceAdd, Nat.reduceSub, Nat.reduceMul, Nat.reduceLT, Nat.reduceLeDiff, Nat.reduceGT, ↓reduceIte, Nat.reduceEqDiff, Nat.reduceBEq, reduceCtorEq, Int.reduceBEq, Int.reduceBNe, Int.reduceLT, Int.reduceLE, Int.reduceGT, Int.reduceGE, zT24, zT39, zT33, zT31, zT30, zT37, zT22, zT9, zT4, zT3, zT85, zT43, zT27, zT133, binB_pn, dC_nil, dC_cons, dcW_true, dcW_false, dcV1_val, holes_succ, holes_zero, Array.size, List.length, e2, e26, e27, e28]
    rw [afterDraw_some _ _ _ _ (by kernel_rfl)]
    simp only [zS, zD, convertA, makeFuncA, Nat.reduceAdd, Nat.reduceSub, Nat.reduceMul, Nat.reduceLT, Nat.reduceLeDiff, Nat.reduceGT, ↓reduceIte, Nat.reduceEqDiff, Nat.reduceBEq, reduceCtorEq, Int.reduceBEq, Int.reduceBNe, Int.reduceLT, Int.reduceLE, Int.reduceGT, Int.reduceGE, zT24, zT39, zT33, zT31, zT30, zT37, zT22, zT9, zT4, zT3, zT85, zT43, zT27, zT133, binB_pn, lenA_cd, ge_iff_le, lenA_listD, List.length_map, wrap_wr, e2, e26, e27, e28, callA_sk2, (id rfl : ownF 102 = true), skK_stk, r102, sk_back, sameO, hs]
    (refine Eq.trans ?_ rfl; kernel_rfl)
  | true =>
    unfold arB
    cases c : ((t.u.length : Int) != d.levels) with
    | true =>
      (rw [run_eq]; simp only [stepA, hx, Tryz.func109, Tryz.f109, show retF 109 = false from rfl]; simp only [List.length_cons, List.length_nil, Nat.reduceAdd, Nat.reduceLeDiff, Nat.zero_le, ↓reduceIte, List.zipIdx_cons, List.zipIdx_nil, List.map_cons, List.map_nil])
      simp only [tbV, tbC, dV, sV, iV, bV, tmV, tmC, dcV, dcC, nilD, Tm.uD] at r102 h71 ⊢
      simp only [zS, zD, convertA, makeFuncA, Nat.reduceAdd, Nat.reduceSub, Nat.reduceMul, Nat.reduceLT, Nat.reduceLeDiff, Nat.reduceGT, ↓reduceIte, Nat.reduceEqDiff, Nat.reduceBEq, reduceCtorEq, Int.reduceBEq, Int.reduceBNe, Int.reduceLT, Int.reduceLE, Int.reduceGT, Int.reduceGE, zT24, zT39, zT33, zT31, zT30, zT37, zT22, zT9, zT4, zT3, zT85, zT43, zT27, zT133, binB_pn, lenA_listD, List.length_map, h71, callOut_vd, e2, e26, e27, e28, c]
      refine draw_of ?_
      simp only [zS, zD, convertA, makeFuncA, Nat.reduceAdd, Nat.reduceSub, Nat.reduceMul, Nat.reduceLT, Nat.reduceLeDiff, Nat.reduceGT, ↓reduceIte, Nat.reduceEqDiff, Nat.reduceBEq, reduceCtorEq, Int.reduceBEq, Int.reduceBNe, Int.reduceLT, Int.reduceLE, Int.reduceGT, Int.reduceGE, zT24, zT39, zT33, zT31, zT30, zT37, zT22, zT9, zT4, zT3, zT85, zT43, zT27, zT133, binB_pn, dC_nil, dC_cons, dcW_true, dcW_false, dcV1_val, holes_succ, holes_zero, Array.size, List.length, e2, e26, e27, e28, c]
      rw [afterDraw_some _ _ _ _ (by kernel_rfl)]
      simp only [zS, zD, convertA, makeFuncA, Nat.reduceAdd, Nat.reduceSub, Nat.reduceMul, Nat.reduceLT, Nat.reduceLeDiff, Nat.reduceGT, ↓reduceIte, Nat.reduceEqDiff, Nat.reduceBEq, reduceCtorEq, Int.reduceBEq, Int.reduceBNe, Int.reduceLT, Int.reduceLE, Int.reduceGT, Int.reduceGE, zT24, zT39, zT33, zT31, zT30, zT37, zT22, zT9, zT4, zT3, zT85, zT43, zT27, zT133, binB_pn, lenA_cd, ge_iff_le, lenA_listD, List.length_map, wrap_wr, e2, e26, e27, e28, c, callA_sk2, (id rfl : ownF 102 = true), skK_stk, r102, sk_back, sameO, hs]
      (refine Eq.trans ?_ rfl; kernel_rfl)
    | false =>
      cases c2 : (wr ((t.l.length : Int) - 3) != (d.cons.length : Int)) with
      | true =>
        simp only [e27, e28, Bool.true_and, Bool.false_and, Bool.false_or, Bool.or_false]
        (rw [run_eq]; simp only [stepA, hx, Tryz.func109, Tryz.f109, show retF 109 = false from rfl]; simp only [List.length_cons, List.length_nil, Nat.reduceAdd, Nat.reduceLeDiff, Nat.zero_le, ↓reduceIte, List.zipIdx_cons, List.zipIdx_nil, List.map_cons, List.map_nil])
        simp only [tbV, tbC, dV, sV, iV, bV, tmV, tmC, dcV, dcC, nilD, Tm.uD] at r102 h71 ⊢
        simp only [zS, zD, convertA, makeFuncA, Nat.reduceAdd, Nat.reduceSub, Nat.reduceMul, Nat.reduceLT, Nat.reduceLeDiff, Nat.reduceGT, ↓reduceIte, Nat.reduceEqDiff, Nat.reduceBEq, reduceCtorEq, Int.reduceBEq, Int.reduceBNe, Int.reduceLT, Int.reduceLE, Int.reduceGT, Int.reduceGE, zT24, zT39, zT33, zT31, zT30, zT37, zT22, zT9, zT4, zT3, zT85, zT43, zT27, zT133, binB_pn, lenA_listD, List.length_map, h71, callOut_vd, e2, e26, e27, e28, lenA_lD, c, c2]
        refine draw_of ?_
        simp only [zS, zD, convertA, makeFuncA, Nat.reduceAdd, Nat.reduceSub, Nat.reduceMul, Nat.reduceLT, Nat.reduceLeDiff, Nat.reduceGT, ↓reduceIte, Nat.reduceEqDiff, Nat.reduceBEq, reduceCtorEq, Int.reduceBEq, Int.reduceBNe, Int.reduceLT, Int.reduceLE, Int.reduceGT, Int.reduceGE, zT24, zT39, zT33, zT31, zT30, zT37, zT22, zT9, zT4, zT3, zT85, zT43, zT27, zT133, binB_pn, dC_nil, dC_cons, dcW_true, dcW_false, dcV1_val, holes_succ, holes_zero, Array.size, List.length, e2, e26, e27, e28, lenA_lD, c, c2]
        rw [afterDraw_some _ _ _ _ (by kernel_rfl)]
        simp only [zS, zD, convertA, makeFuncA, Nat.reduceAdd, Nat.reduceSub, Nat.reduceMul, Nat.reduceLT, Nat.reduceLeDiff, Nat.reduceGT, ↓reduceIte, Nat.reduceEqDiff, Nat.reduceBEq, reduceCtorEq, Int.reduceBEq, Int.reduceBNe, Int.reduceLT, Int.reduceLE, Int.reduceGT, Int.reduceGE, zT24, zT39, zT33, zT31, zT30, zT37, zT22, zT9, zT4, zT3, zT85, zT43, zT27, zT133, binB_pn, lenA_cd, ge_iff_le, lenA_listD, List.length_map, wrap_wr, e2, e26, e27, e28, lenA_lD, c, c2, callA_sk2, (id rfl : ownF 102 = true), skK_stk, r102, sk_back, sameO, hs]
        (refine Eq.trans ?_ rfl; kernel_rfl)
      | false =>
        simp only [e27, e28, Bool.true_and, Bool.false_and, Bool.false_or, Bool.or_false]
        (rw [run_eq]; simp only [stepA, hx, Tryz.func109, Tryz.f109, show retF 109 = false from rfl]; simp only [List.length_cons, List.length_nil, Nat.reduceAdd, Nat.reduceLeDiff, Nat.zero_le, ↓reduceIte, List.zipIdx_cons, List.zipIdx_nil, List.map_cons, List.map_nil])
        simp only [tbV, tbC, dV, sV, iV, bV, tmV, tmC, dcV, dcC, nilD, Tm.uD] at r102 h71 ⊢
        simp only [zS, zD, convertA, makeFuncA, Nat.reduceAdd, Nat.reduceSub, Nat.reduceMul, Nat.reduceLT, Nat.reduceLeDiff, Nat.reduceGT, ↓reduceIte, Nat.reduceEqDiff, Nat.reduceBEq, reduceCtorEq, Int.reduceBEq, Int.reduceBNe, Int.reduceLT, Int.reduceLE, Int.reduceGT, Int.reduceGE, zT24, zT39, zT33, zT31, zT30, zT37, zT22, zT9, zT4, zT3, zT85, zT43, zT27, zT133, binB_pn, lenA_listD, List.length_map, h71, callOut_vd, e2, e26, e27, e28, lenA_lD, c, c2]
        refine draw_of ?_
        simp only [zS, zD, convertA, makeFuncA, Nat.reduceAdd, Nat.reduceSub, Nat.reduceMul, Nat.reduceLT, Nat.reduceLeDiff, Nat.reduceGT, ↓reduceIte, Nat.reduceEqDiff, Nat.reduceBEq, reduceCtorEq, Int.reduceBEq, Int.reduceBNe, Int.reduceLT, Int.reduceLE, Int.reduceGT, Int.reduceGE, zT24, zT39, zT33, zT31, zT30, zT37, zT22, zT9, zT4, zT3, zT85, zT43, zT27, zT133, binB_pn, dC_nil, dC_cons, dcW_true, dcW_false, dcV1_val, holes_succ, holes_zero, Array.size, List.length, e2, e26, e27, e28, lenA_lD, c, c2]
        rw [afterDraw_some _ _ _ _ (by kernel_rfl)]
        simp only [zS, zD, convertA, makeFuncA, Nat.reduceAdd, Nat.reduceSub, Nat.reduceMul, Nat.reduceLT, Nat.reduceLeDiff, Nat.reduceGT, ↓reduceIte, Nat.reduceEqDiff, Nat.reduceBEq, reduceCtorEq, Int.reduceBEq, Int.reduceBNe, Int.reduceLT, Int.reduceLE, Int.reduceGT, Int.reduceGE, zT24, zT39, zT33, zT31, zT30, zT37, zT22, zT9, zT4, zT3, zT85, zT43, zT27, zT133, binB_pn, lenA_cd, ge_iff_le, lenA_listD, List.length_map, wrap_wr, e2, e26, e27, e28, lenA_lD, c, c2, callA_sk2, (id rfl : ownF 102 = true), skK_stk, r102, sk_back, sameO, hs]
        (refine Eq.trans ?_ rfl; kernel_rfl)

end Go.Proofs.YteenjodhmppgjaaGreatDoor.Am
end
section
/- The names of a term, by the program (named). -/
namespace Go.Proofs.YteenjodhmppgjaaGreatDoor.Am
open Go
variable (ext : Ext)
set_option maxHeartbeats 8000000
set_option maxRecDepth 8000
noncomputable def B65 : Code := (Tryz.f65.body.getD .skip)
noncomputable def L65a : Code := sub B65 [1, 1, 0, 1, 0, 0]
noncomputable def K65a : List It := [.inBlock 0, .code (sub B65 [1, 1, 1])]
noncomputable def H65a (ext : Ext) (m : Nat) (env : Env) (loc : List O) : Option Out := run Tryz.prog ext (.k ⟨41, m, [.tmp 8], false⟩ (.code L65a :: .inLoop L65a :: K65a) env loc)
def erD (c : Int) (p : List Int) : D := match p with
  | [] => .v (.iface 128 (.agg #[.int .i64 c, .slice none 0 0]))
  | a :: r => .i 128 [.v (.int .i64 c), .s 1 ((a :: r).map inD)]
theorem erV_eq (c : Int) (p : List Int) : erV c p = dV (erD c p) := by cases p <;> rfl
def nptr : V := dV (.v (.pointer none))
theorem ndE_2 {t : Tm} {th fa : Dc × Bool} (h : (t.op == 2) = true) : ndE t th fa = if th.2 = true then (if ((t.u.length : Int) != th.1.levels) = true then 42 else 0) else 41 := by unfold ndE; rw [if_pos h]
theorem ndE_f {t : Tm} {th fa : Dc × Bool} (h : (t.op == 2) = false) (h' : ((t.op == 26) || ((t.op == 27) || (t.op == 28))) = true) : ndE t th fa = if fa.2 = true then (if arB t fa.1 = true then 42 else 0) else 41 := by unfold ndE; rw [if_neg (by rw [h]; decide), if_pos h']
theorem ndE_0 {t : Tm} {th fa : Dc × Bool} (h : (t.op == 2) = false) (h' : ((t.op == 26) || ((t.op == 27) || (t.op == 28))) = false) : ndE t th fa = 0 := by unfold ndE; rw [if_neg (by rw [h]; decide), if_neg (by rw [h']; decide)]
theorem node109 (hx : ext 109 = none) (x : Tb) (t : Tm) (p : List Int) (th fa : Dc × Bool) (r102 : ∀ c, run Tryz.prog ext (.call 102 [iV c, pV p] (pO p)) = some (.ret [erV c p] (pO p)))
    (h78 : run Tryz.prog ext (.call 78 [tbV x, sV t.s] []) = some (.ret [dcV th.1, bV th.2] [])) (h71 : run Tryz.prog ext (.call 71 [tbV x, sV t.s] []) = some (.ret [dcV fa.1, bV fa.2] [])) :
    run Tryz.prog ext (.call 109 [tbV x, nptr, tmV t, pV p] (pO p)) = some (.ret [errV (ndE t th fa) p] (pO p)) := by
  have e0 : ∀ e : Int, e = 0 ∨ e = 41 ∨ e = 42 → errV e p = if e = 0 then V.c (.d (.v .nilIface)) else dV (erD e p) := by
    intro e h
    rcases h with rfl | rfl | rfl
    · rfl
    · rw [errV_41, erV_eq]; rfl
    · rw [errV_42, erV_eq]; rfl
  have r102' : ∀ c, run Tryz.prog ext (.call 102 [iV c, pV p] (pO p)) = some (.ret [dV (erD c p)] (pO p)) := fun c => by rw [r102, erV_eq]
  have hnd : ndE t th fa = 0 ∨ ndE t th fa = 41 ∨ ndE t th fa = 42 := by
    unfold ndE
    repeat' split
    all_goals simp
  rw [e0 _ hnd]
  have key2 : ∀ b : Bool, (if (if th.2 = true then (if b = true then (42 : Int) else 0) else 41) = 0 then V.c (.d (.v .nilIface)) else dV (erD (if th.2 = true then (if b = true then 42 else 0) else 41) p)) = if th.2 = true then (if b = true then dV (erD 42 p) else V.c (.d (.v .nilIface))) else dV (erD 41 p) := by
    intro b; cases th.2 <;> cases b <;> rfl
  have keyf : ∀ b : Bool, (if (if fa.2 = true then (if b = true then (42 : Int) else 0) else 41) = 0 then V.c (.d (.v .nilIface)) else dV (erD (if fa.2 = true then (if b = true then 42 else 0) else 41) p)) = if fa.2 = true then (if b = true then dV (erD 42 p) else V.c (.d (.v .nilIface))) else dV (erD 41 p) := by
    intro b; cases fa.2 <;> cases b <;> rfl
  unfold nptr
  cases p with
  | nil =>
    cases e2 : (t.op == 2) with
    | true => rw [ndE_2 e2, key2]; exact nd109_2n ext hx x t (fun c => erD c []) th e2 r102' h78
    | false =>
      cases e26 : (t.op == 26) with
      | true =>
        have e27 : (t.op == 27) = false := by rw [beq_iff_eq] at e26; rw [e26]; rfl
        have e28 : (t.op == 28) = false := by rw [beq_iff_eq] at e26; rw [e26]; rfl
        rw [ndE_f e2 (by rw [e26]; rfl), keyf]
        exact nd109_26n ext hx x t (fun c => erD c []) fa e2 e26 e27 e28 r102' h71
      | false =>
        cases e27 : (t.op == 27) with
        | true =>
          have e28 : (t.op == 28) = false := by rw [beq_iff_eq] at e27; rw [e27]; rfl
          rw [ndE_f e2 (by rw [e26, e27]; rfl), keyf]
          exact nd109_27n ext hx x t (fun c => erD c []) fa e2 e26 e27 e28 r102' h71
        | false =>
          cases e28 : (t.op == 28) with
          | true =>
            rw [ndE_f e2 (by rw [e26, e27, e28]; rfl), keyf]
            exact nd109_28n ext hx x t (fun c => erD c []) fa e2 e26 e27 e28 r102' h71
          | false =>
            rw [ndE_0 e2 (by rw [e26, e27, e28]; rfl), if_pos rfl]
            exact nd109_0n ext hx x t e2 e26 e27 e28
  | cons a r =>
    have hs := sameL_in (a :: r)
    have q1 : pV (a :: r) = .c (.own 0) := rfl
    have q2 : pO (a :: r) = [.stk 1 ((a :: r).map inD) none true] := rfl
    rw [q1, q2] at r102'
    rw [q1, q2]
    cases e2 : (t.op == 2) with
    | true => rw [ndE_2 e2, key2]; exact nd109_2s ext hx x t (fun c => erD c (a :: r)) th e2 _ hs r102' h78
    | false =>
      cases e26 : (t.op == 26) with
      | true =>
        have e27 : (t.op == 27) = false := by rw [beq_iff_eq] at e26; rw [e26]; rfl
        have e28 : (t.op == 28) = false := by rw [beq_iff_eq] at e26; rw [e26]; rfl
        rw [ndE_f e2 (by rw [e26]; rfl), keyf]
        exact nd109_26s ext hx x t (fun c => erD c (a :: r)) fa e2 e26 e27 e28 _ hs r102' h71
      | false =>
        cases e27 : (t.op == 27) with
        | true =>
          have e28 : (t.op == 28) = false := by rw [beq_iff_eq] at e27; rw [e27]; rfl
          rw [ndE_f e2 (by rw [e26, e27]; rfl), keyf]
          exact nd109_27s ext hx x t (fun c => erD c (a :: r)) fa e2 e26 e27 e28 _ hs r102' h71
        | false =>
          cases e28 : (t.op == 28) with
          | true =>
            rw [ndE_f e2 (by rw [e26, e27, e28]; rfl), keyf]
            exact nd109_28s ext hx x t (fun c => erD c (a :: r)) fa e2 e26 e27 e28 _ hs r102' h71
          | false =>
            rw [ndE_0 e2 (by rw [e26, e27, e28]; rfl), if_pos rfl]
            exact nd109_0s ext hx x t e2 e26 e27 e28 _
/-! ### named -/
def E65s (t : Tm) (k : Int) : Env := [(1, nptr), (3, .c (.own 0)), (4, .c (.ptr 1 0)), (22, dV t.lD), (23, iV t.l.length), (24, iV k)]
def O65s (x : Tb) (els : List (List D)) : List O := [.stk 1 els none true, .box [.d x.d]]
def E65n (t : Tm) (k : Int) : Env := [(1, nptr), (3, dV nilD), (4, .c (.ptr 0 0)), (22, dV t.lD), (23, iV t.l.length), (24, iV k)]
def O65n (x : Tb) : List O := [.box [.d x.d]]
theorem out65s (hx : ext 65 = none) (x : Tb) (t : Tm) (xs : List D) (els : List (List D)) (hs : sameL els els = true) (r109 : run Tryz.prog ext (.call 109 [tbV x, nptr, tmV t, .c (.own 0)] [.stk 1 els none true]) = some (.ret [V.c (.d (.i 128 xs))] [.stk 1 els none true])) :
    run Tryz.prog ext (.call 65 [tbV x, nptr, tmV t, .c (.own 0)] [.stk 1 els none true]) = some (.ret [V.c (.d (.i 128 xs))] [.stk 1 els none true]) := by
  (rw [run_eq]; simp only [stepA, hx, Tryz.func65, Tryz.f65, show retF 65 = false from rfl]; simp only [List.length_cons, List.length_nil, Nat.reduceAdd, Nat.reduceLeDiff, Nat.zero_le, ↓reduceIte, List.zipIdx_cons, List.zipIdx_nil, List.map_cons, List.map_nil])
  simp only [nptr, tbV, tbC, tmV, tmC, dV, iV] at r109 ⊢
  simp only [zS, zD, convertA, makeFuncA, Nat.reduceAdd, Nat.reduceSub, Nat.reduceMul, Nat.reduceLT, Nat.reduceLeDiff, Nat.reduceGT, ↓reduceIte, Nat.reduceEqDiff, Nat.reduceBEq, reduceCtorEq, Int.reduceBEq, Int.reduceBNe, Int.reduceLT, Int.reduceLE, Int.reduceGT, Int.reduceGE, zT24, zT33, zT31, zT85, zT43, zT133, zT3, callA_sk4, (id rfl : ownF 109 = true), skK_stk, r109, sk_back, sameO, hs, constB, Bool.or_true]
  (refine Eq.trans ?_ rfl; kernel_rfl)
theorem out65n (hx : ext 65 = none) (x : Tb) (t : Tm) (v : Value) (r109 : run Tryz.prog ext (.call 109 [tbV x, nptr, tmV t, dV nilD] []) = some (.ret [V.c (.d (.v (.iface 128 v)))] [])) :
    run Tryz.prog ext (.call 65 [tbV x, nptr, tmV t, dV nilD] []) = some (.ret [V.c (.d (.v (.iface 128 v)))] []) := by
  (rw [run_eq]; simp only [stepA, hx, Tryz.func65, Tryz.f65, show retF 65 = false from rfl]; simp only [List.length_cons, List.length_nil, Nat.reduceAdd, Nat.reduceLeDiff, Nat.zero_le, ↓reduceIte, List.zipIdx_cons, List.zipIdx_nil, List.map_cons, List.map_nil])
  simp only [nptr, tbV, tbC, tmV, tmC, dV, iV, nilD] at r109 ⊢
  simp only [zS, zD, convertA, makeFuncA, Nat.reduceAdd, Nat.reduceSub, Nat.reduceMul, Nat.reduceLT, Nat.reduceLeDiff, Nat.reduceGT, ↓reduceIte, Nat.reduceEqDiff, Nat.reduceBEq, reduceCtorEq, Int.reduceBEq, Int.reduceBNe, Int.reduceLT, Int.reduceLE, Int.reduceGT, Int.reduceGE, zT24, zT33, zT31, zT85, zT43, zT133, zT3, r109, constB, Bool.or_true]
  (refine Eq.trans ?_ rfl; kernel_rfl)
theorem enter65s (hx : ext 65 = none) (x : Tb) (t : Tm) (els : List (List D)) (hs : sameL els els = true) (r109 : run Tryz.prog ext (.call 109 [tbV x, nptr, tmV t, .c (.own 0)] [.stk 1 els none true]) = some (.ret [V.c (.d (.v .nilIface))] [.stk 1 els none true])) (out : Option Out)
    (h : H65a ext 1 (E65s t 0) (O65s x els) = out) : run Tryz.prog ext (.call 65 [tbV x, nptr, tmV t, .c (.own 0)] [.stk 1 els none true]) = out := by
  unfold H65a at h
  (rw [run_eq]; simp only [stepA, hx, Tryz.func65, Tryz.f65, show retF 65 = false from rfl]; simp only [List.length_cons, List.length_nil, Nat.reduceAdd, Nat.reduceLeDiff, Nat.zero_le, ↓reduceIte, List.zipIdx_cons, List.zipIdx_nil, List.map_cons, List.map_nil])
  simp only [nptr, tbV, tbC, tmV, tmC, dV, iV, E65s, O65s] at r109 h ⊢
  simp only [zS, zD, convertA, makeFuncA, Nat.reduceAdd, Nat.reduceSub, Nat.reduceMul, Nat.reduceLT, Nat.reduceLeDiff, Nat.reduceGT, ↓reduceIte, Nat.reduceEqDiff, Nat.reduceBEq, reduceCtorEq, Int.reduceBEq, Int.reduceBNe, Int.reduceLT, Int.reduceLE, Int.reduceGT, Int.reduceGE, zT24, zT33, zT31, zT85, zT43, zT133, zT3, callA_sk4, (id rfl : ownF 109 = true), skK_stk, r109, sk_back, sameO, hs, lenA_lD, constB, Bool.or_true]
  (refine (r_inLoop_some ?_).trans h; kernel_rfl)
theorem enter65n (hx : ext 65 = none) (x : Tb) (t : Tm) (r109 : run Tryz.prog ext (.call 109 [tbV x, nptr, tmV t, dV nilD] []) = some (.ret [V.c (.d (.v .nilIface))] [])) (out : Option Out)
    (h : H65a ext 0 (E65n t 0) (O65n x) = out) : run Tryz.prog ext (.call 65 [tbV x, nptr, tmV t, dV nilD] []) = out := by
  unfold H65a at h
  (rw [run_eq]; simp only [stepA, hx, Tryz.func65, Tryz.f65, show retF 65 = false from rfl]; simp only [List.length_cons, List.length_nil, Nat.reduceAdd, Nat.reduceLeDiff, Nat.zero_le, ↓reduceIte, List.zipIdx_cons, List.zipIdx_nil, List.map_cons, List.map_nil])
  simp only [nptr, tbV, tbC, tmV, tmC, dV, iV, nilD, E65n, O65n] at r109 h ⊢
  simp only [zS, zD, convertA, makeFuncA, Nat.reduceAdd, Nat.reduceSub, Nat.reduceMul, Nat.reduceLT, Nat.reduceLeDiff, Nat.reduceGT, ↓reduceIte, Nat.reduceEqDiff, Nat.reduceBEq, reduceCtorEq, Int.reduceBEq, Int.reduceBNe, Int.reduceLT, Int.reduceLE, Int.reduceGT, Int.reduceGE, zT24, zT33, zT31, zT85, zT43, zT133, zT3, r109, lenA_lD, constB, Bool.or_true]
  (refine (r_inLoop_some ?_).trans h; kernel_rfl)
theorem step65s (x : Tb) (t y : Tm) (els : List (List D)) (k : Nat) (hk : t.l[k]? = some y) (hl : (k : Int) < t.l.length) (h6 : els.length ≤ 1000000000) (hs2 : sameL (els ++ [[.v (.int .i64 k)]]) (els ++ [[.v (.int .i64 k)]]) = true)
    (r65 : run Tryz.prog ext (.call 65 [tbV x, nptr, tmV y, .c (.own 0)] [.stk 1 (els ++ [[.v (.int .i64 k)]]) none true]) = some (.ret [V.c (.d (.v .nilIface))] [.stk 1 (els ++ [[.v (.int .i64 k)]]) none true])) (out : Option Out) (h : H65a ext 1 (E65s t (wr ((k : Int) + 1))) (O65s x els) = out) : H65a ext 1 (E65s t k) (O65s x els) = out := by
  have h0 : (0 : Int) ≤ k := by omega
  unfold H65a at h ⊢
  simp only [nptr, tbV, tbC, tmV, tmC, dV, iV, nilD, E65s, O65s, lD_lt hl] at r65 h ⊢
  (rw [show (It.code L65a) = It.code (sub B65 [1, 1, 0, 1, 0, 0]) from rfl]; simp only [B65, K65a, sub, Option.getD_some, Tryz.f65, ↓reduceIte, Nat.one_ne_zero])
  simp only [zS, zD, convertA, makeFuncA, Nat.reduceAdd, Nat.reduceSub, Nat.reduceMul, Nat.reduceLT, Nat.reduceLeDiff, Nat.reduceGT, ↓reduceIte, Nat.reduceEqDiff, Nat.reduceBEq, reduceCtorEq, Int.reduceBEq, Int.reduceBNe, Int.reduceLT, Int.reduceLE, Int.reduceGT, Int.reduceGE, zT24, zT33, zT31, zT85, zT43, zT133, zT3, drawA, holes_succ, holes_zero, Array.size, List.length, h0, hl, Int.toNat_natCast, hk, tmD_eq y, bsIn, oo43, no43, apH_arr, apG_stk, skK_stk, sk_back, sameO, hs2, h6, List.length_cons, List.length_nil, Nat.reduceLeDiff, Nat.zero_lt_one, Nat.one_ne_zero, callA_sk4, (id rfl : ownF 65 = true), r65, constB, Bool.or_true]
  rw [afterDraw_some _ _ _ _ (by kernel_rfl)]
  simp only [zS, zD, convertA, makeFuncA, Nat.reduceAdd, Nat.reduceSub, Nat.reduceMul, Nat.reduceLT, Nat.reduceLeDiff, Nat.reduceGT, ↓reduceIte, Nat.reduceEqDiff, Nat.reduceBEq, reduceCtorEq, Int.reduceBEq, Int.reduceBNe, Int.reduceLT, Int.reduceLE, Int.reduceGT, Int.reduceGE, zT24, zT33, zT31, zT85, zT43, zT133, zT3, constB, Bool.or_true]
  (refine (r_inLoop_some ?_).trans h; kernel_rfl)
theorem bad65s (x : Tb) (t y : Tm) (els : List (List D)) (xs : List D) (k : Nat) (hk : t.l[k]? = some y) (hl : (k : Int) < t.l.length) (h6 : els.length ≤ 1000000000) (hs2 : sameL (els ++ [[.v (.int .i64 k)]]) (els ++ [[.v (.int .i64 k)]]) = true)
    (r65 : run Tryz.prog ext (.call 65 [tbV x, nptr, tmV y, .c (.own 0)] [.stk 1 (els ++ [[.v (.int .i64 k)]]) none true]) = some (.ret [V.c (.d (.i 128 xs))] [.stk 1 (els ++ [[.v (.int .i64 k)]]) none true])) : H65a ext 1 (E65s t k) (O65s x els) = some (.ret [V.c (.d (.i 128 xs))] [.stk 1 els none true]) := by
  have h0 : (0 : Int) ≤ k := by omega
  unfold H65a
  simp only [nptr, tbV, tbC, tmV, tmC, dV, iV, nilD, E65s, O65s, lD_lt hl] at r65 ⊢
  (rw [show (It.code L65a) = It.code (sub B65 [1, 1, 0, 1, 0, 0]) from rfl]; simp only [B65, K65a, sub, Option.getD_some, Tryz.f65, ↓reduceIte, Nat.one_ne_zero])
  simp only [zS, zD, convertA, makeFuncA, Nat.reduceAdd, Nat.reduceSub, Nat.reduceMul, Nat.reduceLT, Nat.reduceLeDiff, Nat.reduceGT, ↓reduceIte, Nat.reduceEqDiff, Nat.reduceBEq, reduceCtorEq, Int.reduceBEq, Int.reduceBNe, Int.reduceLT, Int.reduceLE, Int.reduceGT, Int.reduceGE, zT24, zT33, zT31, zT85, zT43, zT133, zT3, drawA, holes_succ, holes_zero, Array.size, List.length, h0, hl, Int.toNat_natCast, hk, tmD_eq y, bsIn, oo43, no43, apH_arr, apG_stk, skK_stk, sk_back, sameO, hs2, h6, List.length_cons, List.length_nil, Nat.reduceLeDiff, Nat.zero_lt_one, Nat.one_ne_zero, callA_sk4, (id rfl : ownF 65 = true), r65, constB, Bool.or_true]
  rw [afterDraw_some _ _ _ _ (by kernel_rfl)]
  simp only [zS, zD, convertA, makeFuncA, Nat.reduceAdd, Nat.reduceSub, Nat.reduceMul, Nat.reduceLT, Nat.reduceLeDiff, Nat.reduceGT, ↓reduceIte, Nat.reduceEqDiff, Nat.reduceBEq, reduceCtorEq, Int.reduceBEq, Int.reduceBNe, Int.reduceLT, Int.reduceLE, Int.reduceGT, Int.reduceGE, zT24, zT33, zT31, zT85, zT43, zT133, zT3, constB, Bool.or_true]
  (refine Eq.trans ?_ rfl; kernel_rfl)
theorem step65n (x : Tb) (t y : Tm) (k : Nat) (hk : t.l[k]? = some y) (hl : (k : Int) < t.l.length) 
    (r65 : run Tryz.prog ext (.call 65 [tbV x, nptr, tmV y, .c (.own 0)] [.stk 1 [[.v (.int .i64 k)]] none true]) = some (.ret [V.c (.d (.v .nilIface))] [.stk 1 [[.v (.int .i64 k)]] none true])) (out : Option Out) (h : H65a ext 0 (E65n t (wr ((k : Int) + 1))) (O65n x) = out) : H65a ext 0 (E65n t k) (O65n x) = out := by
  have h0 : (0 : Int) ≤ k := by omega
  unfold H65a at h ⊢
  simp only [nptr, tbV, tbC, tmV, tmC, dV, iV, nilD, E65n, O65n, lD_lt hl] at r65 h ⊢
  (rw [show (It.code L65a) = It.code (sub B65 [1, 1, 0, 1, 0, 0]) from rfl]; simp only [B65, K65a, sub, Option.getD_some, Tryz.f65, ↓reduceIte, Nat.one_ne_zero])
  simp only [zS, zD, convertA, makeFuncA, Nat.reduceAdd, Nat.reduceSub, Nat.reduceMul, Nat.reduceLT, Nat.reduceLeDiff, Nat.reduceGT, ↓reduceIte, Nat.reduceEqDiff, Nat.reduceBEq, reduceCtorEq, Int.reduceBEq, Int.reduceBNe, Int.reduceLT, Int.reduceLE, Int.reduceGT, Int.reduceGE, zT24, zT33, zT31, zT85, zT43, zT133, zT3, drawA, holes_succ, holes_zero, Array.size, List.length, h0, hl, Int.toNat_natCast, hk, tmD_eq y, bsIn, oo43, no43, apH_arr, skK_arr, (id rfl : castF 65 = true), sk_gone, isStk, Nat.le_refl, Nat.zero_le, callA_sk4, (id rfl : ownF 65 = true), r65, constB, Bool.or_true]
  rw [afterDraw_some _ _ _ _ (by kernel_rfl)]
  simp only [zS, zD, convertA, makeFuncA, Nat.reduceAdd, Nat.reduceSub, Nat.reduceMul, Nat.reduceLT, Nat.reduceLeDiff, Nat.reduceGT, ↓reduceIte, Nat.reduceEqDiff, Nat.reduceBEq, reduceCtorEq, Int.reduceBEq, Int.reduceBNe, Int.reduceLT, Int.reduceLE, Int.reduceGT, Int.reduceGE, zT24, zT33, zT31, zT85, zT43, zT133, zT3, constB, Bool.or_true]
  (refine (r_inLoop_some ?_).trans h; kernel_rfl)
theorem bad65n (x : Tb) (t y : Tm) (xs : List D) (k : Nat) (hk : t.l[k]? = some y) (hl : (k : Int) < t.l.length) 
    (r65 : run Tryz.prog ext (.call 65 [tbV x, nptr, tmV y, .c (.own 0)] [.stk 1 [[.v (.int .i64 k)]] none true]) = some (.ret [V.c (.d (.i 128 xs))] [.stk 1 [[.v (.int .i64 k)]] none true])) : H65a ext 0 (E65n t k) (O65n x) = some (.ret [V.c (.d (.i 128 xs))] []) := by
  have h0 : (0 : Int) ≤ k := by omega
  unfold H65a
  simp only [nptr, tbV, tbC, tmV, tmC, dV, iV, nilD, E65n, O65n, lD_lt hl] at r65 ⊢
  (rw [show (It.code L65a) = It.code (sub B65 [1, 1, 0, 1, 0, 0]) from rfl]; simp only [B65, K65a, sub, Option.getD_some, Tryz.f65, ↓reduceIte, Nat.one_ne_zero])
  simp only [zS, zD, convertA, makeFuncA, Nat.reduceAdd, Nat.reduceSub, Nat.reduceMul, Nat.reduceLT, Nat.reduceLeDiff, Nat.reduceGT, ↓reduceIte, Nat.reduceEqDiff, Nat.reduceBEq, reduceCtorEq, Int.reduceBEq, Int.reduceBNe, Int.reduceLT, Int.reduceLE, Int.reduceGT, Int.reduceGE, zT24, zT33, zT31, zT85, zT43, zT133, zT3, drawA, holes_succ, holes_zero, Array.size, List.length, h0, hl, Int.toNat_natCast, hk, tmD_eq y, bsIn, oo43, no43, apH_arr, skK_arr, (id rfl : castF 65 = true), sk_gone, isStk, Nat.le_refl, Nat.zero_le, callA_sk4, (id rfl : ownF 65 = true), r65, constB, Bool.or_true]
  rw [afterDraw_some _ _ _ _ (by kernel_rfl)]
  simp only [zS, zD, convertA, makeFuncA, Nat.reduceAdd, Nat.reduceSub, Nat.reduceMul, Nat.reduceLT, Nat.reduceLeDiff, Nat.reduceGT, ↓reduceIte, Nat.reduceEqDiff, Nat.reduceBEq, reduceCtorEq, Int.reduceBEq, Int.reduceBNe, Int.reduceLT, Int.reduceLE, Int.reduceGT, Int.reduceGE, zT24, zT33, zT31, zT85, zT43, zT133, zT3, constB, Bool.or_true]
  (refine Eq.trans ?_ rfl; kernel_rfl)
theorem done65s (x : Tb) (t : Tm) (els : List (List D)) : H65a ext 1 (E65s t t.l.length) (O65s x els) = some (.ret [V.c (.d (.v .nilIface))] [.stk 1 els none true]) := by
  unfold H65a
  simp only [nptr, dV, iV, E65s, O65s]
  (rw [show (It.code L65a) = It.code (sub B65 [1, 1, 0, 1, 0, 0]) from rfl]; simp only [B65, K65a, sub, Option.getD_some, Tryz.f65, ↓reduceIte, Nat.one_ne_zero])
  simp only [zS, zD, convertA, makeFuncA, Nat.reduceAdd, Nat.reduceSub, Nat.reduceMul, Nat.reduceLT, Nat.reduceLeDiff, Nat.reduceGT, ↓reduceIte, Nat.reduceEqDiff, Nat.reduceBEq, reduceCtorEq, Int.reduceBEq, Int.reduceBNe, Int.reduceLT, Int.reduceLE, Int.reduceGT, Int.reduceGE, zT31, zT85, zT3, Int.lt_irrefl]
  (refine Eq.trans ?_ rfl; kernel_rfl)
theorem done65n (x : Tb) (t : Tm) : H65a ext 0 (E65n t t.l.length) (O65n x) = some (.ret [V.c (.d (.v .nilIface))] []) := by
  unfold H65a
  simp only [nptr, dV, iV, nilD, E65n, O65n]
  (rw [show (It.code L65a) = It.code (sub B65 [1, 1, 0, 1, 0, 0]) from rfl]; simp only [B65, K65a, sub, Option.getD_some, Tryz.f65, ↓reduceIte, Nat.one_ne_zero])
  simp only [zS, zD, convertA, makeFuncA, Nat.reduceAdd, Nat.reduceSub, Nat.reduceMul, Nat.reduceLT, Nat.reduceLeDiff, Nat.reduceGT, ↓reduceIte, Nat.reduceEqDiff, Nat.reduceBEq, reduceCtorEq, Int.reduceBEq, Int.reduceBNe, Int.reduceLT, Int.reduceLE, Int.reduceGT, Int.reduceGE, zT31, zT85, zT3, Int.lt_irrefl]
  (refine Eq.trans ?_ rfl; kernel_rfl)
end Go.Proofs.YteenjodhmppgjaaGreatDoor.Am
end
section
/- The names of a term, by the program: the whole of it. -/
namespace Go.Proofs.YteenjodhmppgjaaGreatDoor.Am
open Go
variable (ext : Ext)
set_option maxHeartbeats 8000000
/-- The first element, from k on, of which something is told. -/
def firstK {α ρ : Type} (f : Nat → α → Option ρ) : Nat → List α → Option ρ
  | _, [] => none
  | k, x :: l => match f k x with
    | some r => some r
    | none => firstK f (k + 1) l
theorem loop_first {α ρ : Type} (l : List α) (S : Int → Option Out) (f : Nat → α → Option ρ) (g : ρ → Option Out) (fin : Option Out) (hl : l.length < 2 ^ 62)
    (hstep : ∀ (k : Nat) (x : α), l[k]? = some x → (k : Int) < l.length → match f k x with | some r => S k = g r | none => ∀ out, S (wr ((k : Int) + 1)) = out → S k = out)
    (hdone : S l.length = fin) : S 0 = match firstK f 0 l with | some r => g r | none => fin := by
  have key : ∀ (m k : Nat), k + m = l.length → S k = match firstK f k (l.drop k) with | some r => g r | none => fin := by
    intro m
    induction m with
    | zero =>
      intro k hk
      rw [List.drop_eq_nil_of_le (by omega), show k = l.length by omega]
      exact hdone
    | succ m ih =>
      intro k hk
      have hlt : k < l.length := by omega
      rw [List.drop_eq_getElem_cons hlt, firstK]
      have h := hstep k l[k] (by simp [hlt]) (by omega)
      cases hp : f k l[k] with
      | some r => rw [hp] at h; simpa using h
      | none =>
        rw [hp] at h
        dsimp only at h ⊢
        refine h _ ?_
        rw [wr_id (by omega) (by omega)]
        rw [show ((k : Int) + 1) = ((k + 1 : Nat) : Int) by omega, ih (k + 1) (by omega)]
  simpa using key l.length 0 (by omega)
/-- The first node, a node before its parts, of which something is told, with its path. -/
def firstE (e : Tm → Int) : Tm → Option (Int × List Int)
  | .mk op n s u zu l zl => if e (.mk op n s u zu l zl) = 0 then go 0 l else some (e (.mk op n s u zu l zl), [])
where go : Nat → List Tm → Option (Int × List Int)
  | _, [] => none
  | k, y :: r => match firstE e y with
    | some q => some (q.1, (k : Int) :: q.2)
    | none => go (k + 1) r
def stepE (e : Tm → Int) (k : Nat) (y : Tm) : Option (Int × List Int) := (firstE e y).map fun q => (q.1, (k : Int) :: q.2)
theorem firstE_go (e : Tm → Int) : ∀ (l : List Tm) (k : Nat), firstE.go e k l = firstK (stepE e) k l
  | [], k => by simp only [firstE.go, firstK]
  | y :: r, k => by
    simp only [firstE.go, firstK, stepE, firstE_go e r]
    cases firstE e y <;> rfl
theorem firstE_eq (e : Tm → Int) (t : Tm) : firstE e t = if e t = 0 then firstK (stepE e) 0 t.l else some (e t, []) := by
  cases t; simp only [firstE, firstE_go, Tm.l]
def resV (p : List Int) : Option (Int × List Int) → V
  | none => .c (.d (.v .nilIface))
  | some q => erV q.1 (p ++ q.2)
theorem len_first (e : Tm → Int) : ∀ (N : Nat) (t : Tm), t.sz ≤ N → ∀ q, firstE e t = some q → q.2.length < t.sz
  | 0, t, h, _, _ => by have := t.sz_pos; omega
  | N + 1, t, h, q, hq => by
    rw [firstE_eq] at hq
    split at hq
    · have : ∀ (l : List Tm) (k : Nat), (∀ y ∈ l, y ∈ t.l) → firstK (stepE e) k l = some q → q.2.length < t.sz := by
        intro l
        induction l with
        | nil => intro k _ h; cases h
        | cons y r ih =>
          intro k hm h
          simp only [firstK, stepE] at h
          cases hf : firstE e y with
          | none => rw [hf] at h; exact ih (k + 1) (fun z hz => hm z (List.mem_cons_of_mem _ hz)) h
          | some q' =>
            rw [hf] at h
            simp only [Option.map_some, Option.some.injEq] at h
            subst h
            have h1 := Tm.sz_lt (hm y List.mem_cons_self)
            have := len_first e N y (by omega) q' hf
            simp only [List.length_cons]
            omega
      exact this t.l 0 (fun y hy => hy) hq
    · cases hq
      have := t.sz_pos
      simpa using this
theorem named65 (e : Tm → Int) (hx : ext 65 = none) (x : Tb) (I : Tm → Prop) (hI : ∀ t, I t → ∀ y ∈ t.l, I y)
    (r109 : ∀ (t : Tm) (p : List Int), I t → p.length < 2 ^ 29 → run Tryz.prog ext (.call 109 [tbV x, nptr, tmV t, pV p] (pO p)) = some (.ret [errV (e t) p] (pO p))) :
    ∀ (N : Nat) (t : Tm), t.sz ≤ N → I t → ∀ p : List Int, p.length + N < 2 ^ 29 → run Tryz.prog ext (.call 65 [tbV x, nptr, tmV t, pV p] (pO p)) = some (.ret [resV p (firstE e t)] (pO p))
  | 0, t, h, _, _, _ => by have := t.sz_pos; omega
  | N + 1, t, h, hi, p, hp => by
    have hll := t.len_lt
    have h109 := r109 t p hi (by omega)
    have ih : ∀ (k : Nat) (y : Tm), t.l[k]? = some y → run Tryz.prog ext (.call 65 [tbV x, nptr, tmV y, .c (.own 0)] [.stk 1 ((p ++ [(k : Int)]).map inD) none true]) = some (.ret [resV (p ++ [(k : Int)]) (firstE e y)] [.stk 1 ((p ++ [(k : Int)]).map inD) none true]) := by
      intro k y hk
      have := named65 e hx x I hI r109 N y (by have := Tm.sz_lt (List.mem_of_getElem? hk); omega) (hI t hi y (List.mem_of_getElem? hk)) (p ++ [(k : Int)]) (by simp; omega)
      cases p with
      | nil => exact this
      | cons a r => exact this
    have hbad : ∀ (k : Nat) (q : Int × List Int), ∃ xs, erV q.1 (p ++ ((k : Int) :: q.2)) = V.c (.d (.i 128 xs)) := by
      intro k q
      cases p with
      | nil => exact ⟨_, rfl⟩
      | cons a r => exact ⟨_, rfl⟩
    rw [firstE_eq]
    by_cases c : e t = 0
    case neg =>
      rw [if_neg c]
      have e1 : errV (e t) p = erV (e t) p := if_neg c
      have e2 : resV p (some (e t, [])) = erV (e t) p := by simp [resV]
      rw [e1] at h109
      rw [e2]
      cases p with
      | nil => exact out65n ext hx x t _ h109
      | cons a r => exact out65s ext hx x t _ _ (sameL_in (a :: r)) h109
    rw [if_pos c]
    have e1 : errV (e t) p = V.c (.d (.v .nilIface)) := if_pos c
    rw [e1] at h109
    cases p with
    | nil =>
      refine enter65n ext hx x t h109 _ ?_
      have := loop_first t.l (fun k => H65a ext 0 (E65n t k) (O65n x)) (stepE e) (fun q => some (.ret [resV [] (some q)] [])) (some (.ret [V.c (.d (.v .nilIface))] [])) (by omega) (fun k y hk hl => by
        have hr := ih k y hk
        unfold stepE
        cases hf : firstE e y with
        | none =>
          rw [hf] at hr
          exact fun out ho => step65n ext x t y k hk hl hr out ho
        | some q =>
          rw [hf] at hr
          obtain ⟨xs, hxs⟩ := hbad k q
          have e3 : resV ([] ++ [(k : Int)]) (some q) = V.c (.d (.i 128 xs)) := by rw [← hxs]; simp [resV]
          have e4 : resV [] ((some q).map fun q => (q.1, (k : Int) :: q.2)) = V.c (.d (.i 128 xs)) := by rw [← hxs]; rfl
          rw [e3] at hr
          show _ = some (Out.ret [resV [] (some (q.1, (k : Int) :: q.2))] [])
          have e5 : resV [] (some (q.1, (k : Int) :: q.2)) = V.c (.d (.i 128 xs)) := e4
          rw [e5]
          exact bad65n ext x t y xs k hk hl hr) (done65n ext x t)
      rw [this]
      cases firstK (stepE e) 0 t.l <;> rfl
    | cons a r =>
      have hs := sameL_in (a :: r)
      refine enter65s ext hx x t _ hs h109 _ ?_
      have := loop_first t.l (fun k => H65a ext 1 (E65s t k) (O65s x ((a :: r).map inD))) (stepE e) (fun q => some (.ret [resV (a :: r) (some q)] (pO (a :: r)))) (some (.ret [V.c (.d (.v .nilIface))] (pO (a :: r)))) (by omega) (fun k y hk hl => by
        have hr := ih k y hk
        rw [List.map_append] at hr
        have h6 : ((a :: r).map inD).length ≤ 1000000000 := by simp only [List.length_map]; simp only [List.length_cons] at hp ⊢; omega
        unfold stepE
        cases hf : firstE e y with
        | none =>
          rw [hf] at hr
          exact fun out ho => step65s ext x t y _ k hk hl h6 (sameL_snoc (a :: r) k) hr out ho
        | some q =>
          rw [hf] at hr
          obtain ⟨xs, hxs⟩ := hbad k q
          have e3 : resV ((a :: r) ++ [(k : Int)]) (some q) = V.c (.d (.i 128 xs)) := by rw [← hxs]; simp [resV]
          have e5 : resV (a :: r) (some (q.1, (k : Int) :: q.2)) = V.c (.d (.i 128 xs)) := by rw [← hxs]; rfl
          rw [e3] at hr
          show _ = some (Out.ret [resV (a :: r) (some (q.1, (k : Int) :: q.2))] (pO (a :: r)))
          rw [e5]
          exact bad65s ext x t y _ xs k hk hl h6 (sameL_snoc (a :: r) k) hr) (done65s ext x t _)
      rw [this]
      cases firstK (stepE e) 0 t.l <;> rfl
end Go.Proofs.YteenjodhmppgjaaGreatDoor.Am
end
section
/- Recursive and Assumes, by the program and by the reference. -/
namespace Go.Proofs.YteenjodhmppgjaaGreatDoor.Am
open Go
variable (ext : Ext)
set_option maxHeartbeats 8000000
set_option maxRecDepth 4000
def pickE {α β : Type} (p : Nat → α → Bool) (g : Nat → α → β) : Nat → List α → List β
  | _, [] => []
  | k, x :: l => if p k x then g k x :: pickE p g (k + 1) l else pickE p g (k + 1) l
/-- A loop that takes some of the elements. -/
theorem loop_pick {α β : Type} (p : Nat → α → Bool) (g : Nat → α → β) (l : List α) (S : Int → List β → Option Out) (fin : List β → Option Out) (hl : l.length < 2 ^ 50)
    (hstep : ∀ (k : Nat) (x : α) (els : List β), l[k]? = some x → (k : Int) < l.length → els.length ≤ k → (p k x = true → ∀ out, S (wr ((k : Int) + 1)) (els ++ [g k x]) = out → S k els = out) ∧ (p k x = false → ∀ out, S (wr ((k : Int) + 1)) els = out → S k els = out))
    (hdone : ∀ els, els.length ≤ l.length → S l.length els = fin els) : S 0 [] = fin (pickE p g 0 l) := by
  have key : ∀ (m k : Nat) (els : List β), k + m = l.length → els.length ≤ k → S k els = fin (els ++ pickE p g k (l.drop k)) := by
    intro m
    induction m with
    | zero =>
      intro k els hk he
      rw [List.drop_eq_nil_of_le (by omega), show k = l.length by omega]
      simp only [pickE, List.append_nil]
      exact hdone els (by omega)
    | succ m ih =>
      intro k els hk he
      have hlt : k < l.length := by omega
      rw [List.drop_eq_getElem_cons hlt, pickE]
      obtain ⟨h1, h2⟩ := hstep k l[k] els (by simp [hlt]) (by omega) he
      have hw : wr ((k : Int) + 1) = ((k + 1 : Nat) : Int) := by rw [wr_id (by omega) (by omega)]; omega
      cases hp : p k l[k] with
      | true =>
        rw [if_pos rfl]
        refine h1 hp _ ?_
        rw [hw, ih (k + 1) _ (by omega) (by simp; omega)]
        simp
      | false =>
        rw [if_neg (by simp)]
        refine h2 hp _ ?_
        rw [hw, ih (k + 1) _ (by omega) (by omega)]
  simpa using key l.length 0 [] (by omega) (by simp)
/-! ### Recursive, by the program -/
/-! ### Recursive, by the reference -/
/-! ### Assumes -/
end Go.Proofs.YteenjodhmppgjaaGreatDoor.Am
end
section
/- The names of a term, by the reference. Printed by tb/gennu.py. -/
namespace Go.Proofs.YteenjodhmppgjaaGreatDoor.Am
open Go
variable (ext : Ext)
set_option maxHeartbeats 16000000
set_option maxRecDepth 8000
noncomputable def B181 : Code := (Tryz.f181.body.getD .skip)
noncomputable def L181a : Code := sub B181 [1, 1, 0, 1, 0, 0]
noncomputable def K181a : List It := [.inBlock 0, .code (sub B181 [1, 1, 1])]
noncomputable def H181a (ext : Ext) (m : Nat) (env : Env) (loc : List O) : Option Out := run Tryz.prog ext (.k ⟨19, m, [.tmp 2], true⟩ (.code L181a :: .inLoop L181a :: K181a) env loc)
/-! ### copies of paths -/
theorem pathD_lt {p : List Int} {k : Nat} (h : (k : Int) < p.length) : pathD p = .s 1 (p.map inD) := by unfold pathD; exact listD_of_lt (b := k) (by omega) (by simpa using h)
theorem lenA_path (look : Look) (p : List Int) : lenA look (.c (.d (pathD p))) = eff (.c (.d (.v (.int .i64 p.length)))) := by unfold pathD; rw [lenA_listD, List.length_map]
def E181 (p : List Int) (ls : List Int) (k : Int) : Env := [(0, dV (pathD p)), (3, mkV 0 (ls.map inD)), (4, iV k)]
theorem enter181 (hx : ext 181 = none) (p : List Int) (out : Option Out) (h : H181a ext 0 (E181 p [] 0) [] = out) : run Tryz.prog ext (.call 181 [dV (pathD p)] []) = out := by
  unfold H181a at h
  (rw [run_eq]; simp only [stepA, hx, Tryz.func181, Tryz.f181, show retF 181 = true from rfl]; simp only [List.length_cons, List.length_nil, Nat.reduceAdd, Nat.reduceLeDiff, Nat.zero_le, ↓reduceIte, List.zipIdx_cons, List.zipIdx_nil, List.map_cons, List.map_nil])
  simp only [dV, iV, E181, List.map_nil, mkV_nil] at h ⊢
  simp only [zS, zD, convertA, makeFuncA, Nat.reduceAdd, Nat.reduceSub, Nat.reduceMul, Nat.reduceLT, Nat.reduceLeDiff, Nat.reduceGT, ↓reduceIte, Nat.reduceEqDiff, Nat.reduceBEq, reduceCtorEq, Int.reduceBEq, Int.reduceBNe, Int.reduceLT, Int.reduceLE, Int.reduceGT, Int.reduceGE, zT43, zT3]
  (refine (r_inLoop_some ?_).trans h; kernel_rfl)
theorem step181 (p ls : List Int) (n : Int) (k : Nat) (hb : ls.length < 2 ^ 29) (hk : p[k]? = some n) (hl : (k : Int) < p.length) (out : Option Out)
    (h : H181a ext 0 (E181 p (ls ++ [n]) (wr ((k : Int) + 1))) (mkO 1 ((ls ++ [n]).map inD)) = out) : H181a ext 0 (E181 p ls k) (mkO 1 (ls.map inD)) = out := by
  have h0 : (0 : Int) ≤ k := by omega
  unfold H181a at h ⊢
  cases ls with
  | nil =>
    simp only [dV, iV, E181, pathD_lt hl, List.map_append, List.map_cons, List.map_nil, mkV_nil, mkO_nil, mkV_snoc, mkO_snoc, List.nil_append, inD_eq] at h ⊢
    (rw [show (It.code L181a) = It.code (sub B181 [1, 1, 0, 1, 0, 0]) from rfl]; simp only [B181, K181a, sub, Option.getD_some, Tryz.f181, ↓reduceIte, Nat.one_ne_zero])
    simp only [zS, zD, convertA, makeFuncA, Nat.reduceAdd, Nat.reduceSub, Nat.reduceMul, Nat.reduceLT, Nat.reduceLeDiff, Nat.reduceGT, ↓reduceIte, Nat.reduceEqDiff, Nat.reduceBEq, reduceCtorEq, Int.reduceBEq, Int.reduceBNe, Int.reduceLT, Int.reduceLE, Int.reduceGT, Int.reduceGE, zT43, zT3, h0, hl, Int.toNat_natCast, hk, inD_eq, bsIn, no43, apH_arr, Nat.zero_le]
    (refine (r_inLoop_some ?_).trans h; kernel_rfl)
  | cons a r =>
    have hb' : r.length + 1 ≤ 1000000000 := by simp only [List.length_cons] at hb; omega
    simp only [dV, iV, E181, pathD_lt hl, List.map_append, List.map_cons, List.map_nil, mkV_cons, mkO_cons, mkV_snoc, mkO_snoc, List.cons_append, List.nil_append, inD_eq] at h ⊢
    (rw [show (It.code L181a) = It.code (sub B181 [1, 1, 0, 1, 0, 0]) from rfl]; simp only [B181, K181a, sub, Option.getD_some, Tryz.f181, ↓reduceIte, Nat.one_ne_zero])
    simp only [zS, zD, convertA, makeFuncA, Nat.reduceAdd, Nat.reduceSub, Nat.reduceMul, Nat.reduceLT, Nat.reduceLeDiff, Nat.reduceGT, ↓reduceIte, Nat.reduceEqDiff, Nat.reduceBEq, reduceCtorEq, Int.reduceBEq, Int.reduceBNe, Int.reduceLT, Int.reduceLE, Int.reduceGT, Int.reduceGE, zT43, zT3, h0, hl, Int.toNat_natCast, hk, inD_eq, bsIn, oo43, apG_arr, hb']
    (refine (r_inLoop_some ?_).trans h; kernel_rfl)
theorem done181 (p ls : List Int) : H181a ext 0 (E181 p ls p.length) (mkO 1 (ls.map inD)) = some (.ret [mkV 0 (ls.map inD)] (mkO 1 (ls.map inD))) := by
  unfold H181a
  cases ls
  all_goals
    simp only [dV, iV, E181, List.map_cons, List.map_nil, mkV_nil, mkV_cons, mkO_nil, mkO_cons]
    (rw [show (It.code L181a) = It.code (sub B181 [1, 1, 0, 1, 0, 0]) from rfl]; simp only [B181, K181a, sub, Option.getD_some, Tryz.f181, ↓reduceIte, Nat.one_ne_zero])
    simp only [zS, zD, convertA, makeFuncA, Nat.reduceAdd, Nat.reduceSub, Nat.reduceMul, Nat.reduceLT, Nat.reduceLeDiff, Nat.reduceGT, ↓reduceIte, Nat.reduceEqDiff, Nat.reduceBEq, reduceCtorEq, Int.reduceBEq, Int.reduceBNe, Int.reduceLT, Int.reduceLE, Int.reduceGT, Int.reduceGE, zT43, zT3, lenA_path, Int.lt_irrefl]
    (refine Eq.trans ?_ rfl; kernel_rfl)
theorem pick_all {α : Type} : ∀ (l : List α) (k : Nat), pickE (fun _ _ => true) (fun _ x => x) k l = l
  | [], _ => rfl
  | x :: l, k => by rw [pickE, if_pos rfl, pick_all l]
theorem copy181 (hx : ext 181 = none) (p : List Int) (hp : p.length < 2 ^ 29) : run Tryz.prog ext (.call 181 [dV (pathD p)] []) = some (.ret [mkV 0 (p.map inD)] (mkO 1 (p.map inD))) := by
  refine enter181 ext hx p _ ?_
  have := loop_pick (fun _ _ => true) (fun _ x => x) p (fun k ls => H181a ext 0 (E181 p ls k) (mkO 1 (ls.map inD))) (fun ls => some (.ret [mkV 0 (ls.map inD)] (mkO 1 (ls.map inD)))) (by omega)
    (fun k y ls hk hl he => ⟨fun _ out h => step181 ext p ls y k (by omega) hk hl out h, fun h => by cases h⟩) (fun ls _ => done181 ext p ls)
  rw [pick_all] at this
  exact this
theorem along112 (hx : ext 112 = none) (p : List Int) (k : Int) (hp : p.length < 2 ^ 29) (hr : run Tryz.prog ext (.call 181 [dV (pathD p)] []) = some (.ret [mkV 0 (p.map inD)] (mkO 1 (p.map inD)))) : run Tryz.prog ext (.call 112 [dV (pathD p), iV k] []) = some (.ret [dV (pathD (p ++ [k]))] []) := by
  cases p with
  | nil =>
    show _ = some (Out.ret [dV (.s 1 [inD k])] [])
    (rw [run_eq]; simp only [stepA, hx, Tryz.func112, Tryz.f112, show retF 112 = false from rfl]; simp only [List.length_cons, List.length_nil, Nat.reduceAdd, Nat.reduceLeDiff, Nat.zero_le, ↓reduceIte, List.zipIdx_cons, List.zipIdx_nil, List.map_cons, List.map_nil])
    simp only [dV, iV, pathD_nil, List.map_nil, mkV_nil, mkO_nil] at hr ⊢
    simp only [zS, zD, convertA, makeFuncA, Nat.reduceAdd, Nat.reduceSub, Nat.reduceMul, Nat.reduceLT, Nat.reduceLeDiff, Nat.reduceGT, ↓reduceIte, Nat.reduceEqDiff, Nat.reduceBEq, reduceCtorEq, Int.reduceBEq, Int.reduceBNe, Int.reduceLT, Int.reduceLE, Int.reduceGT, Int.reduceGE, zT43, zT3, hr, bsIn, no43, apH_arr, Nat.zero_le]
    (refine Eq.trans ?_ rfl; kernel_rfl)
  | cons a r =>
    have e : pathD ((a :: r) ++ [k]) = .s 1 (inD a :: (r.map inD ++ [inD k])) := by rw [List.cons_append, pathD_cons, List.map_cons, List.map_append]; rfl
    have hb' : r.length + 1 ≤ 1000000000 := by simp only [List.length_cons] at hp; omega
    rw [e, pathD_cons]
    rw [pathD_cons] at hr
    (rw [run_eq]; simp only [stepA, hx, Tryz.func112, Tryz.f112, show retF 112 = false from rfl]; simp only [List.length_cons, List.length_nil, Nat.reduceAdd, Nat.reduceLeDiff, Nat.zero_le, ↓reduceIte, List.zipIdx_cons, List.zipIdx_nil, List.map_cons, List.map_nil])
    simp only [dV, iV, List.map_cons, mkV_cons, mkO_cons] at hr ⊢
    simp only [zS, zD, convertA, makeFuncA, Nat.reduceAdd, Nat.reduceSub, Nat.reduceMul, Nat.reduceLT, Nat.reduceLeDiff, Nat.reduceGT, ↓reduceIte, Nat.reduceEqDiff, Nat.reduceBEq, reduceCtorEq, Int.reduceBEq, Int.reduceBNe, Int.reduceLT, Int.reduceLE, Int.reduceGT, Int.reduceGE, zT43, zT3, hr, callOut_own, bsIn, oo43, apG_arr, hb']
    (refine Eq.trans ?_ rfl; kernel_rfl)
/-! ### a node -/
def arR (t : Tm) (d : Dc) : Bool := ((t.u.length : Int) != d.levels) || (((t.op == 27) && decide ((d.cons.length : Int) ≤ t.n)) || ((t.op == 28) && ((t.l.length : Int) != wr ((d.cons.length : Int) + 3))))
def ownB (o : Dc) (t : Tm) : Bool := (o.kind == 4) && (o.name.toList == t.s.toList)
def ndR (o : Dc) (t : Tm) (th fa : Dc × Bool) : Int :=
  if (t.op == 2) = true then (if th.2 = true then (if arR t th.1 = true then 42 else 0) else 41)
  else if ((t.op == 26) && ownB o t) = true then (if arR t o = true then 42 else 0)
  else if ((t.op == 26) || ((t.op == 27) || (t.op == 28))) = true then (if fa.2 = true then (if arR t fa.1 = true then 42 else 0) else 41)
  else 0

theorem nr111_0 (hx : ext 111 = none) (x : Tb) (o : Dc) (t : Tm) (e2 : (t.op == 2) = false) (e26 : (t.op == 26) = false) (e27 : (t.op == 27) = false) (e28 : (t.op == 28) = false) :
    run Tryz.prog ext (.call 111 [tbV x, dcV o, tmV t] []) = some (.ret [iV 0] []) := by
  (rw [run_eq]; simp only [stepA, hx, Tryz.func111, Tryz.f111, show retF 111 = false from rfl]; simp only [List.length_cons, List.length_nil, Nat.reduceAdd, Nat.reduceLeDiff, Nat.zero_le, ↓reduceIte, List.zipIdx_cons, List.zipIdx_nil, List.map_cons, List.map_nil])
  simp only [tbV, tbC, dV, sV, iV, bV, tmV, tmC, dcV, dcC, Tm.uD]
  simp only [zS, zD, convertA, makeFuncA, Nat.reduceAdd, Nat.reduceSub, Nat.reduceMul, Nat.reduceLT, Nat.reduceLeDiff, Nat.reduceGT, ↓reduceIte, Nat.reduceEqDiff, Nat.reduceBEq, reduceCtorEq, Int.reduceBEq, Int.reduceBNe, Int.reduceLT, Int.reduceLE, Int.reduceGT, Int.reduceGE, zT24, zT39, zT33, zT31, zT30, zT37, zT22, zT9, zT4, zT3, zT27, e2, e26, e27, e28]
  (refine Eq.trans ?_ rfl; kernel_rfl)

theorem nr111_2 (hx : ext 111 = none) (x : Tb) (o : Dc) (t : Tm) (e2 : (t.op == 2) = true) (e26 : (t.op == 26) = false) (e27 : (t.op == 27) = false) (e28 : (t.op == 28) = false) (th : Dc × Bool) (h80 : run Tryz.prog ext (.call 80 [tbV x, sV t.s] []) = some (.ret [dcV th.1, bV th.2] [])) :
    run Tryz.prog ext (.call 111 [tbV x, dcV o, tmV t] []) = some (.ret [iV (if th.2 = true then (if arR t th.1 = true then 42 else 0) else 41)] []) := by
  obtain ⟨d, b⟩ := th
  cases b with
  | false =>
    (rw [run_eq]; simp only [stepA, hx, Tryz.func111, Tryz.f111, show retF 111 = false from rfl]; simp only [List.length_cons, List.length_nil, Nat.reduceAdd, Nat.reduceLeDiff, Nat.zero_le, ↓reduceIte, List.zipIdx_cons, List.zipIdx_nil, List.map_cons, List.map_nil])
    simp only [tbV, tbC, dV, sV, iV, bV, tmV, tmC, dcV, dcC, Tm.uD] at h80 ⊢
    simp only [zS, zD, convertA, makeFuncA, Nat.reduceAdd, Nat.reduceSub, Nat.reduceMul, Nat.reduceLT, Nat.reduceLeDiff, Nat.reduceGT, ↓reduceIte, Nat.reduceEqDiff, Nat.reduceBEq, reduceCtorEq, Int.reduceBEq, Int.reduceBNe, Int.reduceLT, Int.reduceLE, Int.reduceGT, Int.reduceGE, zT24, zT39, zT33, zT31, zT30, zT37, zT22, zT9, zT4, zT3, zT27, lenA_listD, lenA_lD, lenA_cd, List.length_map, ge_iff_le, wrap_wr, callOut_vd, e2, e26, e27, e28, h80]
    (refine Eq.trans ?_ rfl; kernel_rfl)
  | true =>
    unfold arR
    cases c : ((t.u.length : Int) != d.levels) with
    | true =>
      (rw [run_eq]; simp only [stepA, hx, Tryz.func111, Tryz.f111, show retF 111 = false from rfl]; simp only [List.length_cons, List.length_nil, Nat.reduceAdd, Nat.reduceLeDiff, Nat.zero_le, ↓reduceIte, List.zipIdx_cons, List.zipIdx_nil, List.map_cons, List.map_nil])
      simp only [tbV, tbC, dV, sV, iV, bV, tmV, tmC, dcV, dcC, Tm.uD] at h80 ⊢
      simp only [zS, zD, convertA, makeFuncA, Nat.reduceAdd, Nat.reduceSub, Nat.reduceMul, Nat.reduceLT, Nat.reduceLeDiff, Nat.reduceGT, ↓reduceIte, Nat.reduceEqDiff, Nat.reduceBEq, reduceCtorEq, Int.reduceBEq, Int.reduceBNe, Int.reduceLT, Int.reduceLE, Int.reduceGT, Int.reduceGE, zT24, zT39, zT33, zT31, zT30, zT37, zT22, zT9, zT4, zT3, zT27, lenA_listD, lenA_lD, lenA_cd, List.length_map, ge_iff_le, wrap_wr, callOut_vd, e2, e26, e27, e28, h80, c]
      (refine Eq.trans ?_ rfl; kernel_rfl)
    | false =>
      simp only [e27, e28, Bool.false_and, Bool.false_or, Bool.or_false]
      (rw [run_eq]; simp only [stepA, hx, Tryz.func111, Tryz.f111, show retF 111 = false from rfl]; simp only [List.length_cons, List.length_nil, Nat.reduceAdd, Nat.reduceLeDiff, Nat.zero_le, ↓reduceIte, List.zipIdx_cons, List.zipIdx_nil, List.map_cons, List.map_nil])
      simp only [tbV, tbC, dV, sV, iV, bV, tmV, tmC, dcV, dcC, Tm.uD] at h80 ⊢
      simp only [zS, zD, convertA, makeFuncA, Nat.reduceAdd, Nat.reduceSub, Nat.reduceMul, Nat.reduceLT, Nat.reduceLeDiff, Nat.reduceGT, ↓reduceIte, Nat.reduceEqDiff, Nat.reduceBEq, reduceCtorEq, Int.reduceBEq, Int.reduceBNe, Int.reduceLT, Int.reduceLE, Int.reduceGT, Int.reduceGE, zT24, zT39, zT33, zT31, zT30, zT37, zT22, zT9, zT4, zT3, zT27, lenA_listD, lenA_lD, lenA_cd, List.length_map, ge_iff_le, wrap_wr, callOut_vd, e2, e26, e27, e28, h80, c]
      (refine Eq.trans ?_ rfl; kernel_rfl)

theorem nr111_26o (hx : ext 111 = none) (x : Tb) (o : Dc) (t : Tm) (e2 : (t.op == 2) = false) (e26 : (t.op == 26) = true) (e27 : (t.op == 27) = false) (e28 : (t.op == 28) = false) (k4 : (o.kind == 4) = true) (kn : (o.name.toList == t.s.toList) = true) :
    run Tryz.prog ext (.call 111 [tbV x, dcV o, tmV t] []) = some (.ret [iV (if arR t o = true then 42 else 0)] []) := by
  unfold arR
  cases c : ((t.u.length : Int) != o.levels) with
  | true =>
    (rw [run_eq]; simp only [stepA, hx, Tryz.func111, Tryz.f111, show retF 111 = false from rfl]; simp only [List.length_cons, List.length_nil, Nat.reduceAdd, Nat.reduceLeDiff, Nat.zero_le, ↓reduceIte, List.zipIdx_cons, List.zipIdx_nil, List.map_cons, List.map_nil])
    simp only [tbV, tbC, dV, sV, iV, bV, tmV, tmC, dcV, dcC, Tm.uD]
    simp only [zS, zD, convertA, makeFuncA, Nat.reduceAdd, Nat.reduceSub, Nat.reduceMul, Nat.reduceLT, Nat.reduceLeDiff, Nat.reduceGT, ↓reduceIte, Nat.reduceEqDiff, Nat.reduceBEq, reduceCtorEq, Int.reduceBEq, Int.reduceBNe, Int.reduceLT, Int.reduceLE, Int.reduceGT, Int.reduceGE, zT24, zT39, zT33, zT31, zT30, zT37, zT22, zT9, zT4, zT3, zT27, lenA_listD, lenA_lD, lenA_cd, List.length_map, ge_iff_le, wrap_wr, callOut_vd, e2, e26, e27, e28, k4, kn, c]
    (refine Eq.trans ?_ rfl; kernel_rfl)
  | false =>
    simp only [e27, e28, Bool.false_and, Bool.false_or, Bool.or_false]
    (rw [run_eq]; simp only [stepA, hx, Tryz.func111, Tryz.f111, show retF 111 = false from rfl]; simp only [List.length_cons, List.length_nil, Nat.reduceAdd, Nat.reduceLeDiff, Nat.zero_le, ↓reduceIte, List.zipIdx_cons, List.zipIdx_nil, List.map_cons, List.map_nil])
    simp only [tbV, tbC, dV, sV, iV, bV, tmV, tmC, dcV, dcC, Tm.uD]
    simp only [zS, zD, convertA, makeFuncA, Nat.reduceAdd, Nat.reduceSub, Nat.reduceMul, Nat.reduceLT, Nat.reduceLeDiff, Nat.reduceGT, ↓reduceIte, Nat.reduceEqDiff, Nat.reduceBEq, reduceCtorEq, Int.reduceBEq, Int.reduceBNe, Int.reduceLT, Int.reduceLE, Int.reduceGT, Int.reduceGE, zT24, zT39, zT33, zT31, zT30, zT37, zT22, zT9, zT4, zT3, zT27, lenA_listD, lenA_lD, lenA_cd, List.length_map, ge_iff_le, wrap_wr, callOut_vd, e2, e26, e27, e28, k4, kn, c]
    (refine Eq.trans ?_ rfl; kernel_rfl)

theorem nr111_26a (hx : ext 111 = none) (x : Tb) (o : Dc) (t : Tm) (e2 : (t.op == 2) = false) (e26 : (t.op == 26) = true) (e27 : (t.op == 27) = false) (e28 : (t.op == 28) = false) (k4 : (o.kind == 4) = false) (fa : Dc × Bool) (h73 : run Tryz.prog ext (.call 73 [tbV x, sV t.s] []) = some (.ret [dcV fa.1, bV fa.2] [])) :
    run Tryz.prog ext (.call 111 [tbV x, dcV o, tmV t] []) = some (.ret [iV (if fa.2 = true then (if arR t fa.1 = true then 42 else 0) else 41)] []) := by
  obtain ⟨d, b⟩ := fa
  cases b with
  | false =>
    (rw [run_eq]; simp only [stepA, hx, Tryz.func111, Tryz.f111, show retF 111 = false from rfl]; simp only [List.length_cons, List.length_nil, Nat.reduceAdd, Nat.reduceLeDiff, Nat.zero_le, ↓reduceIte, List.zipIdx_cons, List.zipIdx_nil, List.map_cons, List.map_nil])
    simp only [tbV, tbC, dV, sV, iV, bV, tmV, tmC, dcV, dcC, Tm.uD] at h73 ⊢
    simp only [zS, zD, convertA, makeFuncA, Nat.reduceAdd, Nat.reduceSub, Nat.reduceMul, Nat.reduceLT, Nat.reduceLeDiff, Nat.reduceGT, ↓reduceIte, Nat.reduceEqDiff, Nat.reduceBEq, reduceCtorEq, Int.reduceBEq, Int.reduceBNe, Int.reduceLT, Int.reduceLE, Int.reduceGT, Int.reduceGE, zT24, zT39, zT33, zT31, zT30, zT37, zT22, zT9, zT4, zT3, zT27, lenA_listD, lenA_lD, lenA_cd, List.length_map, ge_iff_le, wrap_wr, callOut_vd, e2, e26, e27, e28, h73, k4]
    (refine Eq.trans ?_ rfl; kernel_rfl)
  | true =>
    unfold arR
    cases c : ((t.u.length : Int) != d.levels) with
    | true =>
      (rw [run_eq]; simp only [stepA, hx, Tryz.func111, Tryz.f111, show retF 111 = false from rfl]; simp only [List.length_cons, List.length_nil, Nat.reduceAdd, Nat.reduceLeDiff, Nat.zero_le, ↓reduceIte, List.zipIdx_cons, List.zipIdx_nil, List.map_cons, List.map_nil])
      simp only [tbV, tbC, dV, sV, iV, bV, tmV, tmC, dcV, dcC, Tm.uD] at h73 ⊢
      simp only [zS, zD, convertA, makeFuncA, Nat.reduceAdd, Nat.reduceSub, Nat.reduceMul, Nat.reduceLT, Nat.reduceLeDiff, Nat.reduceGT, ↓reduceIte, Nat.reduceEqDiff, Nat.reduceBEq, reduceCtorEq, Int.reduceBEq, Int.reduceBNe, Int.reduceLT, Int.reduceLE, Int.reduceGT, Int.reduceGE, zT24, zT39, zT33, zT31, zT30, zT37, zT22, zT9, zT4, zT3, zT27, lenA_listD, lenA_lD, lenA_cd, List.length_map, ge_iff_le, wrap_wr, callOut_vd, e2, e26, e27, e28, h73, k4, c]
      (refine Eq.trans ?_ rfl; kernel_rfl)
    | false =>
      simp only [e27, e28, Bool.false_and, Bool.false_or, Bool.or_false]
      (rw [run_eq]; simp only [stepA, hx, Tryz.func111, Tryz.f111, show retF 111 = false from rfl]; simp only [List.length_cons, List.length_nil, Nat.reduceAdd, Nat.reduceLeDiff, Nat.zero_le, ↓reduceIte, List.zipIdx_cons, List.zipIdx_nil, List.map_cons, List.map_nil])
      simp only [tbV, tbC, dV, sV, iV, bV, tmV, tmC, dcV, dcC, Tm.uD] at h73 ⊢
      simp only [zS, zD, convertA, makeFuncA, Nat.reduceAdd, Nat.reduceSub, Nat.reduceMul, Nat.reduceLT, Nat.reduceLeDiff, Nat.reduceGT, ↓reduceIte, Nat.reduceEqDiff, Nat.reduceBEq, reduceCtorEq, Int.reduceBEq, Int.reduceBNe, Int.reduceLT, Int.reduceLE, Int.reduceGT, Int.reduceGE, zT24, zT39, zT33, zT31, zT30, zT37, zT22, zT9, zT4, zT3, zT27, lenA_listD, lenA_lD, lenA_cd, List.length_map, ge_iff_le, wrap_wr, callOut_vd, e2, e26, e27, e28, h73, k4, c]
      (refine Eq.trans ?_ rfl; kernel_rfl)

theorem nr111_26b (hx : ext 111 = none) (x : Tb) (o : Dc) (t : Tm) (e2 : (t.op == 2) = false) (e26 : (t.op == 26) = true) (e27 : (t.op == 27) = false) (e28 : (t.op == 28) = false) (k4 : (o.kind == 4) = true) (kn : (o.name.toList == t.s.toList) = false) (fa : Dc × Bool) (h73 : run Tryz.prog ext (.call 73 [tbV x, sV t.s] []) = some (.ret [dcV fa.1, bV fa.2] [])) :
    run Tryz.prog ext (.call 111 [tbV x, dcV o, tmV t] []) = some (.ret [iV (if fa.2 = true then (if arR t fa.1 = true then 42 else 0) else 41)] []) := by
  obtain ⟨d, b⟩ := fa
  cases b with
  | false =>
    (rw [run_eq]; simp only [stepA, hx, Tryz.func111, Tryz.f111, show retF 111 = false from rfl]; simp only [List.length_cons, List.length_nil, Nat.reduceAdd, Nat.reduceLeDiff, Nat.zero_le, ↓reduceIte, List.zipIdx_cons, List.zipIdx_nil, List.map_cons, List.map_nil])
    simp only [tbV, tbC, dV, sV, iV, bV, tmV, tmC, dcV, dcC, Tm.uD] at h73 ⊢
    simp only [zS, zD, convertA, makeFuncA, Nat.reduceAdd, Nat.reduceSub, Nat.reduceMul, Nat.reduceLT, Nat.reduceLeDiff, Nat.reduceGT, ↓reduceIte, Nat.reduceEqDiff, Nat.reduceBEq, reduceCtorEq, Int.reduceBEq, Int.reduceBNe, Int.reduceLT, Int.reduceLE, Int.reduceGT, Int.reduceGE, zT24, zT39, zT33, zT31, zT30, zT37, zT22, zT9, zT4, zT3, zT27, lenA_listD, lenA_lD, lenA_cd, List.length_map, ge_iff_le, wrap_wr, callOut_vd, e2, e26, e27, e28, h73, k4, kn]
    (refine Eq.trans ?_ rfl; kernel_rfl)
  | true =>
    unfold arR
    cases c : ((t.u.length : Int) != d.levels) with
    | true =>
      (rw [run_eq]; simp only [stepA, hx, Tryz.func111, Tryz.f111, show retF 111 = false from rfl]; simp only [List.length_cons, List.length_nil, Nat.reduceAdd, Nat.reduceLeDiff, Nat.zero_le, ↓reduceIte, List.zipIdx_cons, List.zipIdx_nil, List.map_cons, List.map_nil])
      simp only [tbV, tbC, dV, sV, iV, bV, tmV, tmC, dcV, dcC, Tm.uD] at h73 ⊢
      simp only [zS, zD, convertA, makeFuncA, Nat.reduceAdd, Nat.reduceSub, Nat.reduceMul, Nat.reduceLT, Nat.reduceLeDiff, Nat.reduceGT, ↓reduceIte, Nat.reduceEqDiff, Nat.reduceBEq, reduceCtorEq, Int.reduceBEq, Int.reduceBNe, Int.reduceLT, Int.reduceLE, Int.reduceGT, Int.reduceGE, zT24, zT39, zT33, zT31, zT30, zT37, zT22, zT9, zT4, zT3, zT27, lenA_listD, lenA_lD, lenA_cd, List.length_map, ge_iff_le, wrap_wr, callOut_vd, e2, e26, e27, e28, h73, k4, kn, c]
      (refine Eq.trans ?_ rfl; kernel_rfl)
    | false =>
      simp only [e27, e28, Bool.false_and, Bool.false_or, Bool.or_false]
      (rw [run_eq]; simp only [stepA, hx, Tryz.func111, Tryz.f111, show retF 111 = false from rfl]; simp only [List.length_cons, List.length_nil, Nat.reduceAdd, Nat.reduceLeDiff, Nat.zero_le, ↓reduceIte, List.zipIdx_cons, List.zipIdx_nil, List.map_cons, List.map_nil])
      simp only [tbV, tbC, dV, sV, iV, bV, tmV, tmC, dcV, dcC, Tm.uD] at h73 ⊢
      simp only [zS, zD, convertA, makeFuncA, Nat.reduceAdd, Nat.reduceSub, Nat.reduceMul, Nat.reduceLT, Nat.reduceLeDiff, Nat.reduceGT, ↓reduceIte, Nat.reduceEqDiff, Nat.reduceBEq, reduceCtorEq, Int.reduceBEq, Int.reduceBNe, Int.reduceLT, Int.reduceLE, Int.reduceGT, Int.reduceGE, zT24, zT39, zT33, zT31, zT30, zT37, zT22, zT9, zT4, zT3, zT27, lenA_listD, lenA_lD, lenA_cd, List.length_map, ge_iff_le, wrap_wr, callOut_vd, e2, e26, e27, e28, h73, k4, kn, c]
      (refine Eq.trans ?_ rfl; kernel_rfl)

theorem nr111_27 (hx : ext 111 = none) (x : Tb) (o : Dc) (t : Tm) (e2 : (t.op == 2) = false) (e26 : (t.op == 26) = false) (e27 : (t.op == 27) = true) (e28 : (t.op == 28) = false) (fa : Dc × Bool) (h73 : run Tryz.prog ext (.call 73 [tbV x, sV t.s] []) = some (.ret [dcV fa.1, bV fa.2] [])) :
    run Tryz.prog ext (.call 111 [tbV x, dcV o, tmV t] []) = some (.ret [iV (if fa.2 = true then (if arR t fa.1 = true then 42 else 0) else 41)] []) := by
  obtain ⟨d, b⟩ := fa
  cases b with
  | false =>
    (rw [run_eq]; simp only [stepA, hx, Tryz.func111, Tryz.f111, show retF 111 = false from rfl]; simp only [List.length_cons, List.length_nil, Nat.reduceAdd, Nat.reduceLeDiff, Nat.zero_le, ↓reduceIte, List.zipIdx_cons, List.zipIdx_nil, List.map_cons, List.map_nil])
    simp only [tbV, tbC, dV, sV, iV, bV, tmV, tmC, dcV, dcC, Tm.uD] at h73 ⊢
    simp only [zS, zD, convertA, makeFuncA, Nat.reduceAdd, Nat.reduceSub, Nat.reduceMul, Nat.reduceLT, Nat.reduceLeDiff, Nat.reduceGT, ↓reduceIte, Nat.reduceEqDiff, Nat.reduceBEq, reduceCtorEq, Int.reduceBEq, Int.reduceBNe, Int.reduceLT, Int.reduceLE, Int.reduceGT, Int.reduceGE, zT24, zT39, zT33, zT31, zT30, zT37, zT22, zT9, zT4, zT3, zT27, lenA_listD, lenA_lD, lenA_cd, List.length_map, ge_iff_le, wrap_wr, callOut_vd, e2, e26, e27, e28, h73]
    (refine Eq.trans ?_ rfl; kernel_rfl)
  | true =>
    unfold arR
    cases c : ((t.u.length : Int) != d.levels) with
    | true =>
      (rw [run_eq]; simp only [stepA, hx, Tryz.func111, Tryz.f111, show retF 111 = false from rfl]; simp only [List.length_cons, List.length_nil, Nat.reduceAdd, Nat.reduceLeDiff, Nat.zero_le, ↓reduceIte, List.zipIdx_cons, List.zipIdx_nil, List.map_cons, List.map_nil])
      simp only [tbV, tbC, dV, sV, iV, bV, tmV, tmC, dcV, dcC, Tm.uD] at h73 ⊢
      simp only [zS, zD, convertA, makeFuncA, Nat.reduceAdd, Nat.reduceSub, Nat.reduceMul, Nat.reduceLT, Nat.reduceLeDiff, Nat.reduceGT, ↓reduceIte, Nat.reduceEqDiff, Nat.reduceBEq, reduceCtorEq, Int.reduceBEq, Int.reduceBNe, Int.reduceLT, Int.reduceLE, Int.reduceGT, Int.reduceGE, zT24, zT39, zT33, zT31, zT30, zT37, zT22, zT9, zT4, zT3, zT27, lenA_listD, lenA_lD, lenA_cd, List.length_map, ge_iff_le, wrap_wr, callOut_vd, e2, e26, e27, e28, h73, c]
      (refine Eq.trans ?_ rfl; kernel_rfl)
    | false =>
      cases c2 : decide ((d.cons.length : Int) ≤ t.n) with
      | true =>
        simp only [e27, e28, Bool.true_and, Bool.false_and, Bool.false_or, Bool.or_false]
        (rw [run_eq]; simp only [stepA, hx, Tryz.func111, Tryz.f111, show retF 111 = false from rfl]; simp only [List.length_cons, List.length_nil, Nat.reduceAdd, Nat.reduceLeDiff, Nat.zero_le, ↓reduceIte, List.zipIdx_cons, List.zipIdx_nil, List.map_cons, List.map_nil])
        simp only [tbV, tbC, dV, sV, iV, bV, tmV, tmC, dcV, dcC, Tm.uD] at h73 ⊢
        simp only [zS, zD, convertA, makeFuncA, Nat.reduceAdd, Nat.reduceSub, Nat.reduceMul, Nat.reduceLT, Nat.reduceLeDiff, Nat.reduceGT, ↓reduceIte, Nat.reduceEqDiff, Nat.reduceBEq, reduceCtorEq, Int.reduceBEq, Int.reduceBNe, Int.reduceLT, Int.reduceLE, Int.reduceGT, Int.reduceGE, zT24, zT39, zT33, zT31, zT30, zT37, zT22, zT9, zT4, zT3, zT27, lenA_listD, lenA_lD, lenA_cd, List.length_map, ge_iff_le, wrap_wr, callOut_vd, e2, e26, e27, e28, h73, c, c2]
        (refine Eq.trans ?_ rfl; kernel_rfl)
      | false =>
        simp only [e27, e28, Bool.true_and, Bool.false_and, Bool.false_or, Bool.or_false]
        (rw [run_eq]; simp only [stepA, hx, Tryz.func111, Tryz.f111, show retF 111 = false from rfl]; simp only [List.length_cons, List.length_nil, Nat.reduceAdd, Nat.reduceLeDiff, Nat.zero_le, ↓reduceIte, List.zipIdx_cons, List.zipIdx_nil, List.map_cons, List.map_nil])
        simp only [tbV, tbC, dV, sV, iV, bV, tmV, tmC, dcV, dcC, Tm.uD] at h73 ⊢
        simp only [zS, zD, convertA, makeFuncA, Nat.reduceAdd, Nat.reduceSub, Nat.reduceMul, Nat.reduceLT, Nat.reduceLeDiff, Nat.reduceGT, ↓reduceIte, Nat.reduceEqDiff, Nat.reduceBEq, reduceCtorEq, Int.reduceBEq, Int.reduceBNe, Int.reduceLT, Int.reduceLE, Int.reduceGT, Int.reduceGE, zT24, zT39, zT33, zT31, zT30, zT37, zT22, zT9, zT4, zT3, zT27, lenA_listD, lenA_lD, lenA_cd, List.length_map, ge_iff_le, wrap_wr, callOut_vd, e2, e26, e27, e28, h73, c, c2]
        (refine Eq.trans ?_ rfl; kernel_rfl)

theorem nr111_28 (hx : ext 111 = none) (x : Tb) (o : Dc) (t : Tm) (e2 : (t.op == 2) = false) (e26 : (t.op == 26) = false) (e27 : (t.op == 27) = false) (e28 : (t.op == 28) = true) (fa : Dc × Bool) (h73 : run Tryz.prog ext (.call 73 [tbV x, sV t.s] []) = some (.ret [dcV fa.1, bV fa.2] [])) :
    run Tryz.prog ext (.call 111 [tbV x, dcV o, tmV t] []) = some (.ret [iV (if fa.2 = true then (if arR t fa.1 = true then 42 else 0) else 41)] []) := by
  obtain ⟨d, b⟩ := fa
  cases b with
  | false =>
    (rw [run_eq]; simp only [stepA, hx, Tryz.func111, Tryz.f111, show retF 111 = false from rfl]; simp only [List.length_cons, List.length_nil, Nat.reduceAdd, Nat.reduceLeDiff, Nat.zero_le, ↓reduceIte, List.zipIdx_cons, List.zipIdx_nil, List.map_cons, List.map_nil])
    simp only [tbV, tbC, dV, sV, iV, bV, tmV, tmC, dcV, dcC, Tm.uD] at h73 ⊢
    simp only [zS, zD, convertA, makeFuncA, Nat.reduceAdd, Nat.reduceSub, Nat.reduceMul, Nat.reduceLT, Nat.reduceLeDiff, Nat.reduceGT, ↓reduceIte, Nat.reduceEqDiff, Nat.reduceBEq, reduceCtorEq, Int.reduceBEq, Int.reduceBNe, Int.reduceLT, Int.reduceLE, Int.reduceGT, Int.reduceGE, zT24, zT39, zT33, zT31, zT30, zT37, zT22, zT9, zT4, zT3, zT27, lenA_listD, lenA_lD, lenA_cd, List.length_map, ge_iff_le, wrap_wr, callOut_vd, e2, e26, e27, e28, h73]
    (refine Eq.trans ?_ rfl; kernel_rfl)
  | true =>
    unfold arR
    cases c : ((t.u.length : Int) != d.levels) with
    | true =>
      (rw [run_eq]; simp only [stepA, hx, Tryz.func111, Tryz.f111, show retF 111 = false from rfl]; simp only [List.length_cons, List.length_nil, Nat.reduceAdd, Nat.reduceLeDiff, Nat.zero_le, ↓reduceIte, List.zipIdx_cons, List.zipIdx_nil, List.map_cons, List.map_nil])
      simp only [tbV, tbC, dV, sV, iV, bV, tmV, tmC, dcV, dcC, Tm.uD] at h73 ⊢
      simp only [zS, zD, convertA, makeFuncA, Nat.reduceAdd, Nat.reduceSub, Nat.reduceMul, Nat.reduceLT, Nat.reduceLeDiff, Nat.reduceGT, ↓reduceIte, Nat.reduceEqDiff, Nat.reduceBEq, reduceCtorEq, Int.reduceBEq, Int.reduceBNe, Int.reduceLT, Int.reduceLE, Int.reduceGT, Int.reduceGE, zT24, zT39, zT33, zT31, zT30, zT37, zT22, zT9, zT4, zT3, zT27, lenA_listD, lenA_lD, lenA_cd, List.length_map, ge_iff_le, wrap_wr, callOut_vd, e2, e26, e27, e28, h73, c]
      (refine Eq.trans ?_ rfl; kernel_rfl)
    | false =>
      cases c2 : ((t.l.length : Int) != wr ((d.cons.length : Int) + 3)) with
      | true =>
        simp only [e27, e28, Bool.true_and, Bool.false_and, Bool.false_or, Bool.or_false]
        (rw [run_eq]; simp only [stepA, hx, Tryz.func111, Tryz.f111, show retF 111 = false from rfl]; simp only [List.length_cons, List.length_nil, Nat.reduceAdd, Nat.reduceLeDiff, Nat.zero_le, ↓reduceIte, List.zipIdx_cons, List.zipIdx_nil, List.map_cons, List.map_nil])
        simp only [tbV, tbC, dV, sV, iV, bV, tmV, tmC, dcV, dcC, Tm.uD] at h73 ⊢
        simp only [zS, zD, convertA, makeFuncA, Nat.reduceAdd, Nat.reduceSub, Nat.reduceMul, Nat.reduceLT, Nat.reduceLeDiff, Nat.reduceGT, ↓reduceIte, Nat.reduceEqDiff, Nat.reduceBEq, reduceCtorEq, Int.reduceBEq, Int.reduceBNe, Int.reduceLT, Int.reduceLE, Int.reduceGT, Int.reduceGE, zT24, zT39, zT33, zT31, zT30, zT37, zT22, zT9, zT4, zT3, zT27, lenA_listD, lenA_lD, lenA_cd, List.length_map, ge_iff_le, wrap_wr, callOut_vd, e2, e26, e27, e28, h73, c, c2]
        (refine Eq.trans ?_ rfl; kernel_rfl)
      | false =>
        simp only [e27, e28, Bool.true_and, Bool.false_and, Bool.false_or, Bool.or_false]
        (rw [run_eq]; simp only [stepA, hx, Tryz.func111, Tryz.f111, show retF 111 = false from rfl]; simp only [List.length_cons, List.length_nil, Nat.reduceAdd, Nat.reduceLeDiff, Nat.zero_le, ↓reduceIte, List.zipIdx_cons, List.zipIdx_nil, List.map_cons, List.map_nil])
        simp only [tbV, tbC, dV, sV, iV, bV, tmV, tmC, dcV, dcC, Tm.uD] at h73 ⊢
        simp only [zS, zD, convertA, makeFuncA, Nat.reduceAdd, Nat.reduceSub, Nat.reduceMul, Nat.reduceLT, Nat.reduceLeDiff, Nat.reduceGT, ↓reduceIte, Nat.reduceEqDiff, Nat.reduceBEq, reduceCtorEq, Int.reduceBEq, Int.reduceBNe, Int.reduceLT, Int.reduceLE, Int.reduceGT, Int.reduceGE, zT24, zT39, zT33, zT31, zT30, zT37, zT22, zT9, zT4, zT3, zT27, lenA_listD, lenA_lD, lenA_cd, List.length_map, ge_iff_le, wrap_wr, callOut_vd, e2, e26, e27, e28, h73, c, c2]
        (refine Eq.trans ?_ rfl; kernel_rfl)

theorem names111 (hx : ext 111 = none) (x : Tb) (o : Dc) (t : Tm) (th fa : Dc × Bool) (h80 : run Tryz.prog ext (.call 80 [tbV x, sV t.s] []) = some (.ret [dcV th.1, bV th.2] [])) (h73 : run Tryz.prog ext (.call 73 [tbV x, sV t.s] []) = some (.ret [dcV fa.1, bV fa.2] [])) :
    run Tryz.prog ext (.call 111 [tbV x, dcV o, tmV t] []) = some (.ret [iV (ndR o t th fa)] []) := by
  unfold ndR ownB
  have g : ∀ a b : Int, ¬ a = b → ∀ n : Int, (n == a) = true → (n == b) = false := fun a b h n e => by
    rw [beq_iff_eq] at e
    rw [e]
    exact beq_false_of_ne h
  cases e2 : (t.op == 2) with
  | true => rw [if_pos rfl]; exact nr111_2 ext hx x o t e2 (g _ _ (by decide) _ e2) (g _ _ (by decide) _ e2) (g _ _ (by decide) _ e2) th h80
  | false =>
    rw [if_neg (by decide)]
    cases e26 : (t.op == 26) with
    | true =>
      have e27 : (t.op == 27) = false := g _ _ (by decide) _ e26
      have e28 : (t.op == 28) = false := g _ _ (by decide) _ e26
      cases k4 : (o.kind == 4) with
      | false => rw [if_neg (by simp), if_pos (by simp)]; exact nr111_26a ext hx x o t e2 e26 e27 e28 k4 fa h73
      | true =>
        cases kn : (o.name.toList == t.s.toList) with
        | false => rw [if_neg (by simp), if_pos (by simp)]; exact nr111_26b ext hx x o t e2 e26 e27 e28 k4 kn fa h73
        | true => rw [if_pos (by decide)]; exact nr111_26o ext hx x o t e2 e26 e27 e28 k4 kn
    | false =>
      rw [if_neg (by simp)]
      cases e27 : (t.op == 27) with
      | true =>
        rw [if_pos (by simp)]
        exact nr111_27 ext hx x o t e2 e26 e27 (g _ _ (by decide) _ e27) fa h73
      | false =>
        cases e28 : (t.op == 28) with
        | true => rw [if_pos (by decide)]; exact nr111_28 ext hx x o t e2 e26 e27 e28 fa h73
        | false => rw [if_neg (by decide)]; exact nr111_0 ext hx x o t e2 e26 e27 e28
end Go.Proofs.YteenjodhmppgjaaGreatDoor.Am
end
section
/- The names of a term, by the reference: the whole of it. -/
namespace Go.Proofs.YteenjodhmppgjaaGreatDoor.Am
open Go
variable (ext : Ext)
set_option maxHeartbeats 16000000
set_option maxRecDepth 8000
noncomputable def B67 : Code := (Tryz.f67.body.getD .skip)
noncomputable def L67a : Code := sub B67 [1, 1, 0, 1, 0, 0]
noncomputable def K67a : List It := [.inBlock 0, .code (sub B67 [1, 1, 1])]
noncomputable def H67a (ext : Ext) (m : Nat) (env : Env) (loc : List O) : Option Out := run Tryz.prog ext (.k ⟨44, m, [.cell 8 45], false⟩ (.code L67a :: .inLoop L67a :: K67a) env loc)
def fltV (c : Int) (p : List Int) : V := .agg [.d (.v (.int .i64 c)), .d (pathD p)]
def E67 (p : List Int) (k : Int) : Env := [(3, dV (pathD p)), (4, .c (.ptr 0 0)), (5, .c (.ptr 1 0)), (6, .c (.ptr 2 0)), (8, .c (.ptr 3 0)), (10, iV k)]
def O67 (x : Tb) (o : Dc) (t : Tm) : List O := [.box [.d x.d], .box (dcC o), .box (tmC t), .box [.d (.v (.int .i64 0)), .d (.v (.slice none 0 0))]]
theorem enter67 (hx : ext 67 = none) (x : Tb) (o : Dc) (t : Tm) (p : List Int) (r111 : run Tryz.prog ext (.call 111 [tbV x, dcV o, tmV t] []) = some (.ret [iV 0] [])) (out : Option Out)
    (h : H67a ext 0 (E67 p 0) (O67 x o t) = out) : run Tryz.prog ext (.call 67 [tbV x, dcV o, tmV t, dV (pathD p)] []) = out := by
  unfold H67a at h
  (rw [run_eq]; simp only [stepA, hx, Tryz.func67, Tryz.f67, show retF 67 = false from rfl]; simp only [List.length_cons, List.length_nil, Nat.reduceAdd, Nat.reduceLeDiff, Nat.zero_le, ↓reduceIte, List.zipIdx_cons, List.zipIdx_nil, List.map_cons, List.map_nil])
  simp only [tbV, tbC, tmV, tmC, dcV, dcC, dV, iV, E67, O67] at r111 h ⊢
  simp only [zS, zD, convertA, makeFuncA, Nat.reduceAdd, Nat.reduceSub, Nat.reduceMul, Nat.reduceLT, Nat.reduceLeDiff, Nat.reduceGT, ↓reduceIte, Nat.reduceEqDiff, Nat.reduceBEq, reduceCtorEq, Int.reduceBEq, Int.reduceBNe, Int.reduceLT, Int.reduceLE, Int.reduceGT, Int.reduceGE, zT24, zT39, zT33, zT45, zT27, zT31, zT43, zT3, r111, lenA_lD]
  (refine (r_inLoop_some ?_).trans h; kernel_rfl)
theorem out67 (hx : ext 67 = none) (x : Tb) (o : Dc) (t : Tm) (p : List Int) (c : Int) (hc : ¬ c = 0) (r111 : run Tryz.prog ext (.call 111 [tbV x, dcV o, tmV t] []) = some (.ret [iV c] [])) :
    run Tryz.prog ext (.call 67 [tbV x, dcV o, tmV t, dV (pathD p)] []) = some (.ret [fltV c p] []) := by
  (rw [run_eq]; simp only [stepA, hx, Tryz.func67, Tryz.f67, show retF 67 = false from rfl]; simp only [List.length_cons, List.length_nil, Nat.reduceAdd, Nat.reduceLeDiff, Nat.zero_le, ↓reduceIte, List.zipIdx_cons, List.zipIdx_nil, List.map_cons, List.map_nil])
  simp only [tbV, tbC, tmV, tmC, dcV, dcC, dV, iV, fltV] at r111 ⊢
  simp only [zS, zD, convertA, makeFuncA, Nat.reduceAdd, Nat.reduceSub, Nat.reduceMul, Nat.reduceLT, Nat.reduceLeDiff, Nat.reduceGT, ↓reduceIte, Nat.reduceEqDiff, Nat.reduceBEq, reduceCtorEq, Int.reduceBEq, Int.reduceBNe, Int.reduceLT, Int.reduceLE, Int.reduceGT, Int.reduceGE, zT24, zT39, zT33, zT45, zT27, zT31, zT43, zT3, r111, hc]
  (refine Eq.trans ?_ rfl; kernel_rfl)
theorem step67 (x : Tb) (o : Dc) (t y : Tm) (p : List Int) (k : Nat) (hk : t.l[k]? = some y) (hl : (k : Int) < t.l.length) (D : D) (r112 : run Tryz.prog ext (.call 112 [dV (pathD p), iV k] []) = some (.ret [dV D] []))
    (r67 : run Tryz.prog ext (.call 67 [tbV x, dcV o, tmV y, dV D] []) = some (.ret [.agg [.d (.v (.int .i64 0)), .d (.v (.slice none 0 0))]] [])) (out : Option Out) (h : H67a ext 0 (E67 p (wr ((k : Int) + 1))) (O67 x o t) = out) : H67a ext 0 (E67 p k) (O67 x o t) = out := by
  have h0 : (0 : Int) ≤ k := by omega
  unfold H67a at h ⊢
  simp only [tbV, tbC, tmV, tmC, dcV, dcC, dV, iV, E67, O67, lD_lt hl] at r112 r67 h ⊢
  (rw [show (It.code L67a) = It.code (sub B67 [1, 1, 0, 1, 0, 0]) from rfl]; simp only [B67, K67a, sub, Option.getD_some, Tryz.f67, ↓reduceIte, Nat.one_ne_zero])
  simp only [zS, zD, convertA, makeFuncA, Nat.reduceAdd, Nat.reduceSub, Nat.reduceMul, Nat.reduceLT, Nat.reduceLeDiff, Nat.reduceGT, ↓reduceIte, Nat.reduceEqDiff, Nat.reduceBEq, reduceCtorEq, Int.reduceBEq, Int.reduceBNe, Int.reduceLT, Int.reduceLE, Int.reduceGT, Int.reduceGE, zT24, zT39, zT33, zT45, zT27, zT31, zT43, zT3, drawA, holes_succ, holes_zero, Array.size, List.length, h0, hl, Int.toNat_natCast, hk, tmD_eq y, r112, r67]
  rw [afterDraw_some _ _ _ _ (by kernel_rfl)]
  simp only [zS, zD, convertA, makeFuncA, Nat.reduceAdd, Nat.reduceSub, Nat.reduceMul, Nat.reduceLT, Nat.reduceLeDiff, Nat.reduceGT, ↓reduceIte, Nat.reduceEqDiff, Nat.reduceBEq, reduceCtorEq, Int.reduceBEq, Int.reduceBNe, Int.reduceLT, Int.reduceLE, Int.reduceGT, Int.reduceGE, zT24, zT39, zT33, zT45, zT27, zT31, zT43, zT3]
  (refine (r_inLoop_some ?_).trans h; kernel_rfl)
theorem bad67 (x : Tb) (o : Dc) (t y : Tm) (p : List Int) (k : Nat) (hk : t.l[k]? = some y) (hl : (k : Int) < t.l.length) (D : D) (c : Int) (F : Am.D) (hc : ¬ c = 0) (r112 : run Tryz.prog ext (.call 112 [dV (pathD p), iV k] []) = some (.ret [dV D] []))
    (r67 : run Tryz.prog ext (.call 67 [tbV x, dcV o, tmV y, dV D] []) = some (.ret [.agg [.d (.v (.int .i64 c)), .d F]] [])) : H67a ext 0 (E67 p k) (O67 x o t) = some (.ret [.agg [.d (.v (.int .i64 c)), .d F]] []) := by
  have h0 : (0 : Int) ≤ k := by omega
  unfold H67a
  simp only [tbV, tbC, tmV, tmC, dcV, dcC, dV, iV, E67, O67, lD_lt hl] at r112 r67 ⊢
  (rw [show (It.code L67a) = It.code (sub B67 [1, 1, 0, 1, 0, 0]) from rfl]; simp only [B67, K67a, sub, Option.getD_some, Tryz.f67, ↓reduceIte, Nat.one_ne_zero])
  simp only [zS, zD, convertA, makeFuncA, Nat.reduceAdd, Nat.reduceSub, Nat.reduceMul, Nat.reduceLT, Nat.reduceLeDiff, Nat.reduceGT, ↓reduceIte, Nat.reduceEqDiff, Nat.reduceBEq, reduceCtorEq, Int.reduceBEq, Int.reduceBNe, Int.reduceLT, Int.reduceLE, Int.reduceGT, Int.reduceGE, zT24, zT39, zT33, zT45, zT27, zT31, zT43, zT3, drawA, holes_succ, holes_zero, Array.size, List.length, h0, hl, Int.toNat_natCast, hk, tmD_eq y, r112, r67]
  rw [afterDraw_some _ _ _ _ (by kernel_rfl)]
  simp only [zS, zD, convertA, makeFuncA, Nat.reduceAdd, Nat.reduceSub, Nat.reduceMul, Nat.reduceLT, Nat.reduceLeDiff, Nat.reduceGT, ↓reduceIte, Nat.reduceEqDiff, Nat.reduceBEq, reduceCtorEq, Int.reduceBEq, Int.reduceBNe, Int.reduceLT, Int.reduceLE, Int.reduceGT, Int.reduceGE, zT24, zT39, zT33, zT45, zT27, zT31, zT43, zT3, hc]
  (refine Eq.trans ?_ rfl; kernel_rfl)
theorem done67 (x : Tb) (o : Dc) (t : Tm) (p : List Int) : H67a ext 0 (E67 p t.l.length) (O67 x o t) = some (.ret [fltV 0 []] []) := by
  unfold H67a
  simp only [tmC, dV, iV, E67, O67, fltV, pathD_nil]
  (rw [show (It.code L67a) = It.code (sub B67 [1, 1, 0, 1, 0, 0]) from rfl]; simp only [B67, K67a, sub, Option.getD_some, Tryz.f67, ↓reduceIte, Nat.one_ne_zero])
  simp only [zS, zD, convertA, makeFuncA, Nat.reduceAdd, Nat.reduceSub, Nat.reduceMul, Nat.reduceLT, Nat.reduceLeDiff, Nat.reduceGT, ↓reduceIte, Nat.reduceEqDiff, Nat.reduceBEq, reduceCtorEq, Int.reduceBEq, Int.reduceBNe, Int.reduceLT, Int.reduceLE, Int.reduceGT, Int.reduceGE, zT24, zT39, zT33, zT45, zT27, zT31, zT43, zT3, lenA_lD, Int.lt_irrefl]
  (refine Eq.trans ?_ rfl; kernel_rfl)
def resF (p : List Int) : Option (Int × List Int) → V
  | none => fltV 0 []
  | some q => fltV q.1 (p ++ q.2)
theorem first_ne (e : Tm → Int) : ∀ (N : Nat) (t : Tm), t.sz ≤ N → ∀ q, firstE e t = some q → ¬ q.1 = 0
  | 0, t, h, _, _ => by have := t.sz_pos; omega
  | N + 1, t, h, q, hq => by
    rw [firstE_eq] at hq
    by_cases c : e t = 0
    · rw [if_pos c] at hq
      have : ∀ (l : List Tm) (k : Nat), (∀ y ∈ l, y ∈ t.l) → firstK (stepE e) k l = some q → ¬ q.1 = 0 := by
        intro l
        induction l with
        | nil => intro k _ h; cases h
        | cons y r ih =>
          intro k hm h
          simp only [firstK, stepE] at h
          cases hf : firstE e y with
          | none => rw [hf] at h; exact ih (k + 1) (fun z hz => hm z (List.mem_cons_of_mem _ hz)) h
          | some q' =>
            rw [hf] at h
            simp only [Option.map_some, Option.some.injEq] at h
            subst h
            have h1 := Tm.sz_lt (hm y List.mem_cons_self)
            exact first_ne e N y (by omega) q' hf
      exact this t.l 0 (fun y hy => hy) hq
    · rw [if_neg c] at hq; cases hq
      exact c
theorem named67 (e : Tm → Int) (hx : ext 67 = none) (x : Tb) (o : Dc) (I : Tm → Prop) (hI : ∀ t, I t → ∀ y ∈ t.l, I y) (h181 : ext 181 = none) (h112 : ext 112 = none)
    (r111 : ∀ t : Tm, I t → run Tryz.prog ext (.call 111 [tbV x, dcV o, tmV t] []) = some (.ret [iV (e t)] [])) :
    ∀ (N : Nat) (t : Tm), t.sz ≤ N → I t → ∀ p : List Int, p.length + N < 2 ^ 29 → run Tryz.prog ext (.call 67 [tbV x, dcV o, tmV t, dV (pathD p)] []) = some (.ret [resF p (firstE e t)] [])
  | 0, t, h, _, _, _ => by have := t.sz_pos; omega
  | N + 1, t, h, hi, p, hp => by
    have hll := t.len_lt
    have h111 := r111 t hi
    rw [firstE_eq]
    by_cases c : e t = 0
    case neg =>
      rw [if_neg c]
      have := out67 ext hx x o t p (e t) c h111
      rw [this]
      simp [resF]
    rw [if_pos c]
    rw [c] at h111
    refine enter67 ext hx x o t p h111 _ ?_
    have := loop_first t.l (fun k => H67a ext 0 (E67 p k) (O67 x o t)) (stepE e) (fun q => some (.ret [resF p (some q)] [])) (some (.ret [fltV 0 []] [])) (by omega) (fun k y hk hl => by
        have r112 := along112 ext h112 p k (by omega) (copy181 ext h181 p (by omega))
        have hr := named67 e hx x o I hI h181 h112 r111 N y (by have := Tm.sz_lt (List.mem_of_getElem? hk); omega) (hI t hi y (List.mem_of_getElem? hk)) (p ++ [(k : Int)]) (by simp; omega)
        unfold stepE
        cases hf : firstE e y with
        | none =>
          rw [hf] at hr
          exact fun out ho => step67 ext x o t y p k hk hl _ r112 hr out ho
        | some q =>
          rw [hf] at hr
          show _ = some (Out.ret [resF p (some (q.1, (k : Int) :: q.2))] [])
          have e3 : resF (p ++ [(k : Int)]) (some q) = resF p (some (q.1, (k : Int) :: q.2)) := by simp [resF]
          rw [e3] at hr
          exact bad67 ext x o t y p k hk hl _ q.1 (pathD (p ++ ((k : Int) :: q.2))) (first_ne e y.sz y (Nat.le_refl _) q hf) r112 hr) (done67 ext x o t p)
    rw [this]
    cases firstK (stepE e) 0 t.l <;> rfl
end Go.Proofs.YteenjodhmppgjaaGreatDoor.Am
end
section
/- TableFits: the walk and the law. -/
namespace Go.Proofs.YteenjodhmppgjaaGreatDoor.Am
open Go
variable (ext : Ext)
set_option maxHeartbeats 8000000
set_option maxRecDepth 8000
/-! ### Form, all of it -/
theorem norm230' (hx : ext 230 = none) (x : Lev) (h126 : run Tryz.prog ext (.call 126 [levV x] []) = some (.ret [bV x.valid] []))
    (h129 : x.valid = true → run Tryz.prog ext (.call 129 [iV x.c, dV x.d] []) = some (.ret [levV (canonR x.c x.vs)] []))
    (h128 : run Tryz.prog ext (.call 128 [levV (canonR x.c x.vs)] []) = some (.ret [levV (fitsR (canonR x.c x.vs)).1, iV (fitsR (canonR x.c x.vs)).2] [])) :
    run Tryz.prog ext (.call 230 [levV x] []) = some (.ret [levV (normR x).1, iV (normR x).2] []) := by
  cases hv : x.valid with
  | true => exact norm230 ext hx x h126 (h129 hv) h128
  | false =>
    unfold normR
    rw [hv] at h126 ⊢
    rw [if_neg (by simp)]
    (rw [run_eq]; simp only [stepA, hx, Tryz.func230, Tryz.f230, show retF 230 = false from rfl]; simp only [List.length_cons, List.length_nil, Nat.reduceAdd, Nat.reduceLeDiff, Nat.zero_le, ↓reduceIte, List.zipIdx_cons, List.zipIdx_nil, List.map_cons, List.map_nil])
    simp only [levV, bV, iV, levC_z, levC] at h126 ⊢
    simp only [zS, zD, convertA, makeFuncA, Nat.reduceAdd, Nat.reduceSub, Nat.reduceMul, Nat.reduceLT, Nat.reduceLeDiff, Nat.reduceGT, ↓reduceIte, Nat.reduceEqDiff, Nat.reduceBEq, reduceCtorEq, Int.reduceBEq, Int.reduceBNe, Int.reduceLT, Int.reduceLE, Int.reduceGT, Int.reduceGE, zT36, zT34, zT3, h126]
    (refine Eq.trans ?_ rfl; kernel_rfl)
def Tm.small (t : Tm) : Prop := t.wt < 2 ^ 49
theorem small_part (t : Tm) (h : t.small) (y : Tm) (hy : y ∈ t.l) : y.small := by have := Tm.wt_lt hy; unfold Tm.small at h ⊢; omega
theorem canonP_run (H : ∀ n, n ≠ 14 → n ≠ 121 → n ≠ 59 → ext n = none) (hs : Sorts ext) (y : Lev) (hy : y.vs.length < 2 ^ 50) : run Tryz.prog ext (.call 173 [levV y] []) = some (.ret [bV (canonL y)] []) := by
  have E := fun n (h : n ≠ 14 ∧ n ≠ 121 ∧ n ≠ 59) => H n h.1 h.2.1 h.2.2
  refine canon173 ext (E _ (by decide)) y (norm221 ext (E _ (by decide)) hs y (valid120 ext (E _ (by decide)) (E _ (by decide)) (E _ (by decide)) (E _ (by decide)) y) fun _ => ?_) fun z z' l m hl => eqs222 ext (E _ (by decide)) z z' l m hl
  have := canon125 ext (E _ (by decide)) (E _ (by decide)) y.c (sortL y.vs) false (by rw [sortL_len]; omega)
  rwa [listD_false] at this
theorem canonR_run (H : ∀ n, n ≠ 14 → n ≠ 121 → n ≠ 59 → ext n = none) (y : Lev) (hy : y.vs.length < 2 ^ 50) : run Tryz.prog ext (.call 178 [levV y] []) = some (.ret [bV (canonL y)] []) := by
  have E := fun n (h : n ≠ 14 ∧ n ≠ 121 ∧ n ≠ 59) => H n h.1 h.2.1 h.2.2
  refine canon178 ext (E _ (by decide)) y (norm230' ext (E _ (by decide)) y (valid126 ext (E _ (by decide)) y) (fun hv => ?_) (fits128 ext (E _ (by decide)) _)) (eq43 ext (E _ (by decide)) y _ hy)
  have hl : y.vs.length ≤ 8 := by
    unfold Lev.valid at hv
    simp only [Bool.and_eq_true, decide_eq_true_eq] at hv
    exact_mod_cast hv.1.2
  exact canon129 ext (E _ (by decide)) (E _ (by decide)) y.z y.vs y.c (by omega)
theorem formP_run (H : ∀ n, n ≠ 14 → n ≠ 121 → n ≠ 59 → ext n = none) (hs : Sorts ext) (t : Tm) (h : t.small) : run Tryz.prog ext (.call 64 [tmV t] []) = some (.ret [bV (formOK t)] []) := by
  have E := fun n (h : n ≠ 14 ∧ n ≠ 121 ∧ n ≠ 59) => H n h.1 h.2.1 h.2.2
  refine form64 ext (E _ (by decide)) (E _ (by decide)) (E _ (by decide)) (E _ (by decide)) Tm.small small_part (fun x hx => ?_) t.sz t h (Nat.le_refl _) (by have := t.sz_le_wt; unfold Tm.small at h; omega)
  have h1 := x.s_lt
  have h2 := x.ulen_lt
  have h3 := x.sz_le_wt
  unfold Tm.small at hx
  exact node106 ext (E _ (by decide)) (E _ (by decide)) x (name170 ext (E _ (by decide)) x.s (by omega))
    (all171 ext (E _ (by decide)) (E _ (by decide)) (E _ (by decide)) x.zu x.u (by omega) fun y hy => canonP_run ext H hs y (by have := Tm.levw_lt hy; unfold Lev.sz at this; omega))
theorem formR_run (H : ∀ n, n ≠ 14 → n ≠ 121 → n ≠ 59 → ext n = none) (t : Tm) (h : t.small) : run Tryz.prog ext (.call 66 [tmV t] []) = some (.ret [bV (formOK t)] []) := by
  have E := fun n (h : n ≠ 14 ∧ n ≠ 121 ∧ n ≠ 59) => H n h.1 h.2.1 h.2.2
  refine form66 ext (E _ (by decide)) Tm.small small_part (fun x hx => ?_) t.sz t h (Nat.le_refl _) (by have := t.sz_le_wt; unfold Tm.small at h; omega)
  have h1 := x.s_lt
  have h2 := x.ulen_lt
  have h3 := x.sz_le_wt
  unfold Tm.small at hx
  exact node110 ext (E _ (by decide)) (E _ (by decide)) (E _ (by decide)) (E _ (by decide)) (E _ (by decide)) x (by omega)
    (fun y hy => canonR_run ext H y (by have := Tm.levw_lt hy; unfold Lev.sz at this; omega)) (name179 ext (E _ (by decide)) x.s (by omega))
/-! ### the names, both -/
def ndx (x : Tb) (t : Tm) : Int := ndE t (thing x t.s) (family x t.s)
theorem arB_R (t : Tm) (d : Dc) (h1 : t.l.length < 2 ^ 50) (h2 : d.cons.length < 2 ^ 50) : arR t d = arB t d := by
  unfold arR arB
  have e : ((t.l.length : Int) != wr ((d.cons.length : Int) + 3)) = (wr ((t.l.length : Int) - 3) != (d.cons.length : Int)) := by
    rw [wr_id (by omega) (by omega), wr_id (by omega) (by omega), Bool.eq_iff_iff, bne_iff_ne, bne_iff_ne]
    omega
  rw [e]
theorem family_wt {x : Tb} {s : ByteArray} : (family x s).1 = zDc ∨ (family x s).1 ∈ x.ds := by
  unfold family
  split
  · exact .inl rfl
  · rename_i d e
    split
    · exact .inr (List.mem_of_find?_eq_some e)
    · exact .inl rfl
theorem cons_small {x : Tb} (hx : x.wt < 2 ^ 49) {d : Dc} (h : d = zDc ∨ d ∈ x.ds) : d.cons.length < 2 ^ 49 := by
  rcases h with rfl | h
  · exact (by decide : (0 : Nat) < 2 ^ 49)
  · have := d.cons_lt; have := Tb.dc_le h; omega
theorem ndR_z (x : Tb) (hx : x.wt < 2 ^ 49) (t : Tm) (ht : t.small) : ndR zDc t (thing x t.s) (family x t.s) = ndx x t := by
  have h1 := t.len_lt
  have h2 := t.sz_le_wt
  unfold Tm.small at ht
  have a1 : arR t (family x t.s).1 = arB t (family x t.s).1 := arB_R t _ (by omega) (by have := cons_small hx (family_wt (x := x) (s := t.s)); omega)
  have a2 : (t.op == 2) = true → arR t (thing x t.s).1 = ((t.u.length : Int) != (thing x t.s).1.levels) := by
    intro e
    rw [beq_iff_eq] at e
    unfold arR
    have e27 : (t.op == 27) = false := by rw [e]; rfl
    have e28 : (t.op == 28) = false := by rw [e]; rfl
    rw [e27, e28, Bool.false_and, Bool.false_and, Bool.or_false, Bool.or_false]
  have a3 : ownB zDc t = false := rfl
  unfold ndx ndE ndR
  rw [a3, Bool.and_false, if_neg (by simp : ¬ (false = true)), a1]
  by_cases c : (t.op == 2) = true
  · rw [if_pos c, if_pos c, a2 c]
  · rw [if_neg c, if_neg c]
theorem namedP_run (H : ∀ n, n ≠ 14 → n ≠ 121 → n ≠ 59 → ext n = none) (x : Tb) (hx : x.wt < 2 ^ 49) (t : Tm) (ht : t.wt < 2 ^ 28) : run Tryz.prog ext (.call 65 [tbV x, nptr, tmV t, dV nilD] []) = some (.ret [resV [] (firstE (ndx x) t)] []) := by
  have E := fun n (h : n ≠ 14 ∧ n ≠ 121 ∧ n ≠ 59) => H n h.1 h.2.1 h.2.2
  have hl := x.len_le
  exact named65 ext (ndx x) (E _ (by decide)) x (fun _ => True) (fun _ _ _ _ => trivial) (fun t p _ hp => node109 ext (E _ (by decide)) x t p _ _ (fun c => refuse102 ext (E _ (by decide)) c p (clone163 ext (E _ (by decide)) p hp))
    (constant78 ext (E _ (by decide)) (E _ (by decide)) (E _ (by decide)) (E _ (by decide)) x t.s (by omega)) (fam71 ext (E _ (by decide)) (E _ (by decide)) (E _ (by decide)) (E _ (by decide)) x t.s (by omega)))
    t.sz t (Nat.le_refl _) trivial [] (by have := t.sz_le_wt; simp only [List.length_nil]; omega)
theorem namedR_run (H : ∀ n, n ≠ 14 → n ≠ 121 → n ≠ 59 → ext n = none) (x : Tb) (hx : x.wt < 2 ^ 49) (t : Tm) (ht : t.wt < 2 ^ 28) : run Tryz.prog ext (.call 67 [tbV x, dcV zDc, tmV t, dV (pathD [])] []) = some (.ret [resF [] (firstE (ndx x) t)] []) := by
  have E := fun n (h : n ≠ 14 ∧ n ≠ 121 ∧ n ≠ 59) => H n h.1 h.2.1 h.2.2
  have hl := x.len_le
  exact named67 ext (ndx x) (E _ (by decide)) x zDc Tm.small small_part (E _ (by decide)) (E _ (by decide)) (fun t ht => by
      have := names111 ext (E _ (by decide)) x zDc t _ _ (thing80 ext (E _ (by decide)) (E _ (by decide)) x t.s (by omega)) (fam73 ext (E _ (by decide)) (E _ (by decide)) x t.s (by omega))
      rwa [ndR_z x hx t ht] at this) t.sz t (Nat.le_refl _) (by unfold Tm.small; omega) [] (by have := t.sz_le_wt; simp only [List.length_nil]; omega)
/-! ### Fits -/
theorem fits19 (hx : ext 19 = none) (x : Tb) (t : Tm) (r : Option (Int × List Int)) (r64 : run Tryz.prog ext (.call 64 [tmV t] []) = some (.ret [bV (formOK t)] [])) (r65 : run Tryz.prog ext (.call 65 [tbV x, nptr, tmV t, dV nilD] []) = some (.ret [resV [] r] []))
    (r59 : run Tryz.prog ext (.call 59 [resV [] r] []) = some (.ret [resF [] r] [])) :
    run Tryz.prog ext (.call 19 [tbV x, tmV t] []) = some (.ret [if formOK t = true then resF [] r else fltV 4 []] []) := by
  cases hf : formOK t with
  | false =>
    rw [hf] at r64
    rw [if_neg (by simp)]
    (rw [run_eq]; simp only [stepA, hx, Tryz.func19, Tryz.f19, show retF 19 = false from rfl]; simp only [List.length_cons, List.length_nil, Nat.reduceAdd, Nat.reduceLeDiff, Nat.zero_le, ↓reduceIte, List.zipIdx_cons, List.zipIdx_nil, List.map_cons, List.map_nil])
    simp only [tbV, tbC, tmV, tmC, bV, fltV, pathD_nil] at r64 ⊢
    simp only [zS, zD, convertA, makeFuncA, Nat.reduceAdd, Nat.reduceSub, Nat.reduceMul, Nat.reduceLT, Nat.reduceLeDiff, Nat.reduceGT, ↓reduceIte, Nat.reduceEqDiff, Nat.reduceBEq, reduceCtorEq, Int.reduceBEq, Int.reduceBNe, Int.reduceLT, Int.reduceLE, Int.reduceGT, Int.reduceGE, zT24, zT33, zT45, zT27, zT43, zT3, r64]
    (refine Eq.trans ?_ rfl; kernel_rfl)
  | true =>
    rw [hf] at r64
    rw [if_pos rfl]
    obtain ⟨D, hD⟩ : ∃ D, resV [] r = V.c (.d D) := by
      cases r with
      | none => exact ⟨_, rfl⟩
      | some q => show ∃ D, erV q.1 ([] ++ q.2) = _; exact ⟨_, erV_eq _ _⟩
    obtain ⟨c, p, hF⟩ : ∃ c p, resF [] r = fltV c p := by
      cases r with
      | none => exact ⟨_, _, rfl⟩
      | some q => exact ⟨_, _, rfl⟩
    rw [hD] at r65 r59
    rw [hF] at r59 ⊢
    (rw [run_eq]; simp only [stepA, hx, Tryz.func19, Tryz.f19, show retF 19 = false from rfl]; simp only [List.length_cons, List.length_nil, Nat.reduceAdd, Nat.reduceLeDiff, Nat.zero_le, ↓reduceIte, List.zipIdx_cons, List.zipIdx_nil, List.map_cons, List.map_nil])
    simp only [tbV, tbC, tmV, tmC, bV, dV, nptr, nilD, fltV] at r64 r65 r59 ⊢
    simp only [zS, zD, convertA, makeFuncA, Nat.reduceAdd, Nat.reduceSub, Nat.reduceMul, Nat.reduceLT, Nat.reduceLeDiff, Nat.reduceGT, ↓reduceIte, Nat.reduceEqDiff, Nat.reduceBEq, reduceCtorEq, Int.reduceBEq, Int.reduceBNe, Int.reduceLT, Int.reduceLE, Int.reduceGT, Int.reduceGE, zT24, zT33, zT45, zT27, zT43, zT3, r64, r65, r59]
    (refine Eq.trans ?_ rfl; kernel_rfl)
theorem fits20 (hx : ext 20 = none) (x : Tb) (t : Tm) (r : Option (Int × List Int)) (r66 : run Tryz.prog ext (.call 66 [tmV t] []) = some (.ret [bV (formOK t)] [])) (r67 : run Tryz.prog ext (.call 67 [tbV x, dcV zDc, tmV t, dV (pathD [])] []) = some (.ret [resF [] r] [])) :
    run Tryz.prog ext (.call 20 [tbV x, tmV t] []) = some (.ret [if formOK t = true then resF [] r else fltV 4 []] []) := by
  cases hf : formOK t with
  | false =>
    rw [hf] at r66
    rw [if_neg (by simp)]
    (rw [run_eq]; simp only [stepA, hx, Tryz.func20, Tryz.f20, show retF 20 = false from rfl]; simp only [List.length_cons, List.length_nil, Nat.reduceAdd, Nat.reduceLeDiff, Nat.zero_le, ↓reduceIte, List.zipIdx_cons, List.zipIdx_nil, List.map_cons, List.map_nil])
    simp only [tbV, tbC, tmV, tmC, bV, fltV, pathD_nil] at r66 ⊢
    simp only [zS, zD, convertA, makeFuncA, Nat.reduceAdd, Nat.reduceSub, Nat.reduceMul, Nat.reduceLT, Nat.reduceLeDiff, Nat.reduceGT, ↓reduceIte, Nat.reduceEqDiff, Nat.reduceBEq, reduceCtorEq, Int.reduceBEq, Int.reduceBNe, Int.reduceLT, Int.reduceLE, Int.reduceGT, Int.reduceGE, zT24, zT33, zT39, zT45, zT27, zT43, zT3, r66]
    (refine Eq.trans ?_ rfl; kernel_rfl)
  | true =>
    rw [hf] at r66
    rw [if_pos rfl]
    obtain ⟨c, p, hF⟩ : ∃ c p, resF [] r = fltV c p := by
      cases r with
      | none => exact ⟨_, _, rfl⟩
      | some q => exact ⟨_, _, rfl⟩
    rw [hF] at r67 ⊢
    have hz : dcC zDc = [.d (.v (.string ⟨#[]⟩)), .d (.v (.int .i64 0)), .d (.v (.int .i64 0)), .d (.v (.int .i64 0)), .d (.v (.int .i64 0)), .d (.v (.string ⟨#[]⟩)), .d (.v (.slice none 0 0)), .d (.v (.slice none 0 0)),
      .d (.v (.int .i64 0)), .d (.v (.int .i64 0)), .d (.v (.string ⟨#[]⟩)), .d (.v (.slice none 0 0)), .d (.v (.slice none 0 0)), .d (.v (.int .i64 0)), .d (.v (.int .i64 0)), .d (.v (.string ⟨#[]⟩)), .d (.v (.slice none 0 0)), .d (.v (.slice none 0 0)),
      .d (.v (.int .i64 0)), .d (.v (.slice none 0 0)), .d (.v (.int .i64 0)), .d (.v (.slice none 0 0)), .d (.v (.slice none 0 0))] := rfl
    (rw [run_eq]; simp only [stepA, hx, Tryz.func20, Tryz.f20, show retF 20 = false from rfl]; simp only [List.length_cons, List.length_nil, Nat.reduceAdd, Nat.reduceLeDiff, Nat.zero_le, ↓reduceIte, List.zipIdx_cons, List.zipIdx_nil, List.map_cons, List.map_nil])
    simp only [tbV, tbC, tmV, tmC, bV, dV, fltV, dcV, hz, pathD_nil] at r66 r67 ⊢
    simp only [zS, zD, convertA, makeFuncA, Nat.reduceAdd, Nat.reduceSub, Nat.reduceMul, Nat.reduceLT, Nat.reduceLeDiff, Nat.reduceGT, ↓reduceIte, Nat.reduceEqDiff, Nat.reduceBEq, reduceCtorEq, Int.reduceBEq, Int.reduceBNe, Int.reduceLT, Int.reduceLE, Int.reduceGT, Int.reduceGE, zT24, zT33, zT39, zT45, zT27, zT43, zT3, r66, r67]
    (refine Eq.trans ?_ rfl; kernel_rfl)
theorem eqInts_self (p : List Int) : allR eqIn p p = true := by
  induction p with
  | nil => rfl
  | cons a r ih => simp only [allR, eqIn, ih, beq_self_eq_true, Bool.and_self]
theorem eqF18 (hx : ext 18 = none) (c : Int) (p : List Int) (r27 : run Tryz.prog ext (.call 27 [dV (pathD p), dV (pathD p)] []) = some (.ret [bV true] [])) : run Tryz.prog ext (.call 18 [fltV c p, fltV c p] []) = some (.ret [bV true] []) := by
  (rw [run_eq]; simp only [stepA, hx, Tryz.func18, Tryz.f18, show retF 18 = false from rfl]; simp only [List.length_cons, List.length_nil, Nat.reduceAdd, Nat.reduceLeDiff, Nat.zero_le, ↓reduceIte, List.zipIdx_cons, List.zipIdx_nil, List.map_cons, List.map_nil])
  simp only [fltV, dV, bV] at r27 ⊢
  simp only [zS, zD, convertA, makeFuncA, Nat.reduceAdd, Nat.reduceSub, Nat.reduceMul, Nat.reduceLT, Nat.reduceLeDiff, Nat.reduceGT, ↓reduceIte, Nat.reduceEqDiff, Nat.reduceBEq, reduceCtorEq, Int.reduceBEq, Int.reduceBNe, Int.reduceLT, Int.reduceLE, Int.reduceGT, Int.reduceGE, zT45, zT27, zT43, zT3, r27]
  (refine Eq.trans ?_ rfl; kernel_rfl)
theorem heavy5 (hx : ext 5 = none) (x : Tb) (t : Tm) (b1 b2 : Bool) (r13 : run Tryz.prog ext (.call 13 [tbV x] []) = some (.ret [bV b1] [])) (r17 : run Tryz.prog ext (.call 17 [tmV t, iV 400] []) = some (.ret [bV b2] []))
    (r14 : run Tryz.prog ext (.call 14 [] []) = some (.ret [bV true] [])) (h : b1 = true ∨ b2 = true) : run Tryz.prog ext (.call 5 [tbV x, tmV t] []) = some (.ret [bV true] []) := by
  cases b1 with
  | true =>
    (rw [run_eq]; simp only [stepA, hx, Tryz.func5, Tryz.f5, show retF 5 = false from rfl]; simp only [List.length_cons, List.length_nil, Nat.reduceAdd, Nat.reduceLeDiff, Nat.zero_le, ↓reduceIte, List.zipIdx_cons, List.zipIdx_nil, List.map_cons, List.map_nil])
    simp only [tbV, tbC, tmV, tmC, bV, iV] at r13 r17 r14 ⊢
    simp only [zS, zD, convertA, makeFuncA, Nat.reduceAdd, Nat.reduceSub, Nat.reduceMul, Nat.reduceLT, Nat.reduceLeDiff, Nat.reduceGT, ↓reduceIte, Nat.reduceEqDiff, Nat.reduceBEq, reduceCtorEq, Int.reduceBEq, Int.reduceBNe, Int.reduceLT, Int.reduceLE, Int.reduceGT, Int.reduceGE, zT24, zT33, zT3, r13, r14]
    (refine Eq.trans ?_ rfl; kernel_rfl)
  | false =>
    have h2 : b2 = true := by rcases h with h | h; (· cases h); (· exact h)
    rw [h2] at r17
    (rw [run_eq]; simp only [stepA, hx, Tryz.func5, Tryz.f5, show retF 5 = false from rfl]; simp only [List.length_cons, List.length_nil, Nat.reduceAdd, Nat.reduceLeDiff, Nat.zero_le, ↓reduceIte, List.zipIdx_cons, List.zipIdx_nil, List.map_cons, List.map_nil])
    simp only [tbV, tbC, tmV, tmC, bV, iV] at r13 r17 r14 ⊢
    simp only [zS, zD, convertA, makeFuncA, Nat.reduceAdd, Nat.reduceSub, Nat.reduceMul, Nat.reduceLT, Nat.reduceLeDiff, Nat.reduceGT, ↓reduceIte, Nat.reduceEqDiff, Nat.reduceBEq, reduceCtorEq, Int.reduceBEq, Int.reduceBNe, Int.reduceLT, Int.reduceLE, Int.reduceGT, Int.reduceGE, zT24, zT33, zT3, r13, r17, r14]
    (refine Eq.trans ?_ rfl; kernel_rfl)
theorem light5 (hx : ext 5 = none) (x : Tb) (t : Tm) (c : Int) (p : List Int) (r13 : run Tryz.prog ext (.call 13 [tbV x] []) = some (.ret [bV false] [])) (r17 : run Tryz.prog ext (.call 17 [tmV t, iV 400] []) = some (.ret [bV false] []))
    (r14 : run Tryz.prog ext (.call 14 [] []) = some (.ret [bV true] [])) (r19 : run Tryz.prog ext (.call 19 [tbV x, tmV t] []) = some (.ret [fltV c p] [])) (r20 : run Tryz.prog ext (.call 20 [tbV x, tmV t] []) = some (.ret [fltV c p] [])) (r18 : run Tryz.prog ext (.call 18 [fltV c p, fltV c p] []) = some (.ret [bV true] [])) :
    run Tryz.prog ext (.call 5 [tbV x, tmV t] []) = some (.ret [bV true] []) := by
  (rw [run_eq]; simp only [stepA, hx, Tryz.func5, Tryz.f5, show retF 5 = false from rfl]; simp only [List.length_cons, List.length_nil, Nat.reduceAdd, Nat.reduceLeDiff, Nat.zero_le, ↓reduceIte, List.zipIdx_cons, List.zipIdx_nil, List.map_cons, List.map_nil])
  simp only [tbV, tbC, tmV, tmC, bV, iV, fltV] at r13 r17 r14 r19 r20 r18 ⊢
  simp only [zS, zD, convertA, makeFuncA, Nat.reduceAdd, Nat.reduceSub, Nat.reduceMul, Nat.reduceLT, Nat.reduceLeDiff, Nat.reduceGT, ↓reduceIte, Nat.reduceEqDiff, Nat.reduceBEq, reduceCtorEq, Int.reduceBEq, Int.reduceBNe, Int.reduceLT, Int.reduceLE, Int.reduceGT, Int.reduceGE, zT24, zT33, zT45, zT27, zT43, zT3, drawA, holes_succ, holes_zero, Array.size, List.length, r13, r17, r14, r19, r20, r18]
  rw [afterDraw_some _ _ _ _ (by kernel_rfl)]
  simp only [zS, zD, convertA, makeFuncA, Nat.reduceAdd, Nat.reduceSub, Nat.reduceMul, Nat.reduceLT, Nat.reduceLeDiff, Nat.reduceGT, ↓reduceIte, Nat.reduceEqDiff, Nat.reduceBEq, reduceCtorEq, Int.reduceBEq, Int.reduceBNe, Int.reduceLT, Int.reduceLE, Int.reduceGT, Int.reduceGE]
  (refine Eq.trans ?_ rfl; kernel_rfl)
theorem law5 (H : ∀ n, n ≠ 14 → n ≠ 121 → n ≠ 59 → ext n = none) (hs : Sorts ext) (r14 : run Tryz.prog ext (.call 14 [] []) = some (.ret [bV true] []))
    (r59 : ∀ r : Option (Int × List Int), run Tryz.prog ext (.call 59 [resV [] r] []) = some (.ret [resF [] r] [])) (x : Tb) (t : Tm) (hx : x.wt < 2 ^ 28) (ht : t.wt < 2 ^ 28) :
    run Tryz.prog ext (.call 5 [tbV x, tmV t] []) = some (.ret [bV true] []) := by
  have E := fun n (h : n ≠ 14 ∧ n ≠ 121 ∧ n ≠ 59) => H n h.1 h.2.1 h.2.2
  have hok : x.ok := Tb.ok_wt (by omega)
  have hsz := t.sz_le_wt
  obtain ⟨b1, r13⟩ := heavy13 ext (E _ (by decide)) (E _ (by decide)) (E _ (by decide)) (E _ (by decide)) (E _ (by decide)) (E _ (by decide)) x hok
  obtain ⟨b2, r17⟩ := heavy17 ext (E _ (by decide)) (E _ (by decide)) (E _ (by decide)) t 400 (by omega)
  by_cases c1 : b1 = true ∨ b2 = true
  · exact heavy5 ext (E _ (by decide)) x t b1 b2 r13 r17 r14 c1
  · have hb1 : b1 = false := by cases b1; rfl; exact absurd (.inl rfl) c1
    have hb2 : b2 = false := by cases b2; rfl; exact absurd (.inr rfl) c1
    subst hb1 hb2
    have r19 := fits19 ext (E _ (by decide)) x t _ (formP_run ext H hs t (by unfold Tm.small; omega)) (namedP_run ext H x (by omega) t ht) (r59 _)
    have r20 := fits20 ext (E _ (by decide)) x t _ (formR_run ext H t (by unfold Tm.small; omega)) (namedR_run ext H x (by omega) t ht)
    obtain ⟨c, p, hp, hF⟩ : ∃ c p, p.length < 2 ^ 50 ∧ (if formOK t = true then resF [] (firstE (ndx x) t) else fltV 4 []) = fltV c p := by
      split
      · cases hf : firstE (ndx x) t with
        | none => exact ⟨0, [], by decide, rfl⟩
        | some q =>
          have := len_first (ndx x) t.sz t (Nat.le_refl _) q hf
          exact ⟨q.1, q.2, by omega, rfl⟩
      · exact ⟨4, [], by decide, rfl⟩
    rw [hF] at r19 r20
    have r27 := eq27 ext (E _ (by decide)) true true p p hp
    rw [eqInts_self] at r27
    exact light5 ext (E _ (by decide)) x t c p r13 r17 r14 r19 r20 (eqF18 ext (E _ (by decide)) c p r27)
end Go.Proofs.YteenjodhmppgjaaGreatDoor.Am
end
section
/- What stands in for errors.As and its caller, for TableFits. -/
namespace Go.Proofs.YteenjodhmppgjaaGreatDoor.Am
open Go
noncomputable def E5 : Ext := fun f => if f = 59 then some g59 else E1 f
theorem rec5 : RecOK Tryz.prog (run Tryz.prog E5) := by
  refine recOK_run named (fun f g args objs out h1 h2 => ?_) mixes
  unfold E5 at h1
  by_cases h0 : f = 59
  · subst h0; rw [if_pos rfl] at h1; cases h1; exact .inl ⟨bodied59, call59 h2⟩
  rw [if_neg h0] at h1
  unfold E1 at h1
  by_cases h : f = 121
  · subst h; rw [if_pos rfl] at h1; cases h1; exact .inl ⟨bodied121, R121_ok (R121_of h2)⟩
  · rw [if_neg h] at h1
    by_cases h' : f = 14
    · subst h'; rw [if_pos rfl] at h1; cases h1
      unfold g14 at h2
      split at h2
      · cases h2; exact .inl ⟨bodied14, sound0 awake0 bodied14⟩
      · cases h2
    · rw [if_neg h'] at h1; cases h1
theorem ex5 (n : FuncId) (h1 : n ≠ 14) (h2 : n ≠ 121) (h3 : n ≠ 59) : E5 n = none := by unfold E5; rw [if_neg h3]; exact ex1 n h1 h2
theorem awake5 : run Tryz.prog E5 (.call 14 [] []) = some (.ret [bV true] []) := by
  rw [run_eq]
  simp [stepA, E5, E1, g14]
theorem sorts5 : Sorts E5 := by
  intro z l hl
  rw [run_eq]
  simp only [stepA, E5, E1]
  exact g121_of ⟨z, l, hl, rfl, rfl, rfl⟩
theorem fault5 (r : Option (Int × List Int)) : run Tryz.prog E5 (.call 59 [resV [] r] []) = some (.ret [resF [] r] []) := by
  rw [run_eq]
  simp only [stepA, E5, if_true]
  cases r with
  | none => rfl
  | some q =>
    obtain ⟨c, p⟩ := q
    cases p with
    | nil => rfl
    | cons a r =>
      show g59 [.c (.d (.i 128 [.v (.int .i64 c), .s 1 ((a :: r).map inD)]))] [] = some (.ret [fltV c (a :: r)] [])
      unfold fltV
      rw [pathD_cons]
      rfl
end Go.Proofs.YteenjodhmppgjaaGreatDoor.Am
end
section
/- What the call of TableFits gives, for every input within the bound. -/
namespace Go.Proofs.YteenjodhmppgjaaGreatDoor.Am
open Go Go.ChangeShapes Go.WideShapes Go.RowKit Go.ChangeMaps
theorem law5' (x : Tb) (t : Tm) (hx : x.wt < 2 ^ 28) (ht : t.wt < 2 ^ 28) : CallOK Tryz.prog 5 [tbV x, tmV t] [] (.ret [bV true] []) := by
  have hrun := law5 E5 ex5 sorts5 awake5 fault5 x t hx ht
  rcases rec5 5 _ _ _ hrun with ⟨_, h⟩ | ⟨xs, y, h, _⟩
  · exact h
  · cases xs with
    | nil => cases h
    | cons a l => simp only [List.map_cons, List.cons.injEq] at h; cases h.1
/-! ### the variable of the program that is laid -/
theorem laid_et : Tryz.prog.globalNamed "errors.errorType" = some 0 := by kernel_rfl
theorem laid_rt : (Tryz.prog.cutTypes.find? (·.1 == "internal/reflectlite.rtype")).map (·.2) = some 203 := by kernel_rfl
theorem laid_oneRow : ((List.range Tryz.prog.types.size).filter fun t => Tryz.prog.rowNamed t [101, 114, 114, 111, 114]) = [85] := by kernel_rfl
theorem laid_handle {W : World} (h : laidMetH Tryz.prog [("errors.errorType", Rows.laid_errors_errorType)] W) : W.cell? ⟨0, 0, none⟩ = some laidV := by
  have h' : laidMet Tryz.prog [] W ∧ handlesMet Tryz.prog [("errors.errorType", Rows.laid_errors_errorType)] W := h
  obtain ⟨name, u, ty, e1, e2, e3, e4, e5⟩ := h'.2 _ (List.mem_singleton.2 rfl)
  have en : name = [101, 114, 114, 111, 114] := (Option.some.inj e1).symm
  subst en
  obtain rfl := Option.some.inj (laid_rt.symm.trans e2)
  have hm : ty ∈ (List.range Tryz.prog.types.size).filter fun t => Tryz.prog.rowNamed t [101, 114, 114, 111, 114] := List.mem_filter.2 ⟨List.mem_range.2 e3, e4⟩
  rw [laid_oneRow] at hm
  obtain rfl := List.mem_singleton.1 hm
  have hh : typeHandle Tryz.prog 85 = .pointer (some ⟨1, 85, none⟩) := by kernel_rfl
  rw [hh] at e5
  have := World.var?_cell laid_et e5 0
  unfold laidV
  simpa using this
theorem sim0 {W : World} (hl : W.cell? ⟨0, 0, none⟩ = some laidV) : Sim W (fun _ => False) (fun _ => 0) (lk []) :=
  ⟨fun b h => h.elim, fun id o h => (by cases h), fun id id' o o' h => (by cases h), hl, by rintro ⟨id, o, h1, _⟩; cases h1⟩
theorem ran5 {W : World} {cs cs' : Array Value} {H : Type} {en : TypeId × Value → H} {fuel fuel' : Nat} {x y : DataW H × List MemPlace} (hl : W.cell? ⟨0, 0, none⟩ = some laidV) (h : DataW.trod en Tryz.prog W 0 (fun _ => true) true fuel 24 cs.toList = some x)
    (h' : DataW.trod en Tryz.prog W 0 (fun _ => true) true fuel' 33 cs'.toList = some y) (hle : Rows.uptoBulk x.1 ≤ 1048576) (hle' : Rows.uptoBulk y.1 ≤ 1048576) :
    Calls Tryz.prog 5 #[.agg cs, .agg cs'] W fun e W' => e = .returned (.bool true) ∧ (∀ b, b < W.heap.size → W'.heap[b]? = W.heap[b]?) ∧ ∀ may, W.keptBut W' may := by
  have hN : ∀ b, b < W.heap.size → Nn W (fun _ => False) (fun _ => 0) (lk []) b := fun b hb => ⟨hb, id, by rintro ⟨id, o, h1, _⟩; cases h1⟩
  obtain ⟨t, hrep, hwt⟩ := readTb3 hN h
  obtain ⟨q, hrep', hwq⟩ := readTm3 hN _ _ _ h'
  have hok : CallOK Tryz.prog 5 [tbV t, tmV q] [] (.ret [bV true] []) := law5' t q (by omega) (by omega)
  have hall : All2 (RVs W (fun _ => False) (fun _ => 0) (lk [])) [.agg cs, .agg cs'] [tbV t, tmV q] := by
    refine .cons ⟨cs, rfl, ?_⟩ (.cons ⟨cs', rfl, ?_⟩ .nil)
    · exact rk_all (β := fun _ => 0) (sh := shL (lk [])) hrep
    · have := rk_all (β := fun _ => 0) (sh := shL (lk [])) hrep'
      rw [show (tmD q).map C.d = tmC q by simp [tmD_eq, tmC]] at this
      exact this
  refine (hok W (fun _ => False) (fun _ => 0) _ (sim0 hl) hall).mono ?_
  rintro e W' ⟨β', v, rfl, hres, _, hst⟩
  obtain ⟨k1, k2⟩ := kept_of hst
  refine ⟨?_, k1, k2⟩
  rcases hres with ⟨y, hy, hv⟩ | ⟨hne, _⟩
  · cases hy
    have hv' : RepD W' _ v (.v (.bool true)) := hv
    cases hv'
    rfl
  · exact absurd rfl hne
set_option maxRecDepth 100000 in
theorem contract5 (H : Type) (enc : TypeId × Value → H) (W : World) (base : Nat) (args : Array Value) (ds gs : List (DataW H)) (before : List MemPlace)
    (hval : ∀ (j : Nat) t v, Tryz.f5.params[j]? = some t → args[j]? = some v → Value.okWide Tryz.prog W .any base t v)
    (hW : DataW.Whole enc Tryz.prog Tryz.f5.params.toList Rows.tableFitsSpec.vars false W args.toList ds gs before) (hcond : Rows.uptoSmall H (ds ++ gs) = true) (hlaid : laidMetH Tryz.prog [("errors.errorType", Rows.laid_errors_errorType)] W) :
    Calls Tryz.prog 5 args W fun e W' => ∃ v, e = .returned v ∧ Rows.tableFitsSpec.post enc Tryz.prog Tryz.f5 false true false false W args v W' := by
  have hW' := hW
  obtain ⟨p, q, hA0, hV, rfl, hfz, hnd⟩ := hW
  have hA : DataW.TrodAll enc Tryz.prog W 0 (fun _ => true) true Tryz.f5.params.toList args.toList ds p := hA0
  rw [Tryz.params5] at hA
  have q0 : Tryz.f5.params[0]? = some 24 := by kernel_rfl
  have q1 : Tryz.f5.params[1]? = some 33 := by kernel_rfl
  obtain ⟨v0, v1, d0, d1, p0, p1, rfl, rfl, rfl, t0, t1⟩ := trodAll_two hA
  obtain ⟨rfl, rfl⟩ := trodVars_none hV
  have w0 := hval 0 24 v0 q0 (by simp)
  have w1 := hval 1 33 v1 q1 (by simp)
  clear hval
  obtain ⟨cs, e0, _⟩ := okWide_struct Tryz.underlying24 w0
  subst e0
  obtain ⟨cs', e1, _⟩ := okWide_struct Tryz.underlying33 w1
  subst e1
  obtain ⟨fuel, ht⟩ := t0
  obtain ⟨fuel', ht'⟩ := t1
  have hb := of_decide_eq_true hcond
  simp only [List.cons_append, List.nil_append, List.append_nil, Rows.uptoBulkAll] at hb
  refine (ran5 (laid_handle hlaid) ht ht' (show Rows.uptoBulk d0 ≤ 1048576 by omega) (show Rows.uptoBulk d1 ≤ 1048576 by omega)).mono fun e W' ⟨he, hk, hkept⟩ => ?_
  subst he
  refine ⟨_, rfl, [d0, d1], [], _, [], p0 ++ p1, [], hW', trodAll_mk1 (shut_bool Tryz.underlying4 _), ?_, rfl, hkept _, fun h => by cases h⟩
  refine trodAll_mk2 ⟨fuel, tb_keep hk ht fun p hp => ?_⟩ ⟨fuel', tm_keep hk _ _ _ ht' fun p hp => ?_⟩
  · have hp' : p ∈ (p0 ++ p1) ++ ([] : List MemPlace) := by simp only [List.append_nil, List.mem_append]; exact .inl hp
    simpa using hW'.lt p hp'
  · have hp' : p ∈ (p0 ++ p1) ++ ([] : List MemPlace) := by simp only [List.append_nil, List.mem_append]; exact .inr hp
    simpa using hW'.lt p hp'
end Go.Proofs.YteenjodhmppgjaaGreatDoor.Am
end
