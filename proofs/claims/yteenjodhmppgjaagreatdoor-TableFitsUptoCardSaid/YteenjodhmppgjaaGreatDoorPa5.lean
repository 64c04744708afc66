/- Part 5 of the proof of the card of TableFits, second form: no statement of its own; no conditions. -/
import Derived.Test.YteenjodhmppgjaaGreatDoorPa4
set_option linter.unusedSimpArgs false
set_option linter.unusedVariables false
set_option linter.defProp false
set_option linter.unusedSectionVars false
section
/- fault: what a table's error tells. -/
namespace Go.Proofs.YteenjodhmppgjaaGreatDoor.Am
open Go Go.RowKit Go.Extern.Stop Go.Stop Go.Extern
set_option maxHeartbeats 4000000 in
theorem fault_nil (w : World) : Calls Tryz.prog 59 #[.nilIface] w fun ev w' => ev = .returned (.agg #[.int .i64 0, .slice none 0 0]) ∧ w' = (w.alloc (.cells #[.int .i64 0, .slice none 0 0] 45)).alloc (.cells #[.int .i64 0, .slice none 0 0] 128) := by
  go_enter Tryz.func59, Tryz.ntmps59
  go_wp2_with (go_at_call 100; refine (as_nil _ _).mono ?_; rintro e w' ⟨rfl, rfl⟩)
  (try simp only [Exit.inBlock, Exit.then])
  refine bodyPost_ret (results_cell_row rfl _ _ w.heap.size 45 #[.int .i64 0, .slice none 0 0] (0, 0) _ rfl ?_ Tryz.underlying45 rfl (by kernel_rfl)) rfl ?_
  · rw [heapA, if_neg (by simp), heapA, if_pos rfl]
  · exact ⟨rfl, rfl⟩
/-- What is as it was. -/
structure Kept (w w' : World) : Prop where
  os : w'.os = w.os
  tape : w'.tape = w.tape
  output : w'.output = w.output
  size : w.heap.size ≤ w'.heap.size
  old : ∀ b, b < w.heap.size → w'.heap[b]? = w.heap[b]?
theorem Kept.trans {w w' w'' : World} (h : Kept w w') (k : Kept w' w'') : Kept w w'' :=
  ⟨k.os.trans h.os, k.tape.trans h.tape, k.output.trans h.output, Nat.le_trans h.size k.size, fun b hb => (k.old b (Nat.lt_of_lt_of_le hb h.size)).trans (h.old b hb)⟩
theorem kept_alloc (w : World) (o : Obj) : Kept w (w.alloc o) := ⟨rfl, rfl, rfl, by simp, fun b hb => by rw [heapA, if_neg (Nat.ne_of_lt hb)]⟩
theorem asW_kept (t : Nat) (c s : Value) (w : World) (b : Nat) (hb : b < w.heap.size) (hbt : b ≠ t) : (asW t c s w).heap[b]? = w.heap[b]? := by
  unfold asW
  rw [setRow_other _ _ _ _ hbt, heapA, if_neg (by simp; omega), heapA, if_neg (by simp; omega), heapA, if_neg (by simp; omega), heapA, if_neg (by omega)]
theorem asW_at {t : Nat} {c s c0 s0 : Value} {w : World} (ht0 : w.heap[t]? = some (.cells #[c0, s0] 128 (0, 0))) : (asW t c s w).heap[t]? = some (.cells #[c, s] 128 (0, 0)) := by
  have htl : t < w.heap.size := by
    rcases Nat.lt_or_ge t w.heap.size with h | h
    · exact h
    · simp [Array.getElem?_eq_none h] at ht0
  have : ((((w.alloc (.cells #[.pointer (some ⟨t, 0, none⟩)] 130)).alloc (.cells #[.pointer (some ⟨1, 130, none⟩), .pointer (some ⟨w.heap.size, 0, none⟩), .int .u64 150] 168)).alloc (.cells #[.pointer (some ⟨1, 130, none⟩), .pointer (some ⟨w.heap.size, 0, none⟩), .int .u64 150] 168)).alloc (.cells #[c, s] 128)).heap[t]? = some (.cells #[c0, s0] 128 (0, 0)) := by
    rw [heapA, if_neg (by simp; omega), heapA, if_neg (by simp; omega), heapA, if_neg (by simp; omega), heapA, if_neg (by omega)]; exact ht0
  unfold asW World.setRow
  rw [Array.getElem?_modify, if_pos rfl, this]
  rfl
set_option maxHeartbeats 4000000 in
theorem fault_hit (c : Int) (A : Option Addr) (n cp : Nat) (w : World) (hg : w.cell? ⟨0, 0, none⟩ = some (.iface 203 (.agg #[.pointer (some ⟨1, 85, none⟩)]))) :
    Calls Tryz.prog 59 #[.iface 128 (.agg #[.int .i64 c, .slice A n cp])] w fun ev w' => ev = .returned (.agg #[.int .i64 c, .slice A n cp]) ∧ Kept w w' := by
  have hlt : 0 < w.heap.size := by
    rcases Nat.eq_zero_or_pos w.heap.size with h0 | h
    · simp [World.cell?, h0] at hg
    · exact h
  have hgA : ((w.alloc (.cells #[.int .i64 0, .slice none 0 0] 45)).alloc (.cells #[.int .i64 0, .slice none 0 0] 128)).cell? ⟨0, 0, none⟩ = some (.iface 203 (.agg #[.pointer (some ⟨1, 85, none⟩)])) := by
    rw [World.cell?_alloc_lt _ _ ⟨0, 0, none⟩ (by simp), World.cell?_alloc_lt _ _ ⟨0, 0, none⟩ hlt]; exact hg
  have htA : ((w.alloc (.cells #[.int .i64 0, .slice none 0 0] 45)).alloc (.cells #[.int .i64 0, .slice none 0 0] 128)).heap[w.heap.size + 1]? = some (.cells #[.int .i64 0, .slice none 0 0] 128 (0, 0)) := by
    rw [heapA, if_pos (by simp)]
  have h45 : ((w.alloc (.cells #[.int .i64 0, .slice none 0 0] 45)).alloc (.cells #[.int .i64 0, .slice none 0 0] 128)).heap[w.heap.size]? = some (.cells #[.int .i64 0, .slice none 0 0] 45 (0, 0)) := by
    rw [heapA, if_neg (by simp), heapA, if_pos rfl]
  have k0 : Kept w ((w.alloc (.cells #[.int .i64 0, .slice none 0 0] 45)).alloc (.cells #[.int .i64 0, .slice none 0 0] 128)) := (kept_alloc _ _).trans (kept_alloc _ _)
  have q1 : (asW (w.heap.size + 1) (.int .i64 c) (.slice A n cp) ((w.alloc (.cells #[.int .i64 0, .slice none 0 0] 45)).alloc (.cells #[.int .i64 0, .slice none 0 0] 128))).heap[w.heap.size + 1]? = some (.cells #[.int .i64 c, .slice A n cp] 128 (0, 0)) := asW_at htA
  have q2 : (asW (w.heap.size + 1) (.int .i64 c) (.slice A n cp) ((w.alloc (.cells #[.int .i64 0, .slice none 0 0] 45)).alloc (.cells #[.int .i64 0, .slice none 0 0] 128))).heap[w.heap.size]? = some (.cells #[.int .i64 0, .slice none 0 0] 45 (0, 0)) := by rw [asW_kept _ _ _ _ _ (by simp; omega) (by simp)]; exact h45
  have q3 : ∀ b, b < w.heap.size → (asW (w.heap.size + 1) (.int .i64 c) (.slice A n cp) ((w.alloc (.cells #[.int .i64 0, .slice none 0 0] 45)).alloc (.cells #[.int .i64 0, .slice none 0 0] 128))).heap[b]? = w.heap[b]? := fun b hb => by
    rw [asW_kept _ _ _ _ _ (by simp; omega) (by omega)]; exact k0.old b hb
  have q4 : w.heap.size ≤ (asW (w.heap.size + 1) (.int .i64 c) (.slice A n cp) ((w.alloc (.cells #[.int .i64 0, .slice none 0 0] 45)).alloc (.cells #[.int .i64 0, .slice none 0 0] 128))).heap.size := by
    unfold asW; rw [setRow_size]; simp; omega
  have hit := as_hit (w.heap.size + 1) (.int .i64 c) (.slice A n cp) (.int .i64 0) (.slice none 0 0) rfl rfl ((w.alloc (.cells #[.int .i64 0, .slice none 0 0] 45)).alloc (.cells #[.int .i64 0, .slice none 0 0] 128)) hgA htA
  have o1 : (asW (w.heap.size + 1) (.int .i64 c) (.slice A n cp) ((w.alloc (.cells #[.int .i64 0, .slice none 0 0] 45)).alloc (.cells #[.int .i64 0, .slice none 0 0] 128))).os = w.os := rfl
  have o2 : (asW (w.heap.size + 1) (.int .i64 c) (.slice A n cp) ((w.alloc (.cells #[.int .i64 0, .slice none 0 0] 45)).alloc (.cells #[.int .i64 0, .slice none 0 0] 128))).tape = w.tape := rfl
  have o3 : (asW (w.heap.size + 1) (.int .i64 c) (.slice A n cp) ((w.alloc (.cells #[.int .i64 0, .slice none 0 0] 45)).alloc (.cells #[.int .i64 0, .slice none 0 0] 128))).output = w.output := rfl
  generalize asW (w.heap.size + 1) (.int .i64 c) (.slice A n cp) ((w.alloc (.cells #[.int .i64 0, .slice none 0 0] 45)).alloc (.cells #[.int .i64 0, .slice none 0 0] 128)) = W at hit q1 q2 q3 q4 o1 o2 o3
  have c0 : W.cell? ⟨w.heap.size + 1, 0, none⟩ = some (.int .i64 c) := by simp [World.cell?, q1]
  have c1 : W.cell? ⟨w.heap.size + 1, 1, none⟩ = some (.slice A n cp) := by simp [World.cell?, q1]
  have d0 : W.cell? ⟨w.heap.size, 0, none⟩ = some (.int .i64 0) := by simp [World.cell?, q2]
  have d1 : W.cell? ⟨w.heap.size, 1, none⟩ = some (.slice none 0 0) := by simp [World.cell?, q2]
  have e0 : W.frozen? ⟨w.heap.size, 0, none⟩ = false := by simp [World.frozen?, q2]
  have e1 : W.frozen? ⟨w.heap.size, 1, none⟩ = false := by simp [World.frozen?, q2]
  go_enter Tryz.func59, Tryz.ntmps59
  go_wp2_with (go_at_call 100; refine hit.mono ?_; rintro e w' ⟨rfl, rfl⟩)
  refine bodyPost_ret (results_cell_row rfl _ _ w.heap.size 45 #[.int .i64 c, .slice A n cp] (0, 0) _ rfl ?_ Tryz.underlying45 rfl (by kernel_rfl)) rfl ⟨rfl, o1, o2, o3, ?_, fun b hb => ?_⟩
  · simp [World.setCell, Array.getElem?_modify, q2]
  · simp only [World.setCell, Array.size_modify]; exact q4
  · simp only [World.setCell, Array.getElem?_modify]
    rw [if_neg (by omega), if_neg (by omega)]
    exact q3 b hb
/-! ### as a function that stands in -/
def g59 (args : List V) (objs : List O) : Option Out :=
  match args, objs with
  | [.c (.d (.v .nilIface))], [] => some (.ret [.agg [.d (.v (.int .i64 0)), .d (.v (.slice none 0 0))]] [])
  | [.c (.d (.v (.iface 128 (.agg ⟨[.int .i64 c, .slice none 0 0]⟩))))], [] => some (.ret [.agg [.d (.v (.int .i64 c)), .d (.v (.slice none 0 0))]] [])
  | [.c (.d (.i 128 [.v (.int .i64 c), .s 1 els]))], [] => some (.ret [.agg [.d (.v (.int .i64 c)), .d (.s 1 els)]] [])
  | _, _ => none
theorem bodied59 : Bodied Tryz.prog 59 := ⟨Tryz.f59, Tryz.func59, by kernel_rfl⟩
theorem kept_ok {w w' : World} {F : Nat → Prop} {β : Int → Nat} (hS : Sim w F β (lk [])) (hk : Kept w w') : Sim w' F β (lk []) ∧ St (fun _ => True) w β (lk []) w' β (lk []) :=
  call_apart hS hk.os hk.tape hk.output hk.size hk.old
theorem repD_v {w : World} {N : Nat → Prop} {v x : Value} (h : RepD w N v (.v x)) : v = x := by cases h; rfl
theorem iface2 {w : World} {N : Nat → Prop} {β : Int → Nat} {sh : Nat → Option Sh} {v : Value} {c : Int} {x : D} (h : RV w N β sh v (.c (.d (.i 128 [.v (.int .i64 c), x])))) : ∃ s, v = .iface 128 (.agg #[.int .i64 c, s]) ∧ RepD w N s x ∧ True := by
  cases h with
  | @i _ a xs hn hr =>
    have h2 : a.size = 2 := hn
    have h0 := hr 0 a[0] _ (by simp [h2]) rfl
    have h1 := hr 1 a[1] _ (by simp [h2]) rfl
    have e0 : a[0] = .int .i64 c := repD_v h0
    refine ⟨a[1], ?_, h1, trivial⟩
    congr 2
    apply Array.ext
    · simp [h2]
    · intro i hi hi'
      have : i = 0 ∨ i = 1 := by omega
      rcases this with rfl | rfl
      · simpa using e0
      · rfl
theorem call59 {args : List V} {objs : List O} {out : Out} (h : g59 args objs = some out) : CallOK Tryz.prog 59 args objs out := by
  unfold g59 at h
  split at h
  · cases h
    intro w F β vals hS hargs
    cases hargs with
    | cons h1 h2 =>
      cases h2
      obtain ⟨rfl, _⟩ := rv_v h1
      refine (fault_nil w).mono fun e w' ⟨he, hw⟩ => ?_
      obtain ⟨g1, g2⟩ := kept_ok hS (by rw [hw]; exact (kept_alloc _ _).trans (kept_alloc _ _) : Kept w w')
      exact ⟨β, _, he, .inl ⟨_, rfl, _, rfl, .cons ⟨rfl, .v rfl⟩ (.cons ⟨rfl, .v rfl⟩ .nil)⟩, g1, g2.some⟩
  · rename_i c
    cases h
    intro w F β vals hS hargs
    cases hargs with
    | cons h1 h2 =>
      cases h2
      obtain ⟨rfl, _⟩ := rv_v h1
      refine (fault_hit c none 0 0 w hS.laid.1).mono fun e w' ⟨he, hw⟩ => ?_
      obtain ⟨g1, g2⟩ := kept_ok hS hw
      exact ⟨β, _, he, .inl ⟨_, rfl, _, rfl, .cons ⟨rfl, .v rfl⟩ (.cons ⟨rfl, .v rfl⟩ .nil)⟩, g1, g2.some⟩
  · rename_i c els
    cases h
    intro w F β vals hS hargs
    cases hargs with
    | cons h1 h2 =>
      cases h2
      obtain ⟨s, rfl, hs, e⟩ := iface2 h1
      have : ∃ A n cp, s = .slice A n cp := by cases hs <;> exact ⟨_, _, _, rfl⟩
      obtain ⟨A, n, cp, rfl⟩ := this
      refine (fault_hit c A n cp w hS.laid.1).mono fun e w' ⟨he, hw⟩ => ?_
      obtain ⟨g1, g2⟩ := kept_ok hS hw
      exact ⟨β, _, he, .inl ⟨_, rfl, _, rfl, .cons ⟨rfl, .v rfl⟩ (.cons ⟨rfl, RepD.mono g2.keep hs⟩ .nil)⟩, g1, g2.some⟩
  · cases h
end Go.Proofs.YteenjodhmppgjaaGreatDoor.Am
end
section
/- Normal levels, by the program and by the reference. -/
namespace Go.Proofs.YteenjodhmppgjaaGreatDoor.Am
open Go
variable (ext : Ext)
set_option maxHeartbeats 8000000
noncomputable def B222 : Code := (Tryz.f222.body.getD .skip)
noncomputable def L222a : Code := sub B222 [1, 1, 0, 1, 0, 0]
noncomputable def K222a : List It := [.inBlock 0, .code (sub B222 [1, 1, 1])]
noncomputable def H222a (ext : Ext) (m : Nat) (env : Env) (loc : List O) : Option Out := run Tryz.prog ext (.k ⟨26, m, [.tmp 4], false⟩ (.code L222a :: .inLoop L222a :: K222a) env loc)
theorem callOut_bvi (bor : List Nat) (slot : Nat) (cs : List C) (x : D) (b : Bool) (h : cs.all dataC = true) (hb : ([V.agg cs, V.c (.d x)].all scalarV) = b) : callOut [] bor slot (some (.ret [.agg cs, .c (.d x)] [])) = some ⟨.val (.tup [(true, cs), (false, [.d x])]), if b = true then [] else kills bor, bor⟩ := by
  obtain ⟨_, _, h3⟩ := argCs_data (look := fun _ => none) h
  subst hb
  simp only [callOut, answer, mapO, renV, h3, renC, results1, comp, List.length_nil, Nat.lt_irrefl, if_false, number, List.zipIdx_nil, List.map_nil, List.nil_append, List.isEmpty_nil, Bool.and_true]
def normP (x : Lev) : Lev × Int := if x.valid then canonP x.c (sortL x.vs) false else (zLev, 4)
def normR (x : Lev) : Lev × Int := if x.valid then fitsR (canonR x.c x.vs) else (zLev, 4)
theorem levC_all (x : Lev) : (levC x).all dataC = true := by simp [levC, dataC]
theorem norm221 (hx : ext 221 = none) (hs : Sorts ext) (x : Lev) (h120 : run Tryz.prog ext (.call 120 [levV x] []) = some (.ret [bV x.valid] []))
    (h125 : x.valid = true → run Tryz.prog ext (.call 125 [iV x.c, dV (.s 2 ((sortL x.vs).map lvD))] []) = some (.ret [levV (canonP x.c (sortL x.vs) false).1, iV (canonP x.c (sortL x.vs) false).2] [])) :
    run Tryz.prog ext (.call 221 [levV x] []) = some (.ret [levV (normP x).1, iV (normP x).2] []) := by
  unfold normP
  cases hv : x.valid with
  | false =>
    rw [hv] at h120
    rw [if_neg (by simp)]
    (rw [run_eq]; simp only [stepA, hx, Tryz.func221, Tryz.f221, show retF 221 = false from rfl]; simp only [List.length_cons, List.length_nil, Nat.reduceAdd, Nat.reduceLeDiff, Nat.zero_le, ↓reduceIte, List.zipIdx_cons, List.zipIdx_nil, List.map_cons, List.map_nil])
    simp only [levV, bV, iV, levC_z, levC] at h120 ⊢
    simp only [zS, zD, convertA, makeFuncA, Nat.reduceAdd, Nat.reduceSub, Nat.reduceMul, Nat.reduceLT, Nat.reduceLeDiff, Nat.reduceGT, ↓reduceIte, Nat.reduceEqDiff, Nat.reduceBEq, reduceCtorEq, Int.reduceBEq, Int.reduceBNe, Int.reduceLT, Int.reduceLE, Int.reduceGT, Int.reduceGE, zT36, zT34, zT3, h120]
    (refine Eq.trans ?_ rfl; kernel_rfl)
  | true =>
    rw [hv] at h120
    rw [if_pos rfl]
    have h125 := h125 hv
    have hl : x.vs.length ≤ 8 := by
      have := hv
      unfold Lev.valid at this
      simp only [Bool.and_eq_true, decide_eq_true_eq] at this
      exact this.1.2
    have hr := hs x.z x.vs hl
    generalize hq : canonP x.c (sortL x.vs) false = q at h125 ⊢
    cases hx2 : x.vs with
    | nil =>
      rw [hx2] at hr h125
      have e0 : (sortL ([] : List LV)).map lvD = [] := rfl
      rw [e0] at h125
      (rw [run_eq]; simp only [stepA, hx, Tryz.func221, Tryz.f221, show retF 221 = false from rfl]; simp only [List.length_cons, List.length_nil, Nat.reduceAdd, Nat.reduceLeDiff, Nat.zero_le, ↓reduceIte, List.zipIdx_cons, List.zipIdx_nil, List.map_cons, List.map_nil])
      simp only [levV, dV, iV, bV, levC_z, levC, Lev.d, sortOut, hx2, List.map_nil] at h120 hr h125 ⊢
      simp only [zS, zD, convertA, makeFuncA, Nat.reduceAdd, Nat.reduceSub, Nat.reduceMul, Nat.reduceLT, Nat.reduceLeDiff, Nat.reduceGT, ↓reduceIte, Nat.reduceEqDiff, Nat.reduceBEq, reduceCtorEq, Int.reduceBEq, Int.reduceBNe, Int.reduceLT, Int.reduceLE, Int.reduceGT, Int.reduceGE, zT36, zT34, zT144, zT110, zT3, drawA, holes_succ, holes_zero, Array.size, List.length, h120, hr, h125, callOut_cs]
      rw [afterDraw_some _ _ _ _ (by kernel_rfl)]
      simp only [zS, zD, convertA, makeFuncA, Nat.reduceAdd, Nat.reduceSub, Nat.reduceMul, Nat.reduceLT, Nat.reduceLeDiff, Nat.reduceGT, ↓reduceIte, Nat.reduceEqDiff, Nat.reduceBEq, reduceCtorEq, Int.reduceBEq, Int.reduceBNe, Int.reduceLT, Int.reduceLE, Int.reduceGT, Int.reduceGE]
      (refine Eq.trans ?_ rfl; kernel_rfl)
    | cons a r =>
      rw [hx2] at hr h125
      cases hsc : ([V.agg (levC q.1), V.c (.d (.v (.int .i64 q.2)))].all scalarV)
      all_goals
        (rw [run_eq]; simp only [stepA, hx, Tryz.func221, Tryz.f221, show retF 221 = false from rfl]; simp only [List.length_cons, List.length_nil, Nat.reduceAdd, Nat.reduceLeDiff, Nat.zero_le, ↓reduceIte, List.zipIdx_cons, List.zipIdx_nil, List.map_cons, List.map_nil])
        have hc := callOut_bvi [6] 7 (levC q.1) (.v (.int .i64 q.2)) _ (levC_all q.1) hsc
        simp only [levV, dV, iV, bV, levC_z, levC, Lev.d, sortOut, hx2, List.map_cons] at h120 hr h125 hc ⊢
        simp only [zS, zD, convertA, makeFuncA, Nat.reduceAdd, Nat.reduceSub, Nat.reduceMul, Nat.reduceLT, Nat.reduceLeDiff, Nat.reduceGT, ↓reduceIte, Nat.reduceEqDiff, Nat.reduceBEq, reduceCtorEq, Int.reduceBEq, Int.reduceBNe, Int.reduceLT, Int.reduceLE, Int.reduceGT, Int.reduceGE, zT36, zT34, zT144, zT110, zT3, drawA, holes_succ, holes_zero, Array.size, List.length, h120, hr, callOut_own, callA_o1, coK_arr, (id rfl : ownF 125 = false), h125, hc, kills]
        rw [afterDraw_some _ _ _ _ (by kernel_rfl)]
        simp only [zS, zD, convertA, makeFuncA, Nat.reduceAdd, Nat.reduceSub, Nat.reduceMul, Nat.reduceLT, Nat.reduceLeDiff, Nat.reduceGT, ↓reduceIte, Nat.reduceEqDiff, Nat.reduceBEq, reduceCtorEq, Int.reduceBEq, Int.reduceBNe, Int.reduceLT, Int.reduceLE, Int.reduceGT, Int.reduceGE]
        (refine Eq.trans ?_ rfl; kernel_rfl)
theorem norm230 (hx : ext 230 = none) (x : Lev) (h126 : run Tryz.prog ext (.call 126 [levV x] []) = some (.ret [bV x.valid] []))
    (h129 : run Tryz.prog ext (.call 129 [iV x.c, dV x.d] []) = some (.ret [levV (canonR x.c x.vs)] []))
    (h128 : run Tryz.prog ext (.call 128 [levV (canonR x.c x.vs)] []) = some (.ret [levV (fitsR (canonR x.c x.vs)).1, iV (fitsR (canonR x.c x.vs)).2] [])) :
    run Tryz.prog ext (.call 230 [levV x] []) = some (.ret [levV (normR x).1, iV (normR x).2] []) := by
  unfold normR
  generalize canonR x.c x.vs = r at h129 h128 ⊢
  generalize fitsR r = q at h128 ⊢
  cases hv : x.valid with
  | false =>
    rw [hv] at h126
    rw [if_neg (by simp)]
    (rw [run_eq]; simp only [stepA, hx, Tryz.func230, Tryz.f230, show retF 230 = false from rfl]; simp only [List.length_cons, List.length_nil, Nat.reduceAdd, Nat.reduceLeDiff, Nat.zero_le, ↓reduceIte, List.zipIdx_cons, List.zipIdx_nil, List.map_cons, List.map_nil])
    simp only [levV, bV, iV, levC_z, levC] at h126 ⊢
    simp only [zS, zD, convertA, makeFuncA, Nat.reduceAdd, Nat.reduceSub, Nat.reduceMul, Nat.reduceLT, Nat.reduceLeDiff, Nat.reduceGT, ↓reduceIte, Nat.reduceEqDiff, Nat.reduceBEq, reduceCtorEq, Int.reduceBEq, Int.reduceBNe, Int.reduceLT, Int.reduceLE, Int.reduceGT, Int.reduceGE, zT36, zT34, zT3, h126]
    (refine Eq.trans ?_ rfl; kernel_rfl)
  | true =>
    rw [hv] at h126
    rw [if_pos rfl]
    have hc := callOut_one (slot := 2) (v := levV r) rfl
    (rw [run_eq]; simp only [stepA, hx, Tryz.func230, Tryz.f230, show retF 230 = false from rfl]; simp only [List.length_cons, List.length_nil, Nat.reduceAdd, Nat.reduceLeDiff, Nat.zero_le, ↓reduceIte, List.zipIdx_cons, List.zipIdx_nil, List.map_cons, List.map_nil])
    simp only [levV, dV, iV, bV, levC_z, levC] at h126 h129 h128 ⊢
    simp only [zS, zD, convertA, makeFuncA, Nat.reduceAdd, Nat.reduceSub, Nat.reduceMul, Nat.reduceLT, Nat.reduceLeDiff, Nat.reduceGT, ↓reduceIte, Nat.reduceEqDiff, Nat.reduceBEq, reduceCtorEq, Int.reduceBEq, Int.reduceBNe, Int.reduceLT, Int.reduceLE, Int.reduceGT, Int.reduceGE, zT36, zT34, zT144, zT110, zT3, h126, h129, h128, callOut_cs]
    (refine Eq.trans ?_ rfl; kernel_rfl)
/-! ### equality of two lists of variables -/
def E222 (z z' : Bool) (l m : List LV) (k : Int) : Env := [(0, dV (listD z 2 (l.map lvD))), (1, dV (listD z' 2 (m.map lvD))), (12, iV l.length), (13, iV k)]
theorem eqs222 (hx : ext 222 = none) (z z' : Bool) (l m : List LV) (hs : l.length < 2 ^ 50) : run Tryz.prog ext (.call 222 [dV (listD z 2 (l.map lvD)), dV (listD z' 2 (m.map lvD))] []) = some (.ret [bV (allR eqLV l m)] []) := by
  by_cases h2 : (l.length : Int) = m.length
  case neg =>
    have e : allR eqLV l m = false := by
      cases hh : allR eqLV l m with
      | false => rfl
      | true => have := allR_len hh; omega
    rw [e]
    (rw [run_eq]; simp only [stepA, hx, Tryz.func222, Tryz.f222, show retF 222 = false from rfl]; simp only [List.length_cons, List.length_nil, Nat.reduceAdd, Nat.reduceLeDiff, Nat.zero_le, ↓reduceIte, List.zipIdx_cons, List.zipIdx_nil, List.map_cons, List.map_nil])
    simp only [dV, bV]
    simp only [zS, zD, convertA, makeFuncA, Nat.reduceAdd, Nat.reduceSub, Nat.reduceMul, Nat.reduceLT, Nat.reduceLeDiff, Nat.reduceGT, ↓reduceIte, Nat.reduceEqDiff, Nat.reduceBEq, reduceCtorEq, Int.reduceBEq, Int.reduceBNe, Int.reduceLT, Int.reduceLE, Int.reduceGT, Int.reduceGE, zT34, zT3, h2]
    (refine Eq.trans ?_ rfl; kernel_rfl)
  have he : ∀ out, H222a ext 0 (E222 z z' l m 0) [] = out → run Tryz.prog ext (.call 222 [dV (listD z 2 (l.map lvD)), dV (listD z' 2 (m.map lvD))] []) = out := by
    intro out h
    unfold H222a at h
    (rw [run_eq]; simp only [stepA, hx, Tryz.func222, Tryz.f222, show retF 222 = false from rfl]; simp only [List.length_cons, List.length_nil, Nat.reduceAdd, Nat.reduceLeDiff, Nat.zero_le, ↓reduceIte, List.zipIdx_cons, List.zipIdx_nil, List.map_cons, List.map_nil])
    simp only [dV, iV, E222, h2] at h ⊢
    simp only [zS, zD, convertA, makeFuncA, Nat.reduceAdd, Nat.reduceSub, Nat.reduceMul, Nat.reduceLT, Nat.reduceLeDiff, Nat.reduceGT, ↓reduceIte, Nat.reduceEqDiff, Nat.reduceBEq, reduceCtorEq, Int.reduceBEq, Int.reduceBNe, Int.reduceLT, Int.reduceLE, Int.reduceGT, Int.reduceGE, zT34, zT3, h2]
    (refine (r_inLoop_some ?_).trans h; kernel_rfl)
  refine he _ ?_
  have := loop_findK l (fun k => H222a ext 0 (E222 z z' l m k) []) (pairP eqLV m) (fun _ => some (.ret [bV false] [])) (some (.ret [bV true] [])) (by omega) (fun k a hk hl => by
      have h0 : (0 : Int) ≤ k := by omega
      have hl2 : (k : Int) < m.length := by omega
      have hlt : k < m.length := by omega
      have hb : m[k]? = some m[k] := by simp [hlt]
      generalize m[k] = b at hb
      have hd : listD z 2 (l.map lvD) = .s 2 (l.map lvD) := listD_of_lt h0 (by simpa using hl)
      have hd2 : listD z' 2 (m.map lvD) = .s 2 (m.map lvD) := listD_of_lt h0 (by simpa using hl2)
      have hpp : pairP eqLV m k a = !eqLV a b := by unfold pairP; rw [hb]
      unfold H222a
      rw [hpp]
      refine ⟨fun hp => ?_, fun hp out h => ?_⟩
      · have hp' : eqLV a b = false := by simpa using hp
        unfold eqLV at hp'
        simp only [dV, iV, bV, E222, hd, hd2]
        (rw [show (It.code L222a) = It.code (sub B222 [1, 1, 0, 1, 0, 0]) from rfl]; simp only [B222, K222a, sub, Option.getD_some, Tryz.f222, ↓reduceIte, Nat.one_ne_zero])
        simp only [zS, zD, convertA, makeFuncA, Nat.reduceAdd, Nat.reduceSub, Nat.reduceMul, Nat.reduceLT, Nat.reduceLeDiff, Nat.reduceGT, ↓reduceIte, Nat.reduceEqDiff, Nat.reduceBEq, reduceCtorEq, Int.reduceBEq, Int.reduceBNe, Int.reduceLT, Int.reduceLE, Int.reduceGT, Int.reduceGE, zT34, zT110, zT3, drawA, holes_succ, holes_zero, Array.size, List.length, h0, hl, hl2, Int.toNat_natCast, hk, hb, lvD, struct110, hp']
        rw [afterDraw_some _ _ _ _ (by kernel_rfl)]
        simp only [zS, zD, convertA, makeFuncA, Nat.reduceAdd, Nat.reduceSub, Nat.reduceMul, Nat.reduceLT, Nat.reduceLeDiff, Nat.reduceGT, ↓reduceIte, Nat.reduceEqDiff, Nat.reduceBEq, reduceCtorEq, Int.reduceBEq, Int.reduceBNe, Int.reduceLT, Int.reduceLE, Int.reduceGT, Int.reduceGE]
        (refine Eq.trans ?_ rfl; kernel_rfl)
      · have hp' : eqLV a b = true := by simpa using hp
        unfold eqLV at hp'
        simp only [dV, iV, bV, E222, hd, hd2] at h ⊢
        (rw [show (It.code L222a) = It.code (sub B222 [1, 1, 0, 1, 0, 0]) from rfl]; simp only [B222, K222a, sub, Option.getD_some, Tryz.f222, ↓reduceIte, Nat.one_ne_zero])
        simp only [zS, zD, convertA, makeFuncA, Nat.reduceAdd, Nat.reduceSub, Nat.reduceMul, Nat.reduceLT, Nat.reduceLeDiff, Nat.reduceGT, ↓reduceIte, Nat.reduceEqDiff, Nat.reduceBEq, reduceCtorEq, Int.reduceBEq, Int.reduceBNe, Int.reduceLT, Int.reduceLE, Int.reduceGT, Int.reduceGE, zT34, zT110, zT3, drawA, holes_succ, holes_zero, Array.size, List.length, h0, hl, hl2, Int.toNat_natCast, hk, hb, lvD, struct110, hp']
        rw [afterDraw_some _ _ _ _ (by kernel_rfl)]
        simp only [zS, zD, convertA, makeFuncA, Nat.reduceAdd, Nat.reduceSub, Nat.reduceMul, Nat.reduceLT, Nat.reduceLeDiff, Nat.reduceGT, ↓reduceIte, Nat.reduceEqDiff, Nat.reduceBEq, reduceCtorEq, Int.reduceBEq, Int.reduceBNe, Int.reduceLT, Int.reduceLE, Int.reduceGT, Int.reduceGE]
        (refine (r_inLoop_some ?_).trans h; kernel_rfl)) (by
      unfold H222a
      simp only [dV, iV, bV, E222]
      (rw [show (It.code L222a) = It.code (sub B222 [1, 1, 0, 1, 0, 0]) from rfl]; simp only [B222, K222a, sub, Option.getD_some, Tryz.f222, ↓reduceIte, Nat.one_ne_zero])
      simp only [zS, zD, convertA, makeFuncA, Nat.reduceAdd, Nat.reduceSub, Nat.reduceMul, Nat.reduceLT, Nat.reduceLeDiff, Nat.reduceGT, ↓reduceIte, Nat.reduceEqDiff, Nat.reduceBEq, reduceCtorEq, Int.reduceBEq, Int.reduceBNe, Int.reduceLT, Int.reduceLE, Int.reduceGT, Int.reduceGE, zT34, zT3, Int.lt_irrefl]
      (refine Eq.trans ?_ rfl; kernel_rfl))
  rw [this]
  exact pairs_res eqLV l m (by omega)
end Go.Proofs.YteenjodhmppgjaaGreatDoor.Am
end
section
/- Normal levels: both say the same. -/
namespace Go.Proofs.YteenjodhmppgjaaGreatDoor.Am
open Go
variable (ext : Ext)
set_option maxHeartbeats 8000000
theorem norm_same (x : Lev) : (normP x).2 = (normR x).2 ∧ ((normP x).2 = 0 → (normP x).1.c = (normR x).1.c ∧ (normP x).1.vs = (normR x).1.vs) := by
  unfold normP normR
  cases hv : x.valid with
  | false => exact ⟨rfl, fun h => by cases h⟩
  | true =>
    rw [if_pos rfl, if_pos rfl]
    obtain ⟨c0, c1⟩ := valid_c hv
    have hok := valid_ok hv
    have hne := valid_ne hv
    have hl : x.vs.length ≤ 8 := by
      have := hv
      unfold Lev.valid at this
      simp only [Bool.and_eq_true, decide_eq_true_eq] at this
      exact this.1.2
    have hnn : NN x.vs := fun y hy => (hok y hy).2.1
    have hnns : NN (sortL x.vs) := fun y hy => hnn y ((sortL_mem x.vs y).1 hy)
    obtain ⟨p1, p2, p3⟩ := put_all x.vs [] List.Pairwise.nil (fun y hy => by cases hy) hnn
    have hvs : x.vs.foldl putL [] = sortL x.vs := by
      refine uniq p1 (sortL_srt hne) p2 hnns fun v => ?_
      rw [p3 v, lkp_congr (v := v) (l := sortL x.vs) (m := x.vs) (fun y => sortL_mem x.vs y)]
      have : lkp v [] = -1 := rfl
      rw [this]
      have := lkp_ge v x.vs
      omega
    have hp : ∀ y ∈ sortL x.vs, y.p ≤ 1000 := fun y hy => (hok y ((sortL_mem x.vs y).1 hy)).2.2
    have hm : ¬ mostI (sortL x.vs) > 1000 := by
      intro h
      have : (1001 : Int) ≤ mostI (sortL x.vs) := by omega
      rcases (le_mostI 1001 _).1 this with h | ⟨y, hy, h⟩
      · omega
      · have := hp y hy; omega
    have hlen : ¬ ((sortL x.vs).length : Int) > 8 := by rw [sortL_len]; omega
    have hc : ∀ m : Int, ¬ (if x.c ≤ m then 0 else x.c) > 1000 := by intro m; split <;> omega
    unfold canonP canonR
    rw [if_neg (by rintro (h | h | h); exact hc _ h; exact hm h; exact hlen h)]
    simp only [hvs, cut_all (sortL x.vs) x.c hnns c0]
    unfold fitsR
    rw [if_neg]
    · exact ⟨rfl, fun _ => ⟨rfl, rfl⟩⟩
    · rintro (h | h | h)
      · exact hlen h
      · exact hc _ h
      · obtain ⟨y, hy, h⟩ := List.any_eq_true.1 h
        have := hp y hy
        simp only [decide_eq_true_eq] at h
        omega
/-- A level that is normal already. -/
def canonL (x : Lev) : Bool := decide ((normP x).2 = 0) && (decide ((normP x).1.c = x.c) && allR eqLV (normP x).1.vs x.vs)
theorem ib_comm (a b : Int) : (a == b) = (b == a) := by rw [Bool.eq_iff_iff, beq_iff_eq, beq_iff_eq]; exact eq_comm
theorem eqLV_comm (a b : LV) : eqLV a b = eqLV b a := by unfold eqLV; rw [ib_comm a.v, ib_comm a.p]
theorem allR_comm {α : Type} {R : α → α → Bool} (h : ∀ a b, R a b = R b a) : ∀ (l m : List α), allR R l m = allR R m l
  | [], [] => rfl
  | [], _ :: _ => rfl
  | _ :: _, [] => rfl
  | a :: l, b :: m => by simp only [allR, h a b, allR_comm h l m]
theorem canonL_ref (x : Lev) : canonL x = (decide ((normR x).2 = 0) && eqLev x (normR x).1) := by
  obtain ⟨h1, h2⟩ := norm_same x
  unfold canonL eqLev
  rw [← h1]
  by_cases h : (normP x).2 = 0
  · obtain ⟨a, b⟩ := h2 h
    rw [← a, ← b, allR_comm eqLV_comm x.vs]
    have : (x.c == (normP x).1.c) = decide ((normP x).1.c = x.c) := by rw [Bool.eq_iff_iff, beq_iff_eq, decide_eq_true_eq]; exact eq_comm
    rw [this]
  · simp [h]
theorem canonP_len' (c : Int) (l : List LV) (z : Bool) : (canonP c l z).1.vs.length ≤ 8 := by
  unfold canonP
  by_cases h : (if c ≤ mostI l then 0 else c) > 1000 ∨ mostI l > 1000 ∨ (l.length : Int) > 8
  · rw [if_pos h]; simp [zLev]
  · rw [if_neg h]
    have : ¬ (l.length : Int) > 8 := fun e => h (.inr (.inr e))
    show l.length ≤ 8
    omega
theorem normP_len (x : Lev) : (normP x).1.vs.length ≤ 8 := by
  unfold normP
  split
  · exact canonP_len' _ _ _
  · simp [zLev]
theorem canon173 (hx : ext 173 = none) (x : Lev) (h221 : run Tryz.prog ext (.call 221 [levV x] []) = some (.ret [levV (normP x).1, iV (normP x).2] []))
    (h222 : ∀ (z z' : Bool) (l m : List LV), l.length < 2 ^ 50 → run Tryz.prog ext (.call 222 [dV (listD z 2 (l.map lvD)), dV (listD z' 2 (m.map lvD))] []) = some (.ret [bV (allR eqLV l m)] [])) :
    run Tryz.prog ext (.call 173 [levV x] []) = some (.ret [bV (canonL x)] []) := by
  have hln := normP_len x
  unfold canonL
  generalize normP x = q at h221 hln ⊢
  by_cases h1 : q.2 = 0
  case neg =>
    rw [decide_eq_false h1, Bool.false_and]
    (rw [run_eq]; simp only [stepA, hx, Tryz.func173, Tryz.f173, show retF 173 = false from rfl]; simp only [List.length_cons, List.length_nil, Nat.reduceAdd, Nat.reduceLeDiff, Nat.zero_le, ↓reduceIte, List.zipIdx_cons, List.zipIdx_nil, List.map_cons, List.map_nil])
    simp only [levV, iV, bV, levC] at h221 ⊢
    simp only [zS, zD, convertA, makeFuncA, Nat.reduceAdd, Nat.reduceSub, Nat.reduceMul, Nat.reduceLT, Nat.reduceLeDiff, Nat.reduceGT, ↓reduceIte, Nat.reduceEqDiff, Nat.reduceBEq, reduceCtorEq, Int.reduceBEq, Int.reduceBNe, Int.reduceLT, Int.reduceLE, Int.reduceGT, Int.reduceGE, zT36, zT34, zT27, zT3, h221, callOut_cs, h1]
    (refine Eq.trans ?_ rfl; kernel_rfl)
  rw [decide_eq_true h1, Bool.true_and]
  by_cases h2 : q.1.c = x.c
  case neg =>
    rw [decide_eq_false h2, Bool.false_and]
    rw [h1] at h221
    (rw [run_eq]; simp only [stepA, hx, Tryz.func173, Tryz.f173, show retF 173 = false from rfl]; simp only [List.length_cons, List.length_nil, Nat.reduceAdd, Nat.reduceLeDiff, Nat.zero_le, ↓reduceIte, List.zipIdx_cons, List.zipIdx_nil, List.map_cons, List.map_nil])
    simp only [levV, iV, bV, levC] at h221 ⊢
    simp only [zS, zD, convertA, makeFuncA, Nat.reduceAdd, Nat.reduceSub, Nat.reduceMul, Nat.reduceLT, Nat.reduceLeDiff, Nat.reduceGT, ↓reduceIte, Nat.reduceEqDiff, Nat.reduceBEq, reduceCtorEq, Int.reduceBEq, Int.reduceBNe, Int.reduceLT, Int.reduceLE, Int.reduceGT, Int.reduceGE, zT36, zT34, zT27, zT3, h221, callOut_cs, h2]
    (refine Eq.trans ?_ rfl; kernel_rfl)
  rw [decide_eq_true h2, Bool.true_and]
  rw [h1] at h221
  have h3 := h222 q.1.z x.z q.1.vs x.vs (by omega)
  (rw [run_eq]; simp only [stepA, hx, Tryz.func173, Tryz.f173, show retF 173 = false from rfl]; simp only [List.length_cons, List.length_nil, Nat.reduceAdd, Nat.reduceLeDiff, Nat.zero_le, ↓reduceIte, List.zipIdx_cons, List.zipIdx_nil, List.map_cons, List.map_nil])
  simp only [levV, dV, iV, bV, levC, Lev.d] at h221 h3 ⊢
  simp only [zS, zD, convertA, makeFuncA, Nat.reduceAdd, Nat.reduceSub, Nat.reduceMul, Nat.reduceLT, Nat.reduceLeDiff, Nat.reduceGT, ↓reduceIte, Nat.reduceEqDiff, Nat.reduceBEq, reduceCtorEq, Int.reduceBEq, Int.reduceBNe, Int.reduceLT, Int.reduceLE, Int.reduceGT, Int.reduceGE, zT36, zT34, zT27, zT3, h221, callOut_cs, h2, h3]
  (refine Eq.trans ?_ rfl; kernel_rfl)
theorem canon178 (hx : ext 178 = none) (x : Lev) (h230 : run Tryz.prog ext (.call 230 [levV x] []) = some (.ret [levV (normR x).1, iV (normR x).2] []))
    (h43 : run Tryz.prog ext (.call 43 [levV x, levV (normR x).1] []) = some (.ret [bV (eqLev x (normR x).1)] [])) :
    run Tryz.prog ext (.call 178 [levV x] []) = some (.ret [bV (canonL x)] []) := by
  rw [canonL_ref]
  generalize normR x = q at h230 h43 ⊢
  by_cases h1 : q.2 = 0
  case neg =>
    rw [decide_eq_false h1, Bool.false_and]
    (rw [run_eq]; simp only [stepA, hx, Tryz.func178, Tryz.f178, show retF 178 = false from rfl]; simp only [List.length_cons, List.length_nil, Nat.reduceAdd, Nat.reduceLeDiff, Nat.zero_le, ↓reduceIte, List.zipIdx_cons, List.zipIdx_nil, List.map_cons, List.map_nil])
    simp only [levV, iV, bV, levC] at h230 ⊢
    simp only [zS, zD, convertA, makeFuncA, Nat.reduceAdd, Nat.reduceSub, Nat.reduceMul, Nat.reduceLT, Nat.reduceLeDiff, Nat.reduceGT, ↓reduceIte, Nat.reduceEqDiff, Nat.reduceBEq, reduceCtorEq, Int.reduceBEq, Int.reduceBNe, Int.reduceLT, Int.reduceLE, Int.reduceGT, Int.reduceGE, zT36, zT34, zT27, zT3, h230, callOut_cs, h1]
    (refine Eq.trans ?_ rfl; kernel_rfl)
  rw [decide_eq_true h1, Bool.true_and]
  rw [h1] at h230
  (rw [run_eq]; simp only [stepA, hx, Tryz.func178, Tryz.f178, show retF 178 = false from rfl]; simp only [List.length_cons, List.length_nil, Nat.reduceAdd, Nat.reduceLeDiff, Nat.zero_le, ↓reduceIte, List.zipIdx_cons, List.zipIdx_nil, List.map_cons, List.map_nil])
  simp only [levV, iV, bV, levC] at h230 h43 ⊢
  simp only [zS, zD, convertA, makeFuncA, Nat.reduceAdd, Nat.reduceSub, Nat.reduceMul, Nat.reduceLT, Nat.reduceLeDiff, Nat.reduceGT, ↓reduceIte, Nat.reduceEqDiff, Nat.reduceBEq, reduceCtorEq, Int.reduceBEq, Int.reduceBNe, Int.reduceLT, Int.reduceLE, Int.reduceGT, Int.reduceGE, zT36, zT34, zT27, zT3, h230, callOut_cs, h43]
  (refine Eq.trans ?_ rfl; kernel_rfl)
end Go.Proofs.YteenjodhmppgjaaGreatDoor.Am
end
section
/- The families: Param, Over, Sort, by the program and by the reference. -/
namespace Go.Proofs.YteenjodhmppgjaaGreatDoor.Am
open Go
variable (ext : Ext)
set_option maxHeartbeats 8000000
def family (x : Tb) (s : ByteArray) : Dc × Bool := match x.ds.find? (isNm s) with
  | none => (zDc, false)
  | some d => if d.kind = 4 then (d, true) else (zDc, false)
theorem fam71 (hx : ext 71 = none) (h22 : ext 22 = none) (h69 : ext 69 = none) (h70 : ext 70 = none) (x : Tb) (s : ByteArray) (hs : x.ds.length < 2 ^ 50) : run Tryz.prog ext (.call 71 [tbV x, sV s] []) = some (.ret [dcV (family x s).1, bV (family x s).2] []) := by
  have hr := find22 ext h22 h69 h70 x s hs
  unfold family
  cases hf : x.ds.find? (isNm s) with
  | none =>
    rw [find_none hf] at hr
    (rw [run_eq]; simp only [stepA, hx, Tryz.func71, Tryz.f71, show retF 71 = false from rfl]; simp only [List.length_cons, List.length_nil, Nat.reduceAdd, Nat.reduceLeDiff, Nat.zero_le, ↓reduceIte, List.zipIdx_cons, List.zipIdx_nil, List.map_cons, List.map_nil])
    simp only [dcV, tbV, tbC, sV, iV, bV] at hr ⊢
    simp only [zS, zD, convertA, makeFuncA, Nat.reduceAdd, Nat.reduceSub, Nat.reduceMul, Nat.reduceLT, Nat.reduceLeDiff, Nat.reduceGT, ↓reduceIte, Nat.reduceEqDiff, Nat.reduceBEq, reduceCtorEq, Int.reduceBEq, Int.reduceBNe, Int.reduceLT, Int.reduceLE, Int.reduceGT, Int.reduceGE, zT24, zT39, zT22, zT9, zT3, hr]
    (refine Eq.trans ?_ rfl; kernel_rfl)
  | some d =>
    obtain ⟨k, e1, hk, hl⟩ := find_some' hf
    have h0 : (0 : Int) ≤ k := by omega
    have h0' : ¬ ((k : Int) < 0) := by omega
    rw [e1] at hr
    dsimp only
    by_cases c1 : d.kind = 4
    · rw [if_pos c1]
      (rw [run_eq]; simp only [stepA, hx, Tryz.func71, Tryz.f71, show retF 71 = false from rfl]; simp only [List.length_cons, List.length_nil, Nat.reduceAdd, Nat.reduceLeDiff, Nat.zero_le, ↓reduceIte, List.zipIdx_cons, List.zipIdx_nil, List.map_cons, List.map_nil])
      simp only [dcV, dcC, tbV, tbC, sV, iV, bV, dsD_lt h0 hl] at hr ⊢
      simp only [zS, zD, convertA, makeFuncA, Nat.reduceAdd, Nat.reduceSub, Nat.reduceMul, Nat.reduceLT, Nat.reduceLeDiff, Nat.reduceGT, ↓reduceIte, Nat.reduceEqDiff, Nat.reduceBEq, reduceCtorEq, Int.reduceBEq, Int.reduceBNe, Int.reduceLT, Int.reduceLE, Int.reduceGT, Int.reduceGE, zT24, zT39, zT22, zT9, zT3, hr, h0, h0', hl, Int.toNat_natCast, hk, dcD_eq d, c1]
      (refine Eq.trans ?_ rfl; kernel_rfl)
    · rw [if_neg c1]
      (rw [run_eq]; simp only [stepA, hx, Tryz.func71, Tryz.f71, show retF 71 = false from rfl]; simp only [List.length_cons, List.length_nil, Nat.reduceAdd, Nat.reduceLeDiff, Nat.zero_le, ↓reduceIte, List.zipIdx_cons, List.zipIdx_nil, List.map_cons, List.map_nil])
      simp only [dcV, tbV, tbC, sV, iV, bV, dsD_lt h0 hl] at hr ⊢
      simp only [zS, zD, convertA, makeFuncA, Nat.reduceAdd, Nat.reduceSub, Nat.reduceMul, Nat.reduceLT, Nat.reduceLeDiff, Nat.reduceGT, ↓reduceIte, Nat.reduceEqDiff, Nat.reduceBEq, reduceCtorEq, Int.reduceBEq, Int.reduceBNe, Int.reduceLT, Int.reduceLE, Int.reduceGT, Int.reduceGE, zT24, zT39, zT22, zT9, zT3, hr, h0, h0', hl, Int.toNat_natCast, hk, dcD_eq d, c1]
      (refine Eq.trans ?_ rfl; kernel_rfl)
theorem fam73 (hx : ext 73 = none) (h37 : ext 37 = none) (x : Tb) (s : ByteArray) (hs : x.ds.length < 2 ^ 50) : run Tryz.prog ext (.call 73 [tbV x, sV s] []) = some (.ret [dcV (family x s).1, bV (family x s).2] []) := by
  have hr := find37 ext h37 x s hs
  unfold family
  cases hf : x.ds.find? (isNm s) with
  | none =>
    rw [find_none hf] at hr
    (rw [run_eq]; simp only [stepA, hx, Tryz.func73, Tryz.f73, show retF 73 = false from rfl]; simp only [List.length_cons, List.length_nil, Nat.reduceAdd, Nat.reduceLeDiff, Nat.zero_le, ↓reduceIte, List.zipIdx_cons, List.zipIdx_nil, List.map_cons, List.map_nil])
    simp only [dcV, tbV, tbC, sV, iV, bV] at hr ⊢
    simp only [zS, zD, convertA, makeFuncA, Nat.reduceAdd, Nat.reduceSub, Nat.reduceMul, Nat.reduceLT, Nat.reduceLeDiff, Nat.reduceGT, ↓reduceIte, Nat.reduceEqDiff, Nat.reduceBEq, reduceCtorEq, Int.reduceBEq, Int.reduceBNe, Int.reduceLT, Int.reduceLE, Int.reduceGT, Int.reduceGE, zT24, zT39, zT22, zT9, zT3, hr]
    (refine Eq.trans ?_ rfl; kernel_rfl)
  | some d =>
    obtain ⟨k, e1, hk, hl⟩ := find_some' hf
    have h0 : (0 : Int) ≤ k := by omega
    have h0' : ¬ ((k : Int) < 0) := by omega
    rw [e1] at hr
    dsimp only
    by_cases c1 : d.kind = 4
    · rw [if_pos c1]
      (rw [run_eq]; simp only [stepA, hx, Tryz.func73, Tryz.f73, show retF 73 = false from rfl]; simp only [List.length_cons, List.length_nil, Nat.reduceAdd, Nat.reduceLeDiff, Nat.zero_le, ↓reduceIte, List.zipIdx_cons, List.zipIdx_nil, List.map_cons, List.map_nil])
      simp only [dcV, dcC, tbV, tbC, sV, iV, bV, dsD_lt h0 hl] at hr ⊢
      simp only [zS, zD, convertA, makeFuncA, Nat.reduceAdd, Nat.reduceSub, Nat.reduceMul, Nat.reduceLT, Nat.reduceLeDiff, Nat.reduceGT, ↓reduceIte, Nat.reduceEqDiff, Nat.reduceBEq, reduceCtorEq, Int.reduceBEq, Int.reduceBNe, Int.reduceLT, Int.reduceLE, Int.reduceGT, Int.reduceGE, zT24, zT39, zT22, zT9, zT3, hr, h0, h0', hl, Int.toNat_natCast, hk, dcD_eq d, c1]
      (refine Eq.trans ?_ rfl; kernel_rfl)
    · rw [if_neg c1]
      (rw [run_eq]; simp only [stepA, hx, Tryz.func73, Tryz.f73, show retF 73 = false from rfl]; simp only [List.length_cons, List.length_nil, Nat.reduceAdd, Nat.reduceLeDiff, Nat.zero_le, ↓reduceIte, List.zipIdx_cons, List.zipIdx_nil, List.map_cons, List.map_nil])
      simp only [dcV, tbV, tbC, sV, iV, bV, dsD_lt h0 hl] at hr ⊢
      simp only [zS, zD, convertA, makeFuncA, Nat.reduceAdd, Nat.reduceSub, Nat.reduceMul, Nat.reduceLT, Nat.reduceLeDiff, Nat.reduceGT, ↓reduceIte, Nat.reduceEqDiff, Nat.reduceBEq, reduceCtorEq, Int.reduceBEq, Int.reduceBNe, Int.reduceLT, Int.reduceLE, Int.reduceGT, Int.reduceGE, zT24, zT39, zT22, zT9, zT3, hr, h0, h0', hl, Int.toNat_natCast, hk, dcD_eq d, c1]
      (refine Eq.trans ?_ rfl; kernel_rfl)
end Go.Proofs.YteenjodhmppgjaaGreatDoor.Am
end
section
/- Lists of numbers and of strings: equality, the place of one, appends, the assumptions. -/
namespace Go.Proofs.YteenjodhmppgjaaGreatDoor.Am
open Go
variable (ext : Ext)
set_option maxHeartbeats 8000000
set_option maxRecDepth 4000
noncomputable def B27 : Code := (Tryz.f27.body.getD .skip)
noncomputable def L27a : Code := sub B27 [1, 1, 0, 1, 0, 0]
noncomputable def K27a : List It := [.inBlock 0, .code (sub B27 [1, 1, 1])]
noncomputable def H27a (ext : Ext) (m : Nat) (env : Env) (loc : List O) : Option Out := run Tryz.prog ext (.k ⟨26, m, [.tmp 4], false⟩ (.code L27a :: .inLoop L27a :: K27a) env loc)
def inD (n : Int) : List D := [.v (.int .i64 n)]
theorem inD_eq (n : Int) : inD n = [.v (.int .i64 n)] := rfl
theorem z43 : (zeroT Tryz.prog 3).map List.length = some 1 := by rw [zeroT_3]; rfl
theorem i43 : (zeroT Tryz.prog 3).isSome = true := by rw [zeroT_3]; rfl
theorem bsIn {look : Look} {slot : Nat} {a : Int} : buildSliceA Tryz.prog look slot 43 1 [(0, .c (.d (.v (.int .i64 a))))] = some ⟨.val (.c (.own slot)), [(slot, .arr 1 [[.v (.int .i64 a)]])], []⟩ :=
  bs_one (cs := [.d (.v (.int .i64 a))]) elemT_43 sizeT_3 i43 rfl rfl rfl (by decide) (by decide)
section
variable (look : Look) (slot id j : Nat)
theorem oo43 : appendA Tryz.prog look slot [43, 43] [.c (.own id), .c (.own j)] = apG 1 8 slot id j (look id) (look j) (apD Tryz.prog look slot 43 (.c (.own id)) (.c (.own j))) := app_oo elemT_43 sizeT_3 bytesT_3 z43 (by decide) id j
theorem no43 : appendA Tryz.prog look slot [43, 43] [.c (.d (.v (.slice none 0 0))), .c (.own j)] = apH 1 8 slot j (look j) (apD Tryz.prog look slot 43 (.c (.d (.v (.slice none 0 0)))) (.c (.own j))) := app_no elemT_43 sizeT_3 bytesT_3 z43 (by decide) j
end
/-! ### equality -/
def eqIn (a b : Int) : Bool := a == b
def E27 (a b : D) (k : Int) : Env := [(0, dV a), (1, dV b), (5, iV k)]
theorem eq27 (hx : ext 27 = none) (z z' : Bool) (l m : List Int) (hs : l.length < 2 ^ 50) : run Tryz.prog ext (.call 27 [dV (listD z 1 (l.map inD)), dV (listD z' 1 (m.map inD))] []) = some (.ret [bV (allR eqIn l m)] []) := by
  by_cases h2 : (l.length : Int) = m.length
  case neg =>
    have e : allR eqIn l m = false := by
      cases hh : allR eqIn l m with
      | false => rfl
      | true => have := allR_len hh; omega
    rw [e]
    (rw [run_eq]; simp only [stepA, hx, Tryz.func27, Tryz.f27, show retF 27 = false from rfl]; simp only [List.length_cons, List.length_nil, Nat.reduceAdd, Nat.reduceLeDiff, Nat.zero_le, ↓reduceIte, List.zipIdx_cons, List.zipIdx_nil, List.map_cons, List.map_nil])
    simp only [dV, bV]
    simp only [zS, zD, convertA, makeFuncA, Nat.reduceAdd, Nat.reduceSub, Nat.reduceMul, Nat.reduceLT, Nat.reduceLeDiff, Nat.reduceGT, ↓reduceIte, Nat.reduceEqDiff, Nat.reduceBEq, reduceCtorEq, Int.reduceBEq, Int.reduceBNe, Int.reduceLT, Int.reduceLE, Int.reduceGT, Int.reduceGE, zT43, zT3, h2]
    (refine Eq.trans ?_ rfl; kernel_rfl)
  have he : ∀ out, H27a ext 0 (E27 (listD z 1 (l.map inD)) (listD z' 1 (m.map inD)) 0) [] = out → run Tryz.prog ext (.call 27 [dV (listD z 1 (l.map inD)), dV (listD z' 1 (m.map inD))] []) = out := by
    intro out h
    unfold H27a at h
    (rw [run_eq]; simp only [stepA, hx, Tryz.func27, Tryz.f27, show retF 27 = false from rfl]; simp only [List.length_cons, List.length_nil, Nat.reduceAdd, Nat.reduceLeDiff, Nat.zero_le, ↓reduceIte, List.zipIdx_cons, List.zipIdx_nil, List.map_cons, List.map_nil])
    simp only [dV, iV, E27] at h ⊢
    simp only [zS, zD, convertA, makeFuncA, Nat.reduceAdd, Nat.reduceSub, Nat.reduceMul, Nat.reduceLT, Nat.reduceLeDiff, Nat.reduceGT, ↓reduceIte, Nat.reduceEqDiff, Nat.reduceBEq, reduceCtorEq, Int.reduceBEq, Int.reduceBNe, Int.reduceLT, Int.reduceLE, Int.reduceGT, Int.reduceGE, zT43, zT3, h2]
    (refine (r_inLoop_some ?_).trans h; kernel_rfl)
  refine he _ ?_
  have := loop_findK l (fun k => H27a ext 0 (E27 (listD z 1 (l.map inD)) (listD z' 1 (m.map inD)) k) []) (pairP eqIn m) (fun _ => some (.ret [bV false] [])) (some (.ret [bV true] [])) (by omega) (fun k a hk hl => by
      have h0 : (0 : Int) ≤ k := by omega
      have hl2 : (k : Int) < m.length := by omega
      have hlt : k < m.length := by omega
      have hb : m[k]? = some m[k] := by simp [hlt]
      generalize m[k] = b at hb
      have hd : listD z 1 (l.map inD) = .s 1 (l.map inD) := listD_of_lt h0 (by simpa using hl)
      have hd2 : listD z' 1 (m.map inD) = .s 1 (m.map inD) := listD_of_lt h0 (by simpa using hl2)
      have hpp : pairP eqIn m k a = !eqIn a b := by unfold pairP; rw [hb]
      unfold H27a
      rw [hpp]
      refine ⟨fun hp => ?_, fun hp out h => ?_⟩
      · have hp' : (a == b) = false := by simpa [eqIn] using hp
        have hp2 : (a != b) = true := by simp [bne, hp']
        simp only [dV, iV, bV, E27, hd, hd2]
        (rw [show (It.code L27a) = It.code (sub B27 [1, 1, 0, 1, 0, 0]) from rfl]; simp only [B27, K27a, sub, Option.getD_some, Tryz.f27, ↓reduceIte, Nat.one_ne_zero])
        simp only [zS, zD, convertA, makeFuncA, Nat.reduceAdd, Nat.reduceSub, Nat.reduceMul, Nat.reduceLT, Nat.reduceLeDiff, Nat.reduceGT, ↓reduceIte, Nat.reduceEqDiff, Nat.reduceBEq, reduceCtorEq, Int.reduceBEq, Int.reduceBNe, Int.reduceLT, Int.reduceLE, Int.reduceGT, Int.reduceGE, zT43, zT3, drawA, holes_succ, holes_zero, Array.size, List.length, h0, hl, hl2, Int.toNat_natCast, hk, hb, inD, hp2]
        rw [afterDraw_some _ _ _ _ (by kernel_rfl)]
        simp only [zS, zD, convertA, makeFuncA, Nat.reduceAdd, Nat.reduceSub, Nat.reduceMul, Nat.reduceLT, Nat.reduceLeDiff, Nat.reduceGT, ↓reduceIte, Nat.reduceEqDiff, Nat.reduceBEq, reduceCtorEq, Int.reduceBEq, Int.reduceBNe, Int.reduceLT, Int.reduceLE, Int.reduceGT, Int.reduceGE]
        (refine Eq.trans ?_ rfl; kernel_rfl)
      · have hp' : (a == b) = true := by simpa [eqIn] using hp
        have hp2 : (a != b) = false := by simp [bne, hp']
        simp only [dV, iV, bV, E27, hd, hd2] at h ⊢
        (rw [show (It.code L27a) = It.code (sub B27 [1, 1, 0, 1, 0, 0]) from rfl]; simp only [B27, K27a, sub, Option.getD_some, Tryz.f27, ↓reduceIte, Nat.one_ne_zero])
        simp only [zS, zD, convertA, makeFuncA, Nat.reduceAdd, Nat.reduceSub, Nat.reduceMul, Nat.reduceLT, Nat.reduceLeDiff, Nat.reduceGT, ↓reduceIte, Nat.reduceEqDiff, Nat.reduceBEq, reduceCtorEq, Int.reduceBEq, Int.reduceBNe, Int.reduceLT, Int.reduceLE, Int.reduceGT, Int.reduceGE, zT43, zT3, drawA, holes_succ, holes_zero, Array.size, List.length, h0, hl, hl2, Int.toNat_natCast, hk, hb, inD, hp2]
        rw [afterDraw_some _ _ _ _ (by kernel_rfl)]
        simp only [zS, zD, convertA, makeFuncA, Nat.reduceAdd, Nat.reduceSub, Nat.reduceMul, Nat.reduceLT, Nat.reduceLeDiff, Nat.reduceGT, ↓reduceIte, Nat.reduceEqDiff, Nat.reduceBEq, reduceCtorEq, Int.reduceBEq, Int.reduceBNe, Int.reduceLT, Int.reduceLE, Int.reduceGT, Int.reduceGE]
        (refine (r_inLoop_some ?_).trans h; kernel_rfl)) (by
      unfold H27a
      simp only [dV, iV, bV, E27]
      (rw [show (It.code L27a) = It.code (sub B27 [1, 1, 0, 1, 0, 0]) from rfl]; simp only [B27, K27a, sub, Option.getD_some, Tryz.f27, ↓reduceIte, Nat.one_ne_zero])
      simp only [zS, zD, convertA, makeFuncA, Nat.reduceAdd, Nat.reduceSub, Nat.reduceMul, Nat.reduceLT, Nat.reduceLeDiff, Nat.reduceGT, ↓reduceIte, Nat.reduceEqDiff, Nat.reduceBEq, reduceCtorEq, Int.reduceBEq, Int.reduceBNe, Int.reduceLT, Int.reduceLE, Int.reduceGT, Int.reduceGE, zT43, zT3, Int.lt_irrefl]
      (refine Eq.trans ?_ rfl; kernel_rfl))
  rw [this]
  exact pairs_res eqIn l m (by omega)
/-! ### the place of a string -/
def ixOf (o : Option Nat) : Int := match o with | some k => k | none => -1
end Go.Proofs.YteenjodhmppgjaaGreatDoor.Am
end
section
/- Does a family occur in a term: by the program and by the reference. -/
namespace Go.Proofs.YteenjodhmppgjaaGreatDoor.Am
open Go
variable (ext : Ext)
set_option maxHeartbeats 8000000
set_option maxRecDepth 4000
noncomputable def B174 : Code := (Tryz.f174.body.getD .skip)
noncomputable def L174a : Code := sub B174 [1, 0, 1, 0, 0]
noncomputable def K174a : List It := [.inBlock 0, .code (sub B174 [1, 1])]
noncomputable def H174a (ext : Ext) (m : Nat) (env : Env) (loc : List O) : Option Out := run Tryz.prog ext (.k ⟨19, m, [.tmp 4], false⟩ (.code L174a :: .inLoop L174a :: K174a) env loc)
theorem any_ix {α : Type} (p : α → Bool) (l : List α) : l.any p = decide (0 ≤ ixOf (l.findIdx? p)) := by
  rw [← List.findIdx?_isSome]
  cases l.findIdx? p with
  | none => simp [ixOf]
  | some k => simp [ixOf]
/-! ### by the reference -/
end Go.Proofs.YteenjodhmppgjaaGreatDoor.Am
end
section
/- All levels of a node are normal. -/
namespace Go.Proofs.YteenjodhmppgjaaGreatDoor.Am
open Go
variable (ext : Ext)
set_option maxHeartbeats 8000000
noncomputable def B233 : Code := (Tryz.f233.body.getD .skip)
noncomputable def L233a : Code := sub B233 [1, 0, 1, 0, 0]
noncomputable def K233a : List It := [.inBlock 0, .code (sub B233 [1, 1])]
noncomputable def H233a (ext : Ext) (m : Nat) (env : Env) (loc : List O) : Option Out := run Tryz.prog ext (.k ⟨19, m, [.tmp 4], false⟩ (.code L233a :: .inLoop L233a :: K233a) env loc)
theorem clo172 (hx : ext 172 = none) (x : Lev) (b : Bool) (hr : run Tryz.prog ext (.call 173 [levV x] []) = some (.ret [bV b] [])) : run Tryz.prog ext (.call 172 [levV x] []) = some (.ret [bV (!b)] []) := by
  (rw [run_eq]; simp only [stepA, hx, Tryz.func172, Tryz.f172, show retF 172 = false from rfl]; simp only [List.length_cons, List.length_nil, Nat.reduceAdd, Nat.reduceLeDiff, Nat.zero_le, ↓reduceIte, List.zipIdx_cons, List.zipIdx_nil, List.map_cons, List.map_nil])
  simp only [levV, levC, bV] at hr ⊢
  simp only [zS, zD, convertA, makeFuncA, Nat.reduceAdd, Nat.reduceSub, Nat.reduceMul, Nat.reduceLT, Nat.reduceLeDiff, Nat.reduceGT, ↓reduceIte, Nat.reduceEqDiff, Nat.reduceBEq, reduceCtorEq, Int.reduceBEq, Int.reduceBNe, Int.reduceLT, Int.reduceLE, Int.reduceGT, Int.reduceGE, zT36, zT3, hr]
  (refine Eq.trans ?_ rfl; kernel_rfl)
def E233 (z : Bool) (l : List Lev) (k : Int) : Env := [(0, dV (listD z 2 (l.map levD))), (1, .c (.fn 172 [] [])), (7, iV l.length), (8, iV k)]
theorem idx233 (hx : ext 233 = none) (z : Bool) (l : List Lev) (hs : l.length < 2 ^ 50) (p : Lev → Bool) (hr : ∀ y ∈ l, run Tryz.prog ext (.call 172 [levV y] []) = some (.ret [bV (p y)] [])) :
    run Tryz.prog ext (.call 233 [dV (listD z 2 (l.map levD)), .c (.fn 172 [] [])] []) = some (.ret [iV (ixOf (l.findIdx? p))] []) := by
  have he : ∀ out, H233a ext 0 (E233 z l 0) [] = out → run Tryz.prog ext (.call 233 [dV (listD z 2 (l.map levD)), .c (.fn 172 [] [])] []) = out := by
    intro out h
    unfold H233a at h
    (rw [run_eq]; simp only [stepA, hx, Tryz.func233, Tryz.f233, show retF 233 = false from rfl]; simp only [List.length_cons, List.length_nil, Nat.reduceAdd, Nat.reduceLeDiff, Nat.zero_le, ↓reduceIte, List.zipIdx_cons, List.zipIdx_nil, List.map_cons, List.map_nil])
    simp only [dV, iV, E233] at h ⊢
    simp only [zS, zD, convertA, makeFuncA, Nat.reduceAdd, Nat.reduceSub, Nat.reduceMul, Nat.reduceLT, Nat.reduceLeDiff, Nat.reduceGT, ↓reduceIte, Nat.reduceEqDiff, Nat.reduceBEq, reduceCtorEq, Int.reduceBEq, Int.reduceBNe, Int.reduceLT, Int.reduceLE, Int.reduceGT, Int.reduceGE, zT30, zT3]
    (refine (r_inLoop_some ?_).trans h; kernel_rfl)
  refine he _ ?_
  have := loop_find l (fun k => H233a ext 0 (E233 z l k) []) p (fun k => some (.ret [iV k] [])) (some (.ret [iV (-1)] [])) (by omega) (fun k y hk hl => by
      have h0 : (0 : Int) ≤ k := by omega
      have hy := hr y (List.mem_of_getElem? hk)
      have hd : listD z 2 (l.map levD) = .s 2 (l.map levD) := listD_of_lt h0 (by simpa using hl)
      unfold H233a
      refine ⟨fun hp => ?_, fun hp out h => ?_⟩
      · rw [hp] at hy
        simp only [dV, iV, bV, levV, levC, E233, hd] at hy ⊢
        (rw [show (It.code L233a) = It.code (sub B233 [1, 0, 1, 0, 0]) from rfl]; simp only [B233, K233a, sub, Option.getD_some, Tryz.f233, ↓reduceIte, Nat.one_ne_zero])
        simp only [zS, zD, convertA, makeFuncA, Nat.reduceAdd, Nat.reduceSub, Nat.reduceMul, Nat.reduceLT, Nat.reduceLeDiff, Nat.reduceGT, ↓reduceIte, Nat.reduceEqDiff, Nat.reduceBEq, reduceCtorEq, Int.reduceBEq, Int.reduceBNe, Int.reduceLT, Int.reduceLE, Int.reduceGT, Int.reduceGE, zT36, zT30, zT3, h0, hl, Int.toNat_natCast, hk, levD_eq y, hy]
        (refine Eq.trans ?_ rfl; kernel_rfl)
      · rw [hp] at hy
        simp only [dV, iV, bV, levV, levC, E233, hd] at hy h ⊢
        (rw [show (It.code L233a) = It.code (sub B233 [1, 0, 1, 0, 0]) from rfl]; simp only [B233, K233a, sub, Option.getD_some, Tryz.f233, ↓reduceIte, Nat.one_ne_zero])
        simp only [zS, zD, convertA, makeFuncA, Nat.reduceAdd, Nat.reduceSub, Nat.reduceMul, Nat.reduceLT, Nat.reduceLeDiff, Nat.reduceGT, ↓reduceIte, Nat.reduceEqDiff, Nat.reduceBEq, reduceCtorEq, Int.reduceBEq, Int.reduceBNe, Int.reduceLT, Int.reduceLE, Int.reduceGT, Int.reduceGE, zT36, zT30, zT3, h0, hl, Int.toNat_natCast, hk, levD_eq y, hy]
        (refine (r_inLoop_some ?_).trans h; kernel_rfl)) (by
      unfold H233a
      simp only [dV, iV, E233]
      (rw [show (It.code L233a) = It.code (sub B233 [1, 0, 1, 0, 0]) from rfl]; simp only [B233, K233a, sub, Option.getD_some, Tryz.f233, ↓reduceIte, Nat.one_ne_zero])
      simp only [zS, zD, convertA, makeFuncA, Nat.reduceAdd, Nat.reduceSub, Nat.reduceMul, Nat.reduceLT, Nat.reduceLeDiff, Nat.reduceGT, ↓reduceIte, Nat.reduceEqDiff, Nat.reduceBEq, reduceCtorEq, Int.reduceBEq, Int.reduceBNe, Int.reduceLT, Int.reduceLE, Int.reduceGT, Int.reduceGE, zT30, zT3, Int.lt_irrefl]
      (refine Eq.trans ?_ rfl; kernel_rfl))
  rw [this]
  cases l.findIdx? p <;> rfl
theorem any171 (hx : ext 171 = none) (z : Bool) (l : List Lev) (n : Int) (hr : run Tryz.prog ext (.call 233 [dV (listD z 2 (l.map levD)), .c (.fn 172 [] [])] []) = some (.ret [iV n] [])) :
    run Tryz.prog ext (.call 171 [dV (listD z 2 (l.map levD)), .c (.fn 172 [] [])] []) = some (.ret [bV (decide (0 ≤ n))] []) := by
  (rw [run_eq]; simp only [stepA, hx, Tryz.func171, Tryz.f171, show retF 171 = false from rfl]; simp only [List.length_cons, List.length_nil, Nat.reduceAdd, Nat.reduceLeDiff, Nat.zero_le, ↓reduceIte, List.zipIdx_cons, List.zipIdx_nil, List.map_cons, List.map_nil])
  simp only [dV, iV, bV] at hr ⊢
  simp only [zS, zD, convertA, makeFuncA, Nat.reduceAdd, Nat.reduceSub, Nat.reduceMul, Nat.reduceLT, Nat.reduceLeDiff, Nat.reduceGT, ↓reduceIte, Nat.reduceEqDiff, Nat.reduceBEq, reduceCtorEq, Int.reduceBEq, Int.reduceBNe, Int.reduceLT, Int.reduceLE, Int.reduceGT, Int.reduceGE, zT30, zT3, hr, ge_iff_le]
  (refine Eq.trans ?_ rfl; kernel_rfl)
theorem all171 (hx : ext 171 = none) (h233 : ext 233 = none) (h172 : ext 172 = none) (z : Bool) (l : List Lev) (hs : l.length < 2 ^ 50) (hr : ∀ y ∈ l, run Tryz.prog ext (.call 173 [levV y] []) = some (.ret [bV (canonL y)] [])) :
    run Tryz.prog ext (.call 171 [dV (listD z 2 (l.map levD)), .c (.fn 172 [] [])] []) = some (.ret [bV (l.any fun y => !canonL y)] []) := by
  have := any171 ext hx z l _ (idx233 ext h233 z l hs (fun y => !canonL y) (fun y hy => clo172 ext h172 y _ (hr y hy)))
  rwa [← any_ix] at this
end Go.Proofs.YteenjodhmppgjaaGreatDoor.Am
end
section
/- Names, by the program and by the reference. -/
namespace Go.Proofs.YteenjodhmppgjaaGreatDoor.Am
open Go
variable (ext : Ext)
set_option maxHeartbeats 8000000
noncomputable def B170 : Code := (Tryz.f170.body.getD .skip)
noncomputable def L170a : Code := sub B170 [1, 0, 1, 0, 0]
noncomputable def K170a : List It := [.inBlock 0, .code (sub B170 [1, 1])]
noncomputable def H170a (ext : Ext) (m : Nat) (env : Env) (loc : List O) : Option Out := run Tryz.prog ext (.k ⟨60, m, [.tmp 2], false⟩ (.code L170a :: .inLoop L170a :: K170a) env loc)
noncomputable def B179 : Code := (Tryz.f179.body.getD .skip)
noncomputable def L179a : Code := sub B179 [1, 1, 0, 1, 0, 0]
noncomputable def K179a : List It := [.inBlock 0, .code (sub B179 [1, 1, 1])]
noncomputable def H179a (ext : Ext) (m : Nat) (env : Env) (loc : List O) : Option Out := run Tryz.prog ext (.k ⟨62, m, [.tmp 2], false⟩ (.code L179a :: .inLoop L179a :: K179a) env loc)
def bytesL (s : ByteArray) : List UInt8 := s.data.toList
theorem bytesL_len (s : ByteArray) : (bytesL s).length = s.size := Array.length_toList
theorem bytesL_get (s : ByteArray) (k : Nat) : s[k]? = (bytesL s)[k]? := by
  unfold bytesL
  by_cases h : k < s.size
  · have h1 : s[k]? = some s[k] := by simp [h]
    have h2 : s.data.toList[k]? = some s.data[k] := by
      rw [Array.getElem?_toList, Array.getElem?_eq_getElem]
    rw [h1, h2]; rfl
  · have h1 : s[k]? = none := getElem?_neg s k h
    have h2 : s.data.toList[k]? = none := by
      rw [Array.getElem?_toList, Array.getElem?_eq_none]; exact Nat.le_of_not_lt h
    rw [h1, h2]
def letterB (c : Int) : Bool := (decide (97 ≤ c) && decide (c ≤ 122)) || ((decide (65 ≤ c) && decide (c ≤ 90)) || (c == 95))
def restB (c : Int) : Bool := (decide (48 ≤ c) && decide (c ≤ 57)) || (c == 46)
def badB (k : Nat) (b : UInt8) : Bool := !letterB (b.toNat : Int) && (decide (k = 0) || !restB (b.toNat : Int))
def nameOK (s : ByteArray) : Bool := decide (1 ≤ s.size) && (decide (s.size ≤ 24) && (idxFrom badB 0 (bytesL s)).isNone)
/-- The kinds of bytes that the tests tell apart. -/
def KB (c : Int) (b1 b2 b3 b4 b5 b6 b7 b8 : Bool) : Prop := decide (97 ≤ c) = b1 ∧ decide (c ≤ 122) = b2 ∧ decide (65 ≤ c) = b3 ∧ decide (c ≤ 90) = b4 ∧ (c == 95) = b5 ∧ decide (48 ≤ c) = b6 ∧ decide (c ≤ 57) = b7 ∧ (c == 46) = b8
theorem byte_kinds (c : Int) : KB c true true true false false true false false ∨
    KB c true false true false false true false false ∨
    KB c false true true true false true false false ∨
    KB c false true true false true true false false ∨
    KB c false true true false false true false false ∨
    KB c false true false true false true true false ∨
    KB c false true false true false true false false ∨
    KB c false true false true false false true true ∨
    KB c false true false true false false true false := by
  simp only [KB, decide_eq_true_eq, decide_eq_false_iff_not, beq_iff_eq, beq_eq_false_iff_ne, ne_eq]
  omega
theorem bad_eq (k : Nat) (b : UInt8) (c : Int) (hc : (b.toNat : Int) = c) : badB k b = (!letterB c && (decide (k = 0) || !restB c)) := by unfold badB; rw [hc]
def E170 (s : ByteArray) (k : Int) : Env := [(0, sV s), (7, iV s.size), (8, iV k)]
theorem step170 (s : ByteArray) (k : Nat) (b : UInt8) (hk : (bytesL s)[k]? = some b) (hl : (k : Int) < s.size) :
    (badB k b = true → H170a ext 0 (E170 s k) [] = some (.ret [bV false] [])) ∧ (badB k b = false → ∀ out, H170a ext 0 (E170 s (wr ((k : Int) + 1))) [] = out → H170a ext 0 (E170 s k) [] = out) := by
  have h0 : (0 : Int) ≤ k := by omega
  have hb : s[k]? = some b := by rw [bytesL_get, hk]
  generalize hc : (b.toNat : Int) = c
  rw [bad_eq k b c hc]
  unfold letterB restB H170a
  have n8 : (c != 46) = !(c == 46) := rfl
  have ek : ((k : Int) == 0) = decide (k = 0) := by rw [Bool.eq_iff_iff, beq_iff_eq, decide_eq_true_eq]; omega
  rcases byte_kinds c with ⟨a1, a2, a3, a4, a5, a6, a7, a8⟩ | ⟨a1, a2, a3, a4, a5, a6, a7, a8⟩ | ⟨a1, a2, a3, a4, a5, a6, a7, a8⟩ | ⟨a1, a2, a3, a4, a5, a6, a7, a8⟩ | ⟨a1, a2, a3, a4, a5, a6, a7, a8⟩ | ⟨a1, a2, a3, a4, a5, a6, a7, a8⟩ | ⟨a1, a2, a3, a4, a5, a6, a7, a8⟩ | ⟨a1, a2, a3, a4, a5, a6, a7, a8⟩ | ⟨a1, a2, a3, a4, a5, a6, a7, a8⟩
  all_goals
    rcases (by by_cases k0 : k = 0; exact .inl ⟨by rw [ek, decide_eq_true k0], decide_eq_true k0⟩; exact .inr ⟨by rw [ek, decide_eq_false k0], decide_eq_false k0⟩ : (((k : Int) == 0) = true ∧ decide (k = 0) = true) ∨ (((k : Int) == 0) = false ∧ decide (k = 0) = false)) with ⟨k1, k0⟩ | ⟨k1, k0⟩
    all_goals
      refine ⟨fun hp => ?_, fun hp out h => ?_⟩
      · (simp only [a1, a2, a3, a4, a5, a6, a7, a8, k0, decide_true, decide_false, Bool.and_self, Bool.and_true, Bool.and_false, Bool.true_and, Bool.false_and, Bool.or_self, Bool.or_true, Bool.or_false, Bool.true_or, Bool.false_or, Bool.not_true, Bool.not_false, Bool.false_eq_true, reduceCtorEq] at hp) <;> (
          simp only [iV, bV, sV, E170]
          (rw [show (It.code L170a) = It.code (sub B170 [1, 0, 1, 0, 0]) from rfl]; simp only [B170, K170a, sub, Option.getD_some, Tryz.f170, ↓reduceIte, Nat.one_ne_zero])
          simp only [zS, zD, convertA, makeFuncA, Nat.reduceAdd, Nat.reduceSub, Nat.reduceMul, Nat.reduceLT, Nat.reduceLeDiff, Nat.reduceGT, ↓reduceIte, Nat.reduceEqDiff, Nat.reduceBEq, reduceCtorEq, Int.reduceBEq, Int.reduceBNe, Int.reduceLT, Int.reduceLE, Int.reduceGT, Int.reduceGE, zT9, zT5, zT3, h0, hl, hb, hc, n8, k1, a1, a2, a3, a4, a5, a6, a7, a8, Int.toNat_natCast, ge_iff_le]
          (refine Eq.trans ?_ rfl; kernel_rfl))
      · (simp only [a1, a2, a3, a4, a5, a6, a7, a8, k0, decide_true, decide_false, Bool.and_self, Bool.and_true, Bool.and_false, Bool.true_and, Bool.false_and, Bool.or_self, Bool.or_true, Bool.or_false, Bool.true_or, Bool.false_or, Bool.not_true, Bool.not_false, Bool.false_eq_true, reduceCtorEq] at hp) <;> (
          simp only [iV, bV, sV, E170] at h ⊢
          (rw [show (It.code L170a) = It.code (sub B170 [1, 0, 1, 0, 0]) from rfl]; simp only [B170, K170a, sub, Option.getD_some, Tryz.f170, ↓reduceIte, Nat.one_ne_zero])
          simp only [zS, zD, convertA, makeFuncA, Nat.reduceAdd, Nat.reduceSub, Nat.reduceMul, Nat.reduceLT, Nat.reduceLeDiff, Nat.reduceGT, ↓reduceIte, Nat.reduceEqDiff, Nat.reduceBEq, reduceCtorEq, Int.reduceBEq, Int.reduceBNe, Int.reduceLT, Int.reduceLE, Int.reduceGT, Int.reduceGE, zT9, zT5, zT3, h0, hl, hb, hc, n8, k1, a1, a2, a3, a4, a5, a6, a7, a8, Int.toNat_natCast, ge_iff_le]
          (refine (r_inLoop_some ?_).trans h; kernel_rfl))
theorem name170 (hx : ext 170 = none) (s : ByteArray) (hs : s.size < 2 ^ 50) : run Tryz.prog ext (.call 170 [sV s] []) = some (.ret [bV (nameOK s)] []) := by
  have he : ∀ out, H170a ext 0 (E170 s 0) [] = out → run Tryz.prog ext (.call 170 [sV s] []) = out := by
    intro out h
    unfold H170a at h
    (rw [run_eq]; simp only [stepA, hx, Tryz.func170, Tryz.f170, show retF 170 = false from rfl]; simp only [List.length_cons, List.length_nil, Nat.reduceAdd, Nat.reduceLeDiff, Nat.zero_le, ↓reduceIte, List.zipIdx_cons, List.zipIdx_nil, List.map_cons, List.map_nil])
    simp only [sV, iV, E170] at h ⊢
    simp only [zS, zD, convertA, makeFuncA, Nat.reduceAdd, Nat.reduceSub, Nat.reduceMul, Nat.reduceLT, Nat.reduceLeDiff, Nat.reduceGT, ↓reduceIte, Nat.reduceEqDiff, Nat.reduceBEq, reduceCtorEq, Int.reduceBEq, Int.reduceBNe, Int.reduceLT, Int.reduceLE, Int.reduceGT, Int.reduceGE, zT9, zT3]
    (refine (r_inLoop_some ?_).trans h; kernel_rfl)
  refine he _ ?_
  have := loop_findK (bytesL s) (fun k => H170a ext 0 (E170 s k) []) badB (fun _ => some (.ret [bV false] [])) (some (.ret [bV (decide (1 ≤ s.size) && decide (s.size ≤ 24))] [])) (by rw [bytesL_len]; omega) (fun k b hk hl => step170 ext s k b hk (by rw [bytesL_len] at hl; exact hl)) (by
      rw [bytesL_len]
      unfold H170a
      have d1 : decide ((s.size : Int) ≥ 1) = decide (1 ≤ s.size) := by rw [Bool.eq_iff_iff, decide_eq_true_eq, decide_eq_true_eq]; omega
      have d2 : decide ((s.size : Int) ≤ 24) = decide (s.size ≤ 24) := by rw [Bool.eq_iff_iff, decide_eq_true_eq, decide_eq_true_eq]; omega
      simp only [sV, iV, bV, E170]
      cases h1 : decide (1 ≤ s.size)
      all_goals
        rw [h1] at d1
        (rw [show (It.code L170a) = It.code (sub B170 [1, 0, 1, 0, 0]) from rfl]; simp only [B170, K170a, sub, Option.getD_some, Tryz.f170, ↓reduceIte, Nat.one_ne_zero])
        simp only [zS, zD, convertA, makeFuncA, Nat.reduceAdd, Nat.reduceSub, Nat.reduceMul, Nat.reduceLT, Nat.reduceLeDiff, Nat.reduceGT, ↓reduceIte, Nat.reduceEqDiff, Nat.reduceBEq, reduceCtorEq, Int.reduceBEq, Int.reduceBNe, Int.reduceLT, Int.reduceLE, Int.reduceGT, Int.reduceGE, zT9, zT3, Int.lt_irrefl, d1, d2]
        (refine Eq.trans ?_ rfl; kernel_rfl))
  rw [this]
  unfold nameOK
  cases idxFrom badB 0 (bytesL s) <;> simp
def E179 (s : ByteArray) (k : Int) : Env := [(0, sV s), (3, iV k)]
theorem step179 (s : ByteArray) (k : Nat) (b : UInt8) (hk : (bytesL s)[k]? = some b) (hl : (k : Int) < s.size) :
    (badB k b = true → H179a ext 0 (E179 s k) [] = some (.ret [bV false] [])) ∧ (badB k b = false → ∀ out, H179a ext 0 (E179 s (wr ((k : Int) + 1))) [] = out → H179a ext 0 (E179 s k) [] = out) := by
  have h0 : (0 : Int) ≤ k := by omega
  have hb : s[k]? = some b := by rw [bytesL_get, hk]
  generalize hc : (b.toNat : Int) = c
  rw [bad_eq k b c hc]
  unfold letterB restB H179a
  have n8 : (c != 46) = !(c == 46) := rfl
  have ek : ((k : Int) == 0) = decide (k = 0) := by rw [Bool.eq_iff_iff, beq_iff_eq, decide_eq_true_eq]; omega
  rcases byte_kinds c with ⟨a1, a2, a3, a4, a5, a6, a7, a8⟩ | ⟨a1, a2, a3, a4, a5, a6, a7, a8⟩ | ⟨a1, a2, a3, a4, a5, a6, a7, a8⟩ | ⟨a1, a2, a3, a4, a5, a6, a7, a8⟩ | ⟨a1, a2, a3, a4, a5, a6, a7, a8⟩ | ⟨a1, a2, a3, a4, a5, a6, a7, a8⟩ | ⟨a1, a2, a3, a4, a5, a6, a7, a8⟩ | ⟨a1, a2, a3, a4, a5, a6, a7, a8⟩ | ⟨a1, a2, a3, a4, a5, a6, a7, a8⟩
  all_goals
    rcases (by by_cases k0 : k = 0; exact .inl ⟨by rw [ek, decide_eq_true k0], decide_eq_true k0⟩; exact .inr ⟨by rw [ek, decide_eq_false k0], decide_eq_false k0⟩ : (((k : Int) == 0) = true ∧ decide (k = 0) = true) ∨ (((k : Int) == 0) = false ∧ decide (k = 0) = false)) with ⟨k1, k0⟩ | ⟨k1, k0⟩
    all_goals
      refine ⟨fun hp => ?_, fun hp out h => ?_⟩
      · (simp only [a1, a2, a3, a4, a5, a6, a7, a8, k0, decide_true, decide_false, Bool.and_self, Bool.and_true, Bool.and_false, Bool.true_and, Bool.false_and, Bool.or_self, Bool.or_true, Bool.or_false, Bool.true_or, Bool.false_or, Bool.not_true, Bool.not_false, Bool.false_eq_true, reduceCtorEq] at hp) <;> (
          simp only [iV, bV, sV, E179]
          (rw [show (It.code L179a) = It.code (sub B179 [1, 1, 0, 1, 0, 0]) from rfl]; simp only [B179, K179a, sub, Option.getD_some, Tryz.f179, ↓reduceIte, Nat.one_ne_zero])
          simp only [zS, zD, convertA, makeFuncA, Nat.reduceAdd, Nat.reduceSub, Nat.reduceMul, Nat.reduceLT, Nat.reduceLeDiff, Nat.reduceGT, ↓reduceIte, Nat.reduceEqDiff, Nat.reduceBEq, reduceCtorEq, Int.reduceBEq, Int.reduceBNe, Int.reduceLT, Int.reduceLE, Int.reduceGT, Int.reduceGE, zT9, zT5, zT3, h0, hl, hb, hc, n8, k1, a1, a2, a3, a4, a5, a6, a7, a8, Int.toNat_natCast, ge_iff_le]
          (refine Eq.trans ?_ rfl; kernel_rfl))
      · (simp only [a1, a2, a3, a4, a5, a6, a7, a8, k0, decide_true, decide_false, Bool.and_self, Bool.and_true, Bool.and_false, Bool.true_and, Bool.false_and, Bool.or_self, Bool.or_true, Bool.or_false, Bool.true_or, Bool.false_or, Bool.not_true, Bool.not_false, Bool.false_eq_true, reduceCtorEq] at hp) <;> (
          simp only [iV, bV, sV, E179] at h ⊢
          (rw [show (It.code L179a) = It.code (sub B179 [1, 1, 0, 1, 0, 0]) from rfl]; simp only [B179, K179a, sub, Option.getD_some, Tryz.f179, ↓reduceIte, Nat.one_ne_zero])
          simp only [zS, zD, convertA, makeFuncA, Nat.reduceAdd, Nat.reduceSub, Nat.reduceMul, Nat.reduceLT, Nat.reduceLeDiff, Nat.reduceGT, ↓reduceIte, Nat.reduceEqDiff, Nat.reduceBEq, reduceCtorEq, Int.reduceBEq, Int.reduceBNe, Int.reduceLT, Int.reduceLE, Int.reduceGT, Int.reduceGE, zT9, zT5, zT3, h0, hl, hb, hc, n8, k1, a1, a2, a3, a4, a5, a6, a7, a8, Int.toNat_natCast, ge_iff_le]
          (refine (r_inLoop_some ?_).trans h; kernel_rfl))
theorem name179 (hx : ext 179 = none) (s : ByteArray) (hs : s.size < 2 ^ 50) : run Tryz.prog ext (.call 179 [sV s] []) = some (.ret [bV (nameOK s)] []) := by
  have d1 : decide ((s.size : Int) < 1) = !decide (1 ≤ s.size) := by rw [Bool.eq_iff_iff, decide_eq_true_eq, Bool.not_eq_true', decide_eq_false_iff_not]; omega
  have d2 : decide ((s.size : Int) > 24) = !decide (s.size ≤ 24) := by rw [Bool.eq_iff_iff, decide_eq_true_eq, Bool.not_eq_true', decide_eq_false_iff_not]; omega
  unfold nameOK
  cases h1 : decide (1 ≤ s.size) with
  | false =>
    rw [h1] at d1
    rw [Bool.false_and]
    (rw [run_eq]; simp only [stepA, hx, Tryz.func179, Tryz.f179, show retF 179 = false from rfl]; simp only [List.length_cons, List.length_nil, Nat.reduceAdd, Nat.reduceLeDiff, Nat.zero_le, ↓reduceIte, List.zipIdx_cons, List.zipIdx_nil, List.map_cons, List.map_nil])
    simp only [sV, bV]
    simp only [zS, zD, convertA, makeFuncA, Nat.reduceAdd, Nat.reduceSub, Nat.reduceMul, Nat.reduceLT, Nat.reduceLeDiff, Nat.reduceGT, ↓reduceIte, Nat.reduceEqDiff, Nat.reduceBEq, reduceCtorEq, Int.reduceBEq, Int.reduceBNe, Int.reduceLT, Int.reduceLE, Int.reduceGT, Int.reduceGE, zT9, zT3, d1]
    (refine Eq.trans ?_ rfl; kernel_rfl)
  | true =>
    rw [h1] at d1
    rw [Bool.true_and]
    cases h2 : decide (s.size ≤ 24) with
    | false =>
      rw [h2] at d2
      rw [Bool.false_and]
      (rw [run_eq]; simp only [stepA, hx, Tryz.func179, Tryz.f179, show retF 179 = false from rfl]; simp only [List.length_cons, List.length_nil, Nat.reduceAdd, Nat.reduceLeDiff, Nat.zero_le, ↓reduceIte, List.zipIdx_cons, List.zipIdx_nil, List.map_cons, List.map_nil])
      simp only [sV, bV]
      simp only [zS, zD, convertA, makeFuncA, Nat.reduceAdd, Nat.reduceSub, Nat.reduceMul, Nat.reduceLT, Nat.reduceLeDiff, Nat.reduceGT, ↓reduceIte, Nat.reduceEqDiff, Nat.reduceBEq, reduceCtorEq, Int.reduceBEq, Int.reduceBNe, Int.reduceLT, Int.reduceLE, Int.reduceGT, Int.reduceGE, zT9, zT3, d1, d2]
      (refine Eq.trans ?_ rfl; kernel_rfl)
    | true =>
      rw [h2] at d2
      rw [Bool.true_and]
      have he : ∀ out, H179a ext 0 (E179 s 0) [] = out → run Tryz.prog ext (.call 179 [sV s] []) = out := by
        intro out h
        unfold H179a at h
        (rw [run_eq]; simp only [stepA, hx, Tryz.func179, Tryz.f179, show retF 179 = false from rfl]; simp only [List.length_cons, List.length_nil, Nat.reduceAdd, Nat.reduceLeDiff, Nat.zero_le, ↓reduceIte, List.zipIdx_cons, List.zipIdx_nil, List.map_cons, List.map_nil])
        simp only [sV, iV, E179] at h ⊢
        simp only [zS, zD, convertA, makeFuncA, Nat.reduceAdd, Nat.reduceSub, Nat.reduceMul, Nat.reduceLT, Nat.reduceLeDiff, Nat.reduceGT, ↓reduceIte, Nat.reduceEqDiff, Nat.reduceBEq, reduceCtorEq, Int.reduceBEq, Int.reduceBNe, Int.reduceLT, Int.reduceLE, Int.reduceGT, Int.reduceGE, zT9, zT3, d1, d2]
        (refine (r_inLoop_some ?_).trans h; kernel_rfl)
      refine he _ ?_
      have := loop_findK (bytesL s) (fun k => H179a ext 0 (E179 s k) []) badB (fun _ => some (.ret [bV false] [])) (some (.ret [bV true] [])) (by rw [bytesL_len]; omega) (fun k b hk hl => step179 ext s k b hk (by rw [bytesL_len] at hl; exact hl)) (by
          rw [bytesL_len]
          unfold H179a
          simp only [sV, iV, bV, E179]
          (rw [show (It.code L179a) = It.code (sub B179 [1, 1, 0, 1, 0, 0]) from rfl]; simp only [B179, K179a, sub, Option.getD_some, Tryz.f179, ↓reduceIte, Nat.one_ne_zero])
          simp only [zS, zD, convertA, makeFuncA, Nat.reduceAdd, Nat.reduceSub, Nat.reduceMul, Nat.reduceLT, Nat.reduceLeDiff, Nat.reduceGT, ↓reduceIte, Nat.reduceEqDiff, Nat.reduceBEq, reduceCtorEq, Int.reduceBEq, Int.reduceBNe, Int.reduceLT, Int.reduceLE, Int.reduceGT, Int.reduceGE, zT9, zT3, Int.lt_irrefl]
          (refine Eq.trans ?_ rfl; kernel_rfl))
      rw [this]
      cases idxFrom badB 0 (bytesL s) <;> rfl
end Go.Proofs.YteenjodhmppgjaaGreatDoor.Am
end
section
/- The shapes of operators, by the program and by the reference. -/
namespace Go.Proofs.YteenjodhmppgjaaGreatDoor.Am
open Go
variable (ext : Ext)
set_option maxHeartbeats 8000000
set_option maxRecDepth 8000
/-- What an operator's row tells: marks, parts. -/
def tabF : List Int := [0, 8, 5, 2, 0, 64, 32, 32, 64, 64, 0, 0, 0, 0, 0, 0, 0, 32, 2, 2, 2, 2, 2, 2, 0, 34, 5, 21, 37, 8, 0]
def tabP : List Int := [0, 0, 0, 0, 0, 2, 2, 2, 2, 4, 1, 1, 0, 0, 0, 0, 0, 2, 3, 2, 6, 4, 3, 5, 2, 5, 1, 2, -1, 0, 0]
def tabS : List ByteArray := [⟨#[]⟩, ⟨#[35]⟩, ⟨#[64]⟩, ⟨#[116,121,112,101]⟩, ⟨#[112,114,111,112]⟩, ⟨#[112,105]⟩, ⟨#[108,97,109]⟩, ⟨#[97,112,112]⟩, ⟨#[115,105,103]⟩, ⟨#[112,97,105,114]⟩, ⟨#[102,115,116]⟩, ⟨#[115,110,100]⟩, ⟨#[117,110,105,116]⟩, ⟨#[115,116,97,114]⟩, ⟨#[116,114,117,101]⟩, ⟨#[116,114,105,118,105,97,108]⟩, ⟨#[102,97,108,115,101]⟩, ⟨#[97,98,115,117,114,100]⟩, ⟨#[101,113]⟩, ⟨#[114,101,102,108]⟩, ⟨#[115,117,98,115,116]⟩, ⟨#[99,97,115,116]⟩, ⟨#[99,111,104]⟩, ⟨#[113,117,111]⟩, ⟨#[99,108,97,115,115]⟩, ⟨#[111,117,116]⟩, ⟨#[100,97,116,97]⟩, ⟨#[99,111,110]⟩, ⟨#[101,108,105,109]⟩, ⟨#[63]⟩, ⟨#[112,114,111,111,102]⟩]
def opS (op : Int) : ByteArray := tabS.getD op.toNat ⟨#[]⟩
def opF (op : Int) : Int := tabF.getD op.toNat 0
def opP (op : Int) : Int := tabP.getD op.toNat 0
noncomputable def B169 : Code := (Tryz.f169.body).getD .skip
theorem lit30 {op : Int} (h1 : 1 ≤ op) (h2 : op ≤ 30) : op = 1 ∨ op = 2 ∨ op = 3 ∨ op = 4 ∨ op = 5 ∨ op = 6 ∨ op = 7 ∨ op = 8 ∨ op = 9 ∨ op = 10 ∨ op = 11 ∨ op = 12 ∨ op = 13 ∨ op = 14 ∨ op = 15 ∨ op = 16 ∨ op = 17 ∨ op = 18 ∨ op = 19 ∨ op = 20 ∨ op = 21 ∨ op = 22 ∨ op = 23 ∨ op = 24 ∨ op = 25 ∨ op = 26 ∨ op = 27 ∨ op = 28 ∨ op = 29 ∨ op = 30 := by omega
/-- Into a function of one number. -/
theorem enterB (f : FuncId) (fn : Func) (c : Code) (hx : ext f = none) (hf : Tryz.prog.funcs[f]? = some fn) (hb : fn.body = some c) (hl : 1 ≤ fn.ntmps) (x : V) (out : Option Out)
    (h : run Tryz.prog ext (.k ⟨fn.ntmps, 0, fn.results.toList, retF f⟩ [.code c] [(0, x)] []) = out) : run Tryz.prog ext (.call f [x] []) = out := by
  rw [run_eq]
  simp only [stepA, hx, hf, hb]
  rw [if_pos (by simpa using hl)]
  exact h
theorem of169 (hx : ext 169 = none) (op : Int) (h1 : 1 ≤ op) (h2 : op ≤ 30) : run Tryz.prog ext (.call 169 [iV op] []) = some (.ret [.agg [.d (.v (.string (opS op))), .d (.v (.int .i64 (opF op))), .d (.v (.int .i64 (opP op)))], bV true] []) := by
  rcases lit30 h1 h2 with rfl | rfl | rfl | rfl | rfl | rfl | rfl | rfl | rfl | rfl | rfl | rfl | rfl | rfl | rfl | rfl | rfl | rfl | rfl | rfl | rfl | rfl | rfl | rfl | rfl | rfl | rfl | rfl | rfl | rfl
  all_goals exact enterB ext 169 Tryz.f169 B169 hx Tryz.func169 (by kernel_rfl) (Nat.le_of_ble_eq_true (by kernel_rfl)) _ _ ((run_iff _ _ _ _).2 ⟨400, by kernel_rfl⟩)
theorem places225 : placesT Tryz.prog 225 = some [(0, 3), (3, 3), (6, 3), (9, 3), (12, 3), (15, 3), (18, 3), (21, 3), (24, 3), (27, 3), (30, 3), (33, 3), (36, 3), (39, 3), (42, 3), (45, 3), (48, 3), (51, 3), (54, 3), (57, 3), (60, 3), (63, 3), (66, 3), (69, 3), (72, 3), (75, 3), (78, 3), (81, 3), (84, 3), (87, 3), (90, 3)] := by kernel_rfl
theorem of169_no (hx : ext 169 = none) (op : Int) (h : ¬ (1 ≤ op ∧ op ≤ 30)) : run Tryz.prog ext (.call 169 [iV op] []) = some (.ret [.agg [.d (.v (.string ⟨#[]⟩)), .d (.v (.int .i64 0)), .d (.v (.int .i64 0))], bV false] []) := by
  by_cases h1 : op < 1
  · have e1 : decide (op < 1) = true := decide_eq_true h1
    (rw [run_eq]; simp only [stepA, hx, Tryz.func169, Tryz.f169, show retF 169 = false from rfl]; simp only [List.length_cons, List.length_nil, Nat.reduceAdd, Nat.reduceLeDiff, Nat.zero_le, ↓reduceIte, List.zipIdx_cons, List.zipIdx_nil, List.map_cons, List.map_nil])
    simp only [iV, bV]
    simp only [zS, zD, convertA, makeFuncA, Nat.reduceAdd, Nat.reduceSub, Nat.reduceMul, Nat.reduceLT, Nat.reduceLeDiff, Nat.reduceGT, ↓reduceIte, Nat.reduceEqDiff, Nat.reduceBEq, reduceCtorEq, Int.reduceBEq, Int.reduceBNe, Int.reduceLT, Int.reduceLE, Int.reduceGT, Int.reduceGE, zT186, zT225, places225, zT9, zT3, e1]
    (refine Eq.trans ?_ rfl; kernel_rfl)
  · have e1 : decide (op < 1) = false := decide_eq_false h1
    have e2 : decide (op ≥ 31) = true := decide_eq_true (by omega)
    (rw [run_eq]; simp only [stepA, hx, Tryz.func169, Tryz.f169, show retF 169 = false from rfl]; simp only [List.length_cons, List.length_nil, Nat.reduceAdd, Nat.reduceLeDiff, Nat.zero_le, ↓reduceIte, List.zipIdx_cons, List.zipIdx_nil, List.map_cons, List.map_nil])
    simp only [iV, bV]
    simp only [zS, zD, convertA, makeFuncA, Nat.reduceAdd, Nat.reduceSub, Nat.reduceMul, Nat.reduceLT, Nat.reduceLeDiff, Nat.reduceGT, ↓reduceIte, Nat.reduceEqDiff, Nat.reduceBEq, reduceCtorEq, Int.reduceBEq, Int.reduceBNe, Int.reduceLT, Int.reduceLE, Int.reduceGT, Int.reduceGE, zT186, zT225, places225, zT9, zT3, e1, e2]
    (refine Eq.trans ?_ rfl; kernel_rfl)
end Go.Proofs.YteenjodhmppgjaaGreatDoor.Am
end
section
/- The form of a node, by the program. Printed by tfits/nodeform.py. -/
namespace Go.Proofs.YteenjodhmppgjaaGreatDoor.Am
open Go
variable (ext : Ext)
set_option maxHeartbeats 8000000
set_option maxRecDepth 4000
theorem and_8_8 : andI .i64 8 8 = 8 := by decide
theorem and_8_16 : andI .i64 8 16 = 0 := by decide
theorem and_8_32 : andI .i64 8 32 = 0 := by decide
theorem and_8_64 : andI .i64 8 64 = 0 := by decide
theorem and_8_2 : andI .i64 8 2 = 0 := by decide
theorem and_8_4 : andI .i64 8 4 = 0 := by decide
theorem and_8_1 : andI .i64 8 1 = 0 := by decide
theorem and_5_8 : andI .i64 5 8 = 0 := by decide
theorem and_5_16 : andI .i64 5 16 = 0 := by decide
theorem and_5_32 : andI .i64 5 32 = 0 := by decide
theorem and_5_64 : andI .i64 5 64 = 0 := by decide
theorem and_5_2 : andI .i64 5 2 = 0 := by decide
theorem and_5_4 : andI .i64 5 4 = 4 := by decide
theorem and_5_1 : andI .i64 5 1 = 1 := by decide
theorem and_2_8 : andI .i64 2 8 = 0 := by decide
theorem and_2_16 : andI .i64 2 16 = 0 := by decide
theorem and_2_32 : andI .i64 2 32 = 0 := by decide
theorem and_2_64 : andI .i64 2 64 = 0 := by decide
theorem and_2_2 : andI .i64 2 2 = 2 := by decide
theorem and_2_4 : andI .i64 2 4 = 0 := by decide
theorem and_2_1 : andI .i64 2 1 = 0 := by decide
theorem and_0_8 : andI .i64 0 8 = 0 := by decide
theorem and_0_16 : andI .i64 0 16 = 0 := by decide
theorem and_0_32 : andI .i64 0 32 = 0 := by decide
theorem and_0_64 : andI .i64 0 64 = 0 := by decide
theorem and_0_2 : andI .i64 0 2 = 0 := by decide
theorem and_0_4 : andI .i64 0 4 = 0 := by decide
theorem and_0_1 : andI .i64 0 1 = 0 := by decide
theorem and_64_8 : andI .i64 64 8 = 0 := by decide
theorem and_64_16 : andI .i64 64 16 = 0 := by decide
theorem and_64_32 : andI .i64 64 32 = 0 := by decide
theorem and_64_64 : andI .i64 64 64 = 64 := by decide
theorem and_64_2 : andI .i64 64 2 = 0 := by decide
theorem and_64_4 : andI .i64 64 4 = 0 := by decide
theorem and_64_1 : andI .i64 64 1 = 0 := by decide
theorem and_32_8 : andI .i64 32 8 = 0 := by decide
theorem and_32_16 : andI .i64 32 16 = 0 := by decide
theorem and_32_32 : andI .i64 32 32 = 32 := by decide
theorem and_32_64 : andI .i64 32 64 = 0 := by decide
theorem and_32_2 : andI .i64 32 2 = 0 := by decide
theorem and_32_4 : andI .i64 32 4 = 0 := by decide
theorem and_32_1 : andI .i64 32 1 = 0 := by decide
theorem and_34_8 : andI .i64 34 8 = 0 := by decide
theorem and_34_16 : andI .i64 34 16 = 0 := by decide
theorem and_34_32 : andI .i64 34 32 = 32 := by decide
theorem and_34_64 : andI .i64 34 64 = 0 := by decide
theorem and_34_2 : andI .i64 34 2 = 2 := by decide
theorem and_34_4 : andI .i64 34 4 = 0 := by decide
theorem and_34_1 : andI .i64 34 1 = 0 := by decide
theorem and_21_8 : andI .i64 21 8 = 0 := by decide
theorem and_21_16 : andI .i64 21 16 = 16 := by decide
theorem and_21_32 : andI .i64 21 32 = 0 := by decide
theorem and_21_64 : andI .i64 21 64 = 0 := by decide
theorem and_21_2 : andI .i64 21 2 = 0 := by decide
theorem and_21_4 : andI .i64 21 4 = 4 := by decide
theorem and_21_1 : andI .i64 21 1 = 1 := by decide
theorem and_37_8 : andI .i64 37 8 = 0 := by decide
theorem and_37_16 : andI .i64 37 16 = 0 := by decide
theorem and_37_32 : andI .i64 37 32 = 32 := by decide
theorem and_37_64 : andI .i64 37 64 = 0 := by decide
theorem and_37_2 : andI .i64 37 2 = 0 := by decide
theorem and_37_4 : andI .i64 37 4 = 4 := by decide
theorem and_37_1 : andI .i64 37 1 = 1 := by decide
def emptyS : ByteArray := ⟨#[]⟩
/-- What a node has to meet. -/
def nodeG (most : Int) (many : Bool) (lev : Int) (elim : Bool) (pq : Int) (x : Tm) (c : Bool) : Bool :=
  decide (0 ≤ x.n) && (decide (x.n ≤ most) && ((if many = true then decide ((x.u.length : Int) ≤ 8) else decide ((x.u.length : Int) = lev)) &&
    ((if many = true then nameOK x.s else (x.s.toList == emptyS.toList)) && ((if elim = true then decide (3 ≤ (x.l.length : Int)) && decide ((x.l.length : Int) ≤ 11) else decide ((x.l.length : Int) = pq)) && c))))
theorem dlt (a b : Int) : decide (a < b) = !decide (b ≤ a) := by rw [Bool.eq_iff_iff, decide_eq_true_eq, Bool.not_eq_true', decide_eq_false_iff_not]; omega
theorem dgt (a b : Int) : decide (a > b) = !decide (a ≤ b) := by rw [Bool.eq_iff_iff, decide_eq_true_eq, Bool.not_eq_true', decide_eq_false_iff_not]; omega
theorem dne (a b : Int) : (a != b) = !decide (a = b) := by rw [Bool.eq_iff_iff, bne_iff_ne, Bool.not_eq_true', decide_eq_false_iff_not]
theorem node_8 (hx : ext 106 = none) (x : Tm) (st : ByteArray) (pq : Int) (a : Bool) (hof : run Tryz.prog ext (.call 169 [iV x.op] []) = some (.ret [.agg [.d (.v (.string st)), .d (.v (.int .i64 8)), .d (.v (.int .i64 pq))], bV true] [])) (e28 : (x.op == 28) = false)
    (hn : run Tryz.prog ext (.call 170 [sV x.s] []) = some (.ret [bV (nameOK x.s)] [])) (ha : run Tryz.prog ext (.call 171 [dV x.uD, .c (.fn 172 [] [])] []) = some (.ret [bV a] [])) :
    run Tryz.prog ext (.call 106 [tmV x] []) = some (.ret [bV (nodeG 2000 false 0 false pq x (!a))] []) := by
  have n28 : (x.op != 28) = true := by rw [bne, e28]; rfl
  unfold nodeG
  have d1 := dlt x.n 0
  have d2 := dgt x.n 2000
  have d3 := dne (x.u.length : Int) 0
  have d5 := dne (x.l.length : Int) pq
  simp only [if_true, if_false, Bool.false_eq_true, reduceCtorEq]
  cases h0 : decide (0 ≤ x.n) with
  | false =>
    rw [h0] at d1
    simp only [Bool.false_and, Bool.true_and, Bool.and_false, Bool.and_true]
    (rw [run_eq]; simp only [stepA, hx, Tryz.func106, Tryz.f106, show retF 106 = false from rfl]; simp only [List.length_cons, List.length_nil, Nat.reduceAdd, Nat.reduceLeDiff, Nat.zero_le, ↓reduceIte, List.zipIdx_cons, List.zipIdx_nil, List.map_cons, List.map_nil])
    simp only [tmV, tmC, dV, sV, bV, iV, Tm.uD] at hof hn ⊢
    simp only [zS, zD, convertA, makeFuncA, Nat.reduceAdd, Nat.reduceSub, Nat.reduceMul, Nat.reduceLT, Nat.reduceLeDiff, Nat.reduceGT, ↓reduceIte, Nat.reduceEqDiff, Nat.reduceBEq, reduceCtorEq, Int.reduceBEq, Int.reduceBNe, Int.reduceLT, Int.reduceLE, Int.reduceGT, Int.reduceGE, zT186, zT33, zT31, zT30, zT9, zT3, lenA_lD, hof, callOut_cs, n28, e28, d1, and_8_8, and_8_16, and_8_32, and_8_64, and_8_2, and_8_4, and_8_1]
    (refine Eq.trans ?_ rfl; kernel_rfl)
  | true =>
    rw [h0] at d1
    simp only [Bool.false_and, Bool.true_and, Bool.and_false, Bool.and_true]
    cases h1 : decide (x.n ≤ 2000) with
    | false =>
      rw [h1] at d2
      simp only [Bool.false_and, Bool.true_and, Bool.and_false, Bool.and_true]
      (rw [run_eq]; simp only [stepA, hx, Tryz.func106, Tryz.f106, show retF 106 = false from rfl]; simp only [List.length_cons, List.length_nil, Nat.reduceAdd, Nat.reduceLeDiff, Nat.zero_le, ↓reduceIte, List.zipIdx_cons, List.zipIdx_nil, List.map_cons, List.map_nil])
      simp only [tmV, tmC, dV, sV, bV, iV, Tm.uD] at hof hn ⊢
      simp only [zS, zD, convertA, makeFuncA, Nat.reduceAdd, Nat.reduceSub, Nat.reduceMul, Nat.reduceLT, Nat.reduceLeDiff, Nat.reduceGT, ↓reduceIte, Nat.reduceEqDiff, Nat.reduceBEq, reduceCtorEq, Int.reduceBEq, Int.reduceBNe, Int.reduceLT, Int.reduceLE, Int.reduceGT, Int.reduceGE, zT186, zT33, zT31, zT30, zT9, zT3, lenA_lD, hof, callOut_cs, n28, e28, d1, d2, and_8_8, and_8_16, and_8_32, and_8_64, and_8_2, and_8_4, and_8_1]
      (refine Eq.trans ?_ rfl; kernel_rfl)
    | true =>
      rw [h1] at d2
      simp only [Bool.false_and, Bool.true_and, Bool.and_false, Bool.and_true]
      cases h2 : decide ((x.u.length : Int) = 0) with
      | false =>
        rw [h2] at d3
        simp only [Bool.false_and, Bool.true_and, Bool.and_false, Bool.and_true]
        (rw [run_eq]; simp only [stepA, hx, Tryz.func106, Tryz.f106, show retF 106 = false from rfl]; simp only [List.length_cons, List.length_nil, Nat.reduceAdd, Nat.reduceLeDiff, Nat.zero_le, ↓reduceIte, List.zipIdx_cons, List.zipIdx_nil, List.map_cons, List.map_nil])
        simp only [tmV, tmC, dV, sV, bV, iV, Tm.uD] at hof hn ⊢
        simp only [zS, zD, convertA, makeFuncA, Nat.reduceAdd, Nat.reduceSub, Nat.reduceMul, Nat.reduceLT, Nat.reduceLeDiff, Nat.reduceGT, ↓reduceIte, Nat.reduceEqDiff, Nat.reduceBEq, reduceCtorEq, Int.reduceBEq, Int.reduceBNe, Int.reduceLT, Int.reduceLE, Int.reduceGT, Int.reduceGE, zT186, zT33, zT31, zT30, zT9, zT3, lenA_lD, hof, callOut_cs, n28, e28, d1, d2, d3, and_8_8, and_8_16, and_8_32, and_8_64, and_8_2, and_8_4, and_8_1]
        (refine Eq.trans ?_ rfl; kernel_rfl)
      | true =>
        rw [h2] at d3
        simp only [Bool.false_and, Bool.true_and, Bool.and_false, Bool.and_true]
        cases h3 : (x.s.toList == emptyS.toList) with
        | false =>
          unfold emptyS at h3
          simp only [Bool.false_and, Bool.true_and, Bool.and_false, Bool.and_true]
          (rw [run_eq]; simp only [stepA, hx, Tryz.func106, Tryz.f106, show retF 106 = false from rfl]; simp only [List.length_cons, List.length_nil, Nat.reduceAdd, Nat.reduceLeDiff, Nat.zero_le, ↓reduceIte, List.zipIdx_cons, List.zipIdx_nil, List.map_cons, List.map_nil])
          simp only [tmV, tmC, dV, sV, bV, iV, Tm.uD] at hof hn ⊢
          simp only [zS, zD, convertA, makeFuncA, Nat.reduceAdd, Nat.reduceSub, Nat.reduceMul, Nat.reduceLT, Nat.reduceLeDiff, Nat.reduceGT, ↓reduceIte, Nat.reduceEqDiff, Nat.reduceBEq, reduceCtorEq, Int.reduceBEq, Int.reduceBNe, Int.reduceLT, Int.reduceLE, Int.reduceGT, Int.reduceGE, zT186, zT33, zT31, zT30, zT9, zT3, lenA_lD, hof, callOut_cs, n28, e28, d1, d2, d3, h3, and_8_8, and_8_16, and_8_32, and_8_64, and_8_2, and_8_4, and_8_1]
          (refine Eq.trans ?_ rfl; kernel_rfl)
        | true =>
          unfold emptyS at h3
          simp only [Bool.false_and, Bool.true_and, Bool.and_false, Bool.and_true]
          cases h4 : decide ((x.l.length : Int) = pq) with
          | false =>
            rw [h4] at d5
            simp only [Bool.false_and, Bool.true_and, Bool.and_false, Bool.and_true]
            (rw [run_eq]; simp only [stepA, hx, Tryz.func106, Tryz.f106, show retF 106 = false from rfl]; simp only [List.length_cons, List.length_nil, Nat.reduceAdd, Nat.reduceLeDiff, Nat.zero_le, ↓reduceIte, List.zipIdx_cons, List.zipIdx_nil, List.map_cons, List.map_nil])
            simp only [tmV, tmC, dV, sV, bV, iV, Tm.uD] at hof hn ⊢
            simp only [zS, zD, convertA, makeFuncA, Nat.reduceAdd, Nat.reduceSub, Nat.reduceMul, Nat.reduceLT, Nat.reduceLeDiff, Nat.reduceGT, ↓reduceIte, Nat.reduceEqDiff, Nat.reduceBEq, reduceCtorEq, Int.reduceBEq, Int.reduceBNe, Int.reduceLT, Int.reduceLE, Int.reduceGT, Int.reduceGE, zT186, zT33, zT31, zT30, zT9, zT3, lenA_lD, hof, callOut_cs, n28, e28, d1, d2, d3, d5, h3, and_8_8, and_8_16, and_8_32, and_8_64, and_8_2, and_8_4, and_8_1]
            (refine Eq.trans ?_ rfl; kernel_rfl)
          | true =>
            rw [h4] at d5
            simp only [Bool.false_and, Bool.true_and, Bool.and_false, Bool.and_true]
            cases a
            all_goals
              (rw [run_eq]; simp only [stepA, hx, Tryz.func106, Tryz.f106, show retF 106 = false from rfl]; simp only [List.length_cons, List.length_nil, Nat.reduceAdd, Nat.reduceLeDiff, Nat.zero_le, ↓reduceIte, List.zipIdx_cons, List.zipIdx_nil, List.map_cons, List.map_nil])
              simp only [tmV, tmC, dV, sV, bV, iV, Tm.uD] at hof hn ha ⊢
              simp only [zS, zD, convertA, makeFuncA, Nat.reduceAdd, Nat.reduceSub, Nat.reduceMul, Nat.reduceLT, Nat.reduceLeDiff, Nat.reduceGT, ↓reduceIte, Nat.reduceEqDiff, Nat.reduceBEq, reduceCtorEq, Int.reduceBEq, Int.reduceBNe, Int.reduceLT, Int.reduceLE, Int.reduceGT, Int.reduceGE, zT186, zT33, zT31, zT30, zT9, zT3, lenA_lD, hof, callOut_cs, n28, e28, d1, d2, d3, d5, h3, ha, and_8_8, and_8_16, and_8_32, and_8_64, and_8_2, and_8_4, and_8_1]
              (refine Eq.trans ?_ rfl; kernel_rfl)
theorem node_5 (hx : ext 106 = none) (x : Tm) (st : ByteArray) (pq : Int) (a : Bool) (hof : run Tryz.prog ext (.call 169 [iV x.op] []) = some (.ret [.agg [.d (.v (.string st)), .d (.v (.int .i64 5)), .d (.v (.int .i64 pq))], bV true] [])) (e28 : (x.op == 28) = false)
    (hn : run Tryz.prog ext (.call 170 [sV x.s] []) = some (.ret [bV (nameOK x.s)] [])) (ha : run Tryz.prog ext (.call 171 [dV x.uD, .c (.fn 172 [] [])] []) = some (.ret [bV a] [])) :
    run Tryz.prog ext (.call 106 [tmV x] []) = some (.ret [bV (nodeG 0 true 0 false pq x (!a))] []) := by
  have n28 : (x.op != 28) = true := by rw [bne, e28]; rfl
  unfold nodeG
  have d1 := dlt x.n 0
  have d2 := dgt x.n 0
  have d3 := dgt (x.u.length : Int) 8
  have d5 := dne (x.l.length : Int) pq
  simp only [if_true, if_false, Bool.false_eq_true, reduceCtorEq]
  cases h0 : decide (0 ≤ x.n) with
  | false =>
    rw [h0] at d1
    simp only [Bool.false_and, Bool.true_and, Bool.and_false, Bool.and_true]
    (rw [run_eq]; simp only [stepA, hx, Tryz.func106, Tryz.f106, show retF 106 = false from rfl]; simp only [List.length_cons, List.length_nil, Nat.reduceAdd, Nat.reduceLeDiff, Nat.zero_le, ↓reduceIte, List.zipIdx_cons, List.zipIdx_nil, List.map_cons, List.map_nil])
    simp only [tmV, tmC, dV, sV, bV, iV, Tm.uD] at hof hn ⊢
    simp only [zS, zD, convertA, makeFuncA, Nat.reduceAdd, Nat.reduceSub, Nat.reduceMul, Nat.reduceLT, Nat.reduceLeDiff, Nat.reduceGT, ↓reduceIte, Nat.reduceEqDiff, Nat.reduceBEq, reduceCtorEq, Int.reduceBEq, Int.reduceBNe, Int.reduceLT, Int.reduceLE, Int.reduceGT, Int.reduceGE, zT186, zT33, zT31, zT30, zT9, zT3, lenA_lD, hof, callOut_cs, n28, e28, d1, and_5_8, and_5_16, and_5_32, and_5_64, and_5_2, and_5_4, and_5_1]
    (refine Eq.trans ?_ rfl; kernel_rfl)
  | true =>
    rw [h0] at d1
    simp only [Bool.false_and, Bool.true_and, Bool.and_false, Bool.and_true]
    cases h1 : decide (x.n ≤ 0) with
    | false =>
      rw [h1] at d2
      simp only [Bool.false_and, Bool.true_and, Bool.and_false, Bool.and_true]
      (rw [run_eq]; simp only [stepA, hx, Tryz.func106, Tryz.f106, show retF 106 = false from rfl]; simp only [List.length_cons, List.length_nil, Nat.reduceAdd, Nat.reduceLeDiff, Nat.zero_le, ↓reduceIte, List.zipIdx_cons, List.zipIdx_nil, List.map_cons, List.map_nil])
      simp only [tmV, tmC, dV, sV, bV, iV, Tm.uD] at hof hn ⊢
      simp only [zS, zD, convertA, makeFuncA, Nat.reduceAdd, Nat.reduceSub, Nat.reduceMul, Nat.reduceLT, Nat.reduceLeDiff, Nat.reduceGT, ↓reduceIte, Nat.reduceEqDiff, Nat.reduceBEq, reduceCtorEq, Int.reduceBEq, Int.reduceBNe, Int.reduceLT, Int.reduceLE, Int.reduceGT, Int.reduceGE, zT186, zT33, zT31, zT30, zT9, zT3, lenA_lD, hof, callOut_cs, n28, e28, d1, d2, and_5_8, and_5_16, and_5_32, and_5_64, and_5_2, and_5_4, and_5_1]
      (refine Eq.trans ?_ rfl; kernel_rfl)
    | true =>
      rw [h1] at d2
      simp only [Bool.false_and, Bool.true_and, Bool.and_false, Bool.and_true]
      cases h2 : decide ((x.u.length : Int) ≤ 8) with
      | false =>
        rw [h2] at d3
        simp only [Bool.false_and, Bool.true_and, Bool.and_false, Bool.and_true]
        (rw [run_eq]; simp only [stepA, hx, Tryz.func106, Tryz.f106, show retF 106 = false from rfl]; simp only [List.length_cons, List.length_nil, Nat.reduceAdd, Nat.reduceLeDiff, Nat.zero_le, ↓reduceIte, List.zipIdx_cons, List.zipIdx_nil, List.map_cons, List.map_nil])
        simp only [tmV, tmC, dV, sV, bV, iV, Tm.uD] at hof hn ⊢
        simp only [zS, zD, convertA, makeFuncA, Nat.reduceAdd, Nat.reduceSub, Nat.reduceMul, Nat.reduceLT, Nat.reduceLeDiff, Nat.reduceGT, ↓reduceIte, Nat.reduceEqDiff, Nat.reduceBEq, reduceCtorEq, Int.reduceBEq, Int.reduceBNe, Int.reduceLT, Int.reduceLE, Int.reduceGT, Int.reduceGE, zT186, zT33, zT31, zT30, zT9, zT3, lenA_lD, hof, callOut_cs, n28, e28, d1, d2, d3, and_5_8, and_5_16, and_5_32, and_5_64, and_5_2, and_5_4, and_5_1]
        (refine Eq.trans ?_ rfl; kernel_rfl)
      | true =>
        rw [h2] at d3
        simp only [Bool.false_and, Bool.true_and, Bool.and_false, Bool.and_true]
        cases h3 : nameOK x.s with
        | false =>
          rw [h3] at hn
          simp only [Bool.false_and, Bool.true_and, Bool.and_false, Bool.and_true]
          (rw [run_eq]; simp only [stepA, hx, Tryz.func106, Tryz.f106, show retF 106 = false from rfl]; simp only [List.length_cons, List.length_nil, Nat.reduceAdd, Nat.reduceLeDiff, Nat.zero_le, ↓reduceIte, List.zipIdx_cons, List.zipIdx_nil, List.map_cons, List.map_nil])
          simp only [tmV, tmC, dV, sV, bV, iV, Tm.uD] at hof hn ⊢
          simp only [zS, zD, convertA, makeFuncA, Nat.reduceAdd, Nat.reduceSub, Nat.reduceMul, Nat.reduceLT, Nat.reduceLeDiff, Nat.reduceGT, ↓reduceIte, Nat.reduceEqDiff, Nat.reduceBEq, reduceCtorEq, Int.reduceBEq, Int.reduceBNe, Int.reduceLT, Int.reduceLE, Int.reduceGT, Int.reduceGE, zT186, zT33, zT31, zT30, zT9, zT3, lenA_lD, hof, callOut_cs, n28, e28, d1, d2, d3, hn, and_5_8, and_5_16, and_5_32, and_5_64, and_5_2, and_5_4, and_5_1]
          (refine Eq.trans ?_ rfl; kernel_rfl)
        | true =>
          rw [h3] at hn
          simp only [Bool.false_and, Bool.true_and, Bool.and_false, Bool.and_true]
          cases h4 : decide ((x.l.length : Int) = pq) with
          | false =>
            rw [h4] at d5
            simp only [Bool.false_and, Bool.true_and, Bool.and_false, Bool.and_true]
            (rw [run_eq]; simp only [stepA, hx, Tryz.func106, Tryz.f106, show retF 106 = false from rfl]; simp only [List.length_cons, List.length_nil, Nat.reduceAdd, Nat.reduceLeDiff, Nat.zero_le, ↓reduceIte, List.zipIdx_cons, List.zipIdx_nil, List.map_cons, List.map_nil])
            simp only [tmV, tmC, dV, sV, bV, iV, Tm.uD] at hof hn ⊢
            simp only [zS, zD, convertA, makeFuncA, Nat.reduceAdd, Nat.reduceSub, Nat.reduceMul, Nat.reduceLT, Nat.reduceLeDiff, Nat.reduceGT, ↓reduceIte, Nat.reduceEqDiff, Nat.reduceBEq, reduceCtorEq, Int.reduceBEq, Int.reduceBNe, Int.reduceLT, Int.reduceLE, Int.reduceGT, Int.reduceGE, zT186, zT33, zT31, zT30, zT9, zT3, lenA_lD, hof, callOut_cs, n28, e28, d1, d2, d3, d5, hn, and_5_8, and_5_16, and_5_32, and_5_64, and_5_2, and_5_4, and_5_1]
            (refine Eq.trans ?_ rfl; kernel_rfl)
          | true =>
            rw [h4] at d5
            simp only [Bool.false_and, Bool.true_and, Bool.and_false, Bool.and_true]
            cases a
            all_goals
              (rw [run_eq]; simp only [stepA, hx, Tryz.func106, Tryz.f106, show retF 106 = false from rfl]; simp only [List.length_cons, List.length_nil, Nat.reduceAdd, Nat.reduceLeDiff, Nat.zero_le, ↓reduceIte, List.zipIdx_cons, List.zipIdx_nil, List.map_cons, List.map_nil])
              simp only [tmV, tmC, dV, sV, bV, iV, Tm.uD] at hof hn ha ⊢
              simp only [zS, zD, convertA, makeFuncA, Nat.reduceAdd, Nat.reduceSub, Nat.reduceMul, Nat.reduceLT, Nat.reduceLeDiff, Nat.reduceGT, ↓reduceIte, Nat.reduceEqDiff, Nat.reduceBEq, reduceCtorEq, Int.reduceBEq, Int.reduceBNe, Int.reduceLT, Int.reduceLE, Int.reduceGT, Int.reduceGE, zT186, zT33, zT31, zT30, zT9, zT3, lenA_lD, hof, callOut_cs, n28, e28, d1, d2, d3, d5, hn, ha, and_5_8, and_5_16, and_5_32, and_5_64, and_5_2, and_5_4, and_5_1]
              (refine Eq.trans ?_ rfl; kernel_rfl)
theorem node_2 (hx : ext 106 = none) (x : Tm) (st : ByteArray) (pq : Int) (a : Bool) (hof : run Tryz.prog ext (.call 169 [iV x.op] []) = some (.ret [.agg [.d (.v (.string st)), .d (.v (.int .i64 2)), .d (.v (.int .i64 pq))], bV true] [])) (e28 : (x.op == 28) = false)
    (hn : run Tryz.prog ext (.call 170 [sV x.s] []) = some (.ret [bV (nameOK x.s)] [])) (ha : run Tryz.prog ext (.call 171 [dV x.uD, .c (.fn 172 [] [])] []) = some (.ret [bV a] [])) :
    run Tryz.prog ext (.call 106 [tmV x] []) = some (.ret [bV (nodeG 0 false 1 false pq x (!a))] []) := by
  have n28 : (x.op != 28) = true := by rw [bne, e28]; rfl
  unfold nodeG
  have d1 := dlt x.n 0
  have d2 := dgt x.n 0
  have d3 := dne (x.u.length : Int) 1
  have d5 := dne (x.l.length : Int) pq
  simp only [if_true, if_false, Bool.false_eq_true, reduceCtorEq]
  cases h0 : decide (0 ≤ x.n) with
  | false =>
    rw [h0] at d1
    simp only [Bool.false_and, Bool.true_and, Bool.and_false, Bool.and_true]
    (rw [run_eq]; simp only [stepA, hx, Tryz.func106, Tryz.f106, show retF 106 = false from rfl]; simp only [List.length_cons, List.length_nil, Nat.reduceAdd, Nat.reduceLeDiff, Nat.zero_le, ↓reduceIte, List.zipIdx_cons, List.zipIdx_nil, List.map_cons, List.map_nil])
    simp only [tmV, tmC, dV, sV, bV, iV, Tm.uD] at hof hn ⊢
    simp only [zS, zD, convertA, makeFuncA, Nat.reduceAdd, Nat.reduceSub, Nat.reduceMul, Nat.reduceLT, Nat.reduceLeDiff, Nat.reduceGT, ↓reduceIte, Nat.reduceEqDiff, Nat.reduceBEq, reduceCtorEq, Int.reduceBEq, Int.reduceBNe, Int.reduceLT, Int.reduceLE, Int.reduceGT, Int.reduceGE, zT186, zT33, zT31, zT30, zT9, zT3, lenA_lD, hof, callOut_cs, n28, e28, d1, and_2_8, and_2_16, and_2_32, and_2_64, and_2_2, and_2_4, and_2_1]
    (refine Eq.trans ?_ rfl; kernel_rfl)
  | true =>
    rw [h0] at d1
    simp only [Bool.false_and, Bool.true_and, Bool.and_false, Bool.and_true]
    cases h1 : decide (x.n ≤ 0) with
    | false =>
      rw [h1] at d2
      simp only [Bool.false_and, Bool.true_and, Bool.and_false, Bool.and_true]
      (rw [run_eq]; simp only [stepA, hx, Tryz.func106, Tryz.f106, show retF 106 = false from rfl]; simp only [List.length_cons, List.length_nil, Nat.reduceAdd, Nat.reduceLeDiff, Nat.zero_le, ↓reduceIte, List.zipIdx_cons, List.zipIdx_nil, List.map_cons, List.map_nil])
      simp only [tmV, tmC, dV, sV, bV, iV, Tm.uD] at hof hn ⊢
      simp only [zS, zD, convertA, makeFuncA, Nat.reduceAdd, Nat.reduceSub, Nat.reduceMul, Nat.reduceLT, Nat.reduceLeDiff, Nat.reduceGT, ↓reduceIte, Nat.reduceEqDiff, Nat.reduceBEq, reduceCtorEq, Int.reduceBEq, Int.reduceBNe, Int.reduceLT, Int.reduceLE, Int.reduceGT, Int.reduceGE, zT186, zT33, zT31, zT30, zT9, zT3, lenA_lD, hof, callOut_cs, n28, e28, d1, d2, and_2_8, and_2_16, and_2_32, and_2_64, and_2_2, and_2_4, and_2_1]
      (refine Eq.trans ?_ rfl; kernel_rfl)
    | true =>
      rw [h1] at d2
      simp only [Bool.false_and, Bool.true_and, Bool.and_false, Bool.and_true]
      cases h2 : decide ((x.u.length : Int) = 1) with
      | false =>
        rw [h2] at d3
        simp only [Bool.false_and, Bool.true_and, Bool.and_false, Bool.and_true]
        (rw [run_eq]; simp only [stepA, hx, Tryz.func106, Tryz.f106, show retF 106 = false from rfl]; simp only [List.length_cons, List.length_nil, Nat.reduceAdd, Nat.reduceLeDiff, Nat.zero_le, ↓reduceIte, List.zipIdx_cons, List.zipIdx_nil, List.map_cons, List.map_nil])
        simp only [tmV, tmC, dV, sV, bV, iV, Tm.uD] at hof hn ⊢
        simp only [zS, zD, convertA, makeFuncA, Nat.reduceAdd, Nat.reduceSub, Nat.reduceMul, Nat.reduceLT, Nat.reduceLeDiff, Nat.reduceGT, ↓reduceIte, Nat.reduceEqDiff, Nat.reduceBEq, reduceCtorEq, Int.reduceBEq, Int.reduceBNe, Int.reduceLT, Int.reduceLE, Int.reduceGT, Int.reduceGE, zT186, zT33, zT31, zT30, zT9, zT3, lenA_lD, hof, callOut_cs, n28, e28, d1, d2, d3, and_2_8, and_2_16, and_2_32, and_2_64, and_2_2, and_2_4, and_2_1]
        (refine Eq.trans ?_ rfl; kernel_rfl)
      | true =>
        rw [h2] at d3
        simp only [Bool.false_and, Bool.true_and, Bool.and_false, Bool.and_true]
        cases h3 : (x.s.toList == emptyS.toList) with
        | false =>
          unfold emptyS at h3
          simp only [Bool.false_and, Bool.true_and, Bool.and_false, Bool.and_true]
          (rw [run_eq]; simp only [stepA, hx, Tryz.func106, Tryz.f106, show retF 106 = false from rfl]; simp only [List.length_cons, List.length_nil, Nat.reduceAdd, Nat.reduceLeDiff, Nat.zero_le, ↓reduceIte, List.zipIdx_cons, List.zipIdx_nil, List.map_cons, List.map_nil])
          simp only [tmV, tmC, dV, sV, bV, iV, Tm.uD] at hof hn ⊢
          simp only [zS, zD, convertA, makeFuncA, Nat.reduceAdd, Nat.reduceSub, Nat.reduceMul, Nat.reduceLT, Nat.reduceLeDiff, Nat.reduceGT, ↓reduceIte, Nat.reduceEqDiff, Nat.reduceBEq, reduceCtorEq, Int.reduceBEq, Int.reduceBNe, Int.reduceLT, Int.reduceLE, Int.reduceGT, Int.reduceGE, zT186, zT33, zT31, zT30, zT9, zT3, lenA_lD, hof, callOut_cs, n28, e28, d1, d2, d3, h3, and_2_8, and_2_16, and_2_32, and_2_64, and_2_2, and_2_4, and_2_1]
          (refine Eq.trans ?_ rfl; kernel_rfl)
        | true =>
          unfold emptyS at h3
          simp only [Bool.false_and, Bool.true_and, Bool.and_false, Bool.and_true]
          cases h4 : decide ((x.l.length : Int) = pq) with
          | false =>
            rw [h4] at d5
            simp only [Bool.false_and, Bool.true_and, Bool.and_false, Bool.and_true]
            (rw [run_eq]; simp only [stepA, hx, Tryz.func106, Tryz.f106, show retF 106 = false from rfl]; simp only [List.length_cons, List.length_nil, Nat.reduceAdd, Nat.reduceLeDiff, Nat.zero_le, ↓reduceIte, List.zipIdx_cons, List.zipIdx_nil, List.map_cons, List.map_nil])
            simp only [tmV, tmC, dV, sV, bV, iV, Tm.uD] at hof hn ⊢
            simp only [zS, zD, convertA, makeFuncA, Nat.reduceAdd, Nat.reduceSub, Nat.reduceMul, Nat.reduceLT, Nat.reduceLeDiff, Nat.reduceGT, ↓reduceIte, Nat.reduceEqDiff, Nat.reduceBEq, reduceCtorEq, Int.reduceBEq, Int.reduceBNe, Int.reduceLT, Int.reduceLE, Int.reduceGT, Int.reduceGE, zT186, zT33, zT31, zT30, zT9, zT3, lenA_lD, hof, callOut_cs, n28, e28, d1, d2, d3, d5, h3, and_2_8, and_2_16, and_2_32, and_2_64, and_2_2, and_2_4, and_2_1]
            (refine Eq.trans ?_ rfl; kernel_rfl)
          | true =>
            rw [h4] at d5
            simp only [Bool.false_and, Bool.true_and, Bool.and_false, Bool.and_true]
            cases a
            all_goals
              (rw [run_eq]; simp only [stepA, hx, Tryz.func106, Tryz.f106, show retF 106 = false from rfl]; simp only [List.length_cons, List.length_nil, Nat.reduceAdd, Nat.reduceLeDiff, Nat.zero_le, ↓reduceIte, List.zipIdx_cons, List.zipIdx_nil, List.map_cons, List.map_nil])
              simp only [tmV, tmC, dV, sV, bV, iV, Tm.uD] at hof hn ha ⊢
              simp only [zS, zD, convertA, makeFuncA, Nat.reduceAdd, Nat.reduceSub, Nat.reduceMul, Nat.reduceLT, Nat.reduceLeDiff, Nat.reduceGT, ↓reduceIte, Nat.reduceEqDiff, Nat.reduceBEq, reduceCtorEq, Int.reduceBEq, Int.reduceBNe, Int.reduceLT, Int.reduceLE, Int.reduceGT, Int.reduceGE, zT186, zT33, zT31, zT30, zT9, zT3, lenA_lD, hof, callOut_cs, n28, e28, d1, d2, d3, d5, h3, ha, and_2_8, and_2_16, and_2_32, and_2_64, and_2_2, and_2_4, and_2_1]
              (refine Eq.trans ?_ rfl; kernel_rfl)
theorem node_0 (hx : ext 106 = none) (x : Tm) (st : ByteArray) (pq : Int) (a : Bool) (hof : run Tryz.prog ext (.call 169 [iV x.op] []) = some (.ret [.agg [.d (.v (.string st)), .d (.v (.int .i64 0)), .d (.v (.int .i64 pq))], bV true] [])) (e28 : (x.op == 28) = false)
    (hn : run Tryz.prog ext (.call 170 [sV x.s] []) = some (.ret [bV (nameOK x.s)] [])) (ha : run Tryz.prog ext (.call 171 [dV x.uD, .c (.fn 172 [] [])] []) = some (.ret [bV a] [])) :
    run Tryz.prog ext (.call 106 [tmV x] []) = some (.ret [bV (nodeG 0 false 0 false pq x (!a))] []) := by
  have n28 : (x.op != 28) = true := by rw [bne, e28]; rfl
  unfold nodeG
  have d1 := dlt x.n 0
  have d2 := dgt x.n 0
  have d3 := dne (x.u.length : Int) 0
  have d5 := dne (x.l.length : Int) pq
  simp only [if_true, if_false, Bool.false_eq_true, reduceCtorEq]
  cases h0 : decide (0 ≤ x.n) with
  | false =>
    rw [h0] at d1
    simp only [Bool.false_and, Bool.true_and, Bool.and_false, Bool.and_true]
    (rw [run_eq]; simp only [stepA, hx, Tryz.func106, Tryz.f106, show retF 106 = false from rfl]; simp only [List.length_cons, List.length_nil, Nat.reduceAdd, Nat.reduceLeDiff, Nat.zero_le, ↓reduceIte, List.zipIdx_cons, List.zipIdx_nil, List.map_cons, List.map_nil])
    simp only [tmV, tmC, dV, sV, bV, iV, Tm.uD] at hof hn ⊢
    simp only [zS, zD, convertA, makeFuncA, Nat.reduceAdd, Nat.reduceSub, Nat.reduceMul, Nat.reduceLT, Nat.reduceLeDiff, Nat.reduceGT, ↓reduceIte, Nat.reduceEqDiff, Nat.reduceBEq, reduceCtorEq, Int.reduceBEq, Int.reduceBNe, Int.reduceLT, Int.reduceLE, Int.reduceGT, Int.reduceGE, zT186, zT33, zT31, zT30, zT9, zT3, lenA_lD, hof, callOut_cs, n28, e28, d1, and_0_8, and_0_16, and_0_32, and_0_64, and_0_2, and_0_4, and_0_1]
    (refine Eq.trans ?_ rfl; kernel_rfl)
  | true =>
    rw [h0] at d1
    simp only [Bool.false_and, Bool.true_and, Bool.and_false, Bool.and_true]
    cases h1 : decide (x.n ≤ 0) with
    | false =>
      rw [h1] at d2
      simp only [Bool.false_and, Bool.true_and, Bool.and_false, Bool.and_true]
      (rw [run_eq]; simp only [stepA, hx, Tryz.func106, Tryz.f106, show retF 106 = false from rfl]; simp only [List.length_cons, List.length_nil, Nat.reduceAdd, Nat.reduceLeDiff, Nat.zero_le, ↓reduceIte, List.zipIdx_cons, List.zipIdx_nil, List.map_cons, List.map_nil])
      simp only [tmV, tmC, dV, sV, bV, iV, Tm.uD] at hof hn ⊢
      simp only [zS, zD, convertA, makeFuncA, Nat.reduceAdd, Nat.reduceSub, Nat.reduceMul, Nat.reduceLT, Nat.reduceLeDiff, Nat.reduceGT, ↓reduceIte, Nat.reduceEqDiff, Nat.reduceBEq, reduceCtorEq, Int.reduceBEq, Int.reduceBNe, Int.reduceLT, Int.reduceLE, Int.reduceGT, Int.reduceGE, zT186, zT33, zT31, zT30, zT9, zT3, lenA_lD, hof, callOut_cs, n28, e28, d1, d2, and_0_8, and_0_16, and_0_32, and_0_64, and_0_2, and_0_4, and_0_1]
      (refine Eq.trans ?_ rfl; kernel_rfl)
    | true =>
      rw [h1] at d2
      simp only [Bool.false_and, Bool.true_and, Bool.and_false, Bool.and_true]
      cases h2 : decide ((x.u.length : Int) = 0) with
      | false =>
        rw [h2] at d3
        simp only [Bool.false_and, Bool.true_and, Bool.and_false, Bool.and_true]
        (rw [run_eq]; simp only [stepA, hx, Tryz.func106, Tryz.f106, show retF 106 = false from rfl]; simp only [List.length_cons, List.length_nil, Nat.reduceAdd, Nat.reduceLeDiff, Nat.zero_le, ↓reduceIte, List.zipIdx_cons, List.zipIdx_nil, List.map_cons, List.map_nil])
        simp only [tmV, tmC, dV, sV, bV, iV, Tm.uD] at hof hn ⊢
        simp only [zS, zD, convertA, makeFuncA, Nat.reduceAdd, Nat.reduceSub, Nat.reduceMul, Nat.reduceLT, Nat.reduceLeDiff, Nat.reduceGT, ↓reduceIte, Nat.reduceEqDiff, Nat.reduceBEq, reduceCtorEq, Int.reduceBEq, Int.reduceBNe, Int.reduceLT, Int.reduceLE, Int.reduceGT, Int.reduceGE, zT186, zT33, zT31, zT30, zT9, zT3, lenA_lD, hof, callOut_cs, n28, e28, d1, d2, d3, and_0_8, and_0_16, and_0_32, and_0_64, and_0_2, and_0_4, and_0_1]
        (refine Eq.trans ?_ rfl; kernel_rfl)
      | true =>
        rw [h2] at d3
        simp only [Bool.false_and, Bool.true_and, Bool.and_false, Bool.and_true]
        cases h3 : (x.s.toList == emptyS.toList) with
        | false =>
          unfold emptyS at h3
          simp only [Bool.false_and, Bool.true_and, Bool.and_false, Bool.and_true]
          (rw [run_eq]; simp only [stepA, hx, Tryz.func106, Tryz.f106, show retF 106 = false from rfl]; simp only [List.length_cons, List.length_nil, Nat.reduceAdd, Nat.reduceLeDiff, Nat.zero_le, ↓reduceIte, List.zipIdx_cons, List.zipIdx_nil, List.map_cons, List.map_nil])
          simp only [tmV, tmC, dV, sV, bV, iV, Tm.uD] at hof hn ⊢
          simp only [zS, zD, convertA, makeFuncA, Nat.reduceAdd, Nat.reduceSub, Nat.reduceMul, Nat.reduceLT, Nat.reduceLeDiff, Nat.reduceGT, ↓reduceIte, Nat.reduceEqDiff, Nat.reduceBEq, reduceCtorEq, Int.reduceBEq, Int.reduceBNe, Int.reduceLT, Int.reduceLE, Int.reduceGT, Int.reduceGE, zT186, zT33, zT31, zT30, zT9, zT3, lenA_lD, hof, callOut_cs, n28, e28, d1, d2, d3, h3, and_0_8, and_0_16, and_0_32, and_0_64, and_0_2, and_0_4, and_0_1]
          (refine Eq.trans ?_ rfl; kernel_rfl)
        | true =>
          unfold emptyS at h3
          simp only [Bool.false_and, Bool.true_and, Bool.and_false, Bool.and_true]
          cases h4 : decide ((x.l.length : Int) = pq) with
          | false =>
            rw [h4] at d5
            simp only [Bool.false_and, Bool.true_and, Bool.and_false, Bool.and_true]
            (rw [run_eq]; simp only [stepA, hx, Tryz.func106, Tryz.f106, show retF 106 = false from rfl]; simp only [List.length_cons, List.length_nil, Nat.reduceAdd, Nat.reduceLeDiff, Nat.zero_le, ↓reduceIte, List.zipIdx_cons, List.zipIdx_nil, List.map_cons, List.map_nil])
            simp only [tmV, tmC, dV, sV, bV, iV, Tm.uD] at hof hn ⊢
            simp only [zS, zD, convertA, makeFuncA, Nat.reduceAdd, Nat.reduceSub, Nat.reduceMul, Nat.reduceLT, Nat.reduceLeDiff, Nat.reduceGT, ↓reduceIte, Nat.reduceEqDiff, Nat.reduceBEq, reduceCtorEq, Int.reduceBEq, Int.reduceBNe, Int.reduceLT, Int.reduceLE, Int.reduceGT, Int.reduceGE, zT186, zT33, zT31, zT30, zT9, zT3, lenA_lD, hof, callOut_cs, n28, e28, d1, d2, d3, d5, h3, and_0_8, and_0_16, and_0_32, and_0_64, and_0_2, and_0_4, and_0_1]
            (refine Eq.trans ?_ rfl; kernel_rfl)
          | true =>
            rw [h4] at d5
            simp only [Bool.false_and, Bool.true_and, Bool.and_false, Bool.and_true]
            cases a
            all_goals
              (rw [run_eq]; simp only [stepA, hx, Tryz.func106, Tryz.f106, show retF 106 = false from rfl]; simp only [List.length_cons, List.length_nil, Nat.reduceAdd, Nat.reduceLeDiff, Nat.zero_le, ↓reduceIte, List.zipIdx_cons, List.zipIdx_nil, List.map_cons, List.map_nil])
              simp only [tmV, tmC, dV, sV, bV, iV, Tm.uD] at hof hn ha ⊢
              simp only [zS, zD, convertA, makeFuncA, Nat.reduceAdd, Nat.reduceSub, Nat.reduceMul, Nat.reduceLT, Nat.reduceLeDiff, Nat.reduceGT, ↓reduceIte, Nat.reduceEqDiff, Nat.reduceBEq, reduceCtorEq, Int.reduceBEq, Int.reduceBNe, Int.reduceLT, Int.reduceLE, Int.reduceGT, Int.reduceGE, zT186, zT33, zT31, zT30, zT9, zT3, lenA_lD, hof, callOut_cs, n28, e28, d1, d2, d3, d5, h3, ha, and_0_8, and_0_16, and_0_32, and_0_64, and_0_2, and_0_4, and_0_1]
              (refine Eq.trans ?_ rfl; kernel_rfl)
theorem node_64 (hx : ext 106 = none) (x : Tm) (st : ByteArray) (pq : Int) (a : Bool) (hof : run Tryz.prog ext (.call 169 [iV x.op] []) = some (.ret [.agg [.d (.v (.string st)), .d (.v (.int .i64 64)), .d (.v (.int .i64 pq))], bV true] [])) (e28 : (x.op == 28) = false)
    (hn : run Tryz.prog ext (.call 170 [sV x.s] []) = some (.ret [bV (nameOK x.s)] [])) (ha : run Tryz.prog ext (.call 171 [dV x.uD, .c (.fn 172 [] [])] []) = some (.ret [bV a] [])) :
    run Tryz.prog ext (.call 106 [tmV x] []) = some (.ret [bV (nodeG 3 false 0 false pq x (!a))] []) := by
  have n28 : (x.op != 28) = true := by rw [bne, e28]; rfl
  unfold nodeG
  have d1 := dlt x.n 0
  have d2 := dgt x.n 3
  have d3 := dne (x.u.length : Int) 0
  have d5 := dne (x.l.length : Int) pq
  simp only [if_true, if_false, Bool.false_eq_true, reduceCtorEq]
  cases h0 : decide (0 ≤ x.n) with
  | false =>
    rw [h0] at d1
    simp only [Bool.false_and, Bool.true_and, Bool.and_false, Bool.and_true]
    (rw [run_eq]; simp only [stepA, hx, Tryz.func106, Tryz.f106, show retF 106 = false from rfl]; simp only [List.length_cons, List.length_nil, Nat.reduceAdd, Nat.reduceLeDiff, Nat.zero_le, ↓reduceIte, List.zipIdx_cons, List.zipIdx_nil, List.map_cons, List.map_nil])
    simp only [tmV, tmC, dV, sV, bV, iV, Tm.uD] at hof hn ⊢
    simp only [zS, zD, convertA, makeFuncA, Nat.reduceAdd, Nat.reduceSub, Nat.reduceMul, Nat.reduceLT, Nat.reduceLeDiff, Nat.reduceGT, ↓reduceIte, Nat.reduceEqDiff, Nat.reduceBEq, reduceCtorEq, Int.reduceBEq, Int.reduceBNe, Int.reduceLT, Int.reduceLE, Int.reduceGT, Int.reduceGE, zT186, zT33, zT31, zT30, zT9, zT3, lenA_lD, hof, callOut_cs, n28, e28, d1, and_64_8, and_64_16, and_64_32, and_64_64, and_64_2, and_64_4, and_64_1]
    (refine Eq.trans ?_ rfl; kernel_rfl)
  | true =>
    rw [h0] at d1
    simp only [Bool.false_and, Bool.true_and, Bool.and_false, Bool.and_true]
    cases h1 : decide (x.n ≤ 3) with
    | false =>
      rw [h1] at d2
      simp only [Bool.false_and, Bool.true_and, Bool.and_false, Bool.and_true]
      (rw [run_eq]; simp only [stepA, hx, Tryz.func106, Tryz.f106, show retF 106 = false from rfl]; simp only [List.length_cons, List.length_nil, Nat.reduceAdd, Nat.reduceLeDiff, Nat.zero_le, ↓reduceIte, List.zipIdx_cons, List.zipIdx_nil, List.map_cons, List.map_nil])
      simp only [tmV, tmC, dV, sV, bV, iV, Tm.uD] at hof hn ⊢
      simp only [zS, zD, convertA, makeFuncA, Nat.reduceAdd, Nat.reduceSub, Nat.reduceMul, Nat.reduceLT, Nat.reduceLeDiff, Nat.reduceGT, ↓reduceIte, Nat.reduceEqDiff, Nat.reduceBEq, reduceCtorEq, Int.reduceBEq, Int.reduceBNe, Int.reduceLT, Int.reduceLE, Int.reduceGT, Int.reduceGE, zT186, zT33, zT31, zT30, zT9, zT3, lenA_lD, hof, callOut_cs, n28, e28, d1, d2, and_64_8, and_64_16, and_64_32, and_64_64, and_64_2, and_64_4, and_64_1]
      (refine Eq.trans ?_ rfl; kernel_rfl)
    | true =>
      rw [h1] at d2
      simp only [Bool.false_and, Bool.true_and, Bool.and_false, Bool.and_true]
      cases h2 : decide ((x.u.length : Int) = 0) with
      | false =>
        rw [h2] at d3
        simp only [Bool.false_and, Bool.true_and, Bool.and_false, Bool.and_true]
        (rw [run_eq]; simp only [stepA, hx, Tryz.func106, Tryz.f106, show retF 106 = false from rfl]; simp only [List.length_cons, List.length_nil, Nat.reduceAdd, Nat.reduceLeDiff, Nat.zero_le, ↓reduceIte, List.zipIdx_cons, List.zipIdx_nil, List.map_cons, List.map_nil])
        simp only [tmV, tmC, dV, sV, bV, iV, Tm.uD] at hof hn ⊢
        simp only [zS, zD, convertA, makeFuncA, Nat.reduceAdd, Nat.reduceSub, Nat.reduceMul, Nat.reduceLT, Nat.reduceLeDiff, Nat.reduceGT, ↓reduceIte, Nat.reduceEqDiff, Nat.reduceBEq, reduceCtorEq, Int.reduceBEq, Int.reduceBNe, Int.reduceLT, Int.reduceLE, Int.reduceGT, Int.reduceGE, zT186, zT33, zT31, zT30, zT9, zT3, lenA_lD, hof, callOut_cs, n28, e28, d1, d2, d3, and_64_8, and_64_16, and_64_32, and_64_64, and_64_2, and_64_4, and_64_1]
        (refine Eq.trans ?_ rfl; kernel_rfl)
      | true =>
        rw [h2] at d3
        simp only [Bool.false_and, Bool.true_and, Bool.and_false, Bool.and_true]
        cases h3 : (x.s.toList == emptyS.toList) with
        | false =>
          unfold emptyS at h3
          simp only [Bool.false_and, Bool.true_and, Bool.and_false, Bool.and_true]
          (rw [run_eq]; simp only [stepA, hx, Tryz.func106, Tryz.f106, show retF 106 = false from rfl]; simp only [List.length_cons, List.length_nil, Nat.reduceAdd, Nat.reduceLeDiff, Nat.zero_le, ↓reduceIte, List.zipIdx_cons, List.zipIdx_nil, List.map_cons, List.map_nil])
          simp only [tmV, tmC, dV, sV, bV, iV, Tm.uD] at hof hn ⊢
          simp only [zS, zD, convertA, makeFuncA, Nat.reduceAdd, Nat.reduceSub, Nat.reduceMul, Nat.reduceLT, Nat.reduceLeDiff, Nat.reduceGT, ↓reduceIte, Nat.reduceEqDiff, Nat.reduceBEq, reduceCtorEq, Int.reduceBEq, Int.reduceBNe, Int.reduceLT, Int.reduceLE, Int.reduceGT, Int.reduceGE, zT186, zT33, zT31, zT30, zT9, zT3, lenA_lD, hof, callOut_cs, n28, e28, d1, d2, d3, h3, and_64_8, and_64_16, and_64_32, and_64_64, and_64_2, and_64_4, and_64_1]
          (refine Eq.trans ?_ rfl; kernel_rfl)
        | true =>
          unfold emptyS at h3
          simp only [Bool.false_and, Bool.true_and, Bool.and_false, Bool.and_true]
          cases h4 : decide ((x.l.length : Int) = pq) with
          | false =>
            rw [h4] at d5
            simp only [Bool.false_and, Bool.true_and, Bool.and_false, Bool.and_true]
            (rw [run_eq]; simp only [stepA, hx, Tryz.func106, Tryz.f106, show retF 106 = false from rfl]; simp only [List.length_cons, List.length_nil, Nat.reduceAdd, Nat.reduceLeDiff, Nat.zero_le, ↓reduceIte, List.zipIdx_cons, List.zipIdx_nil, List.map_cons, List.map_nil])
            simp only [tmV, tmC, dV, sV, bV, iV, Tm.uD] at hof hn ⊢
            simp only [zS, zD, convertA, makeFuncA, Nat.reduceAdd, Nat.reduceSub, Nat.reduceMul, Nat.reduceLT, Nat.reduceLeDiff, Nat.reduceGT, ↓reduceIte, Nat.reduceEqDiff, Nat.reduceBEq, reduceCtorEq, Int.reduceBEq, Int.reduceBNe, Int.reduceLT, Int.reduceLE, Int.reduceGT, Int.reduceGE, zT186, zT33, zT31, zT30, zT9, zT3, lenA_lD, hof, callOut_cs, n28, e28, d1, d2, d3, d5, h3, and_64_8, and_64_16, and_64_32, and_64_64, and_64_2, and_64_4, and_64_1]
            (refine Eq.trans ?_ rfl; kernel_rfl)
          | true =>
            rw [h4] at d5
            simp only [Bool.false_and, Bool.true_and, Bool.and_false, Bool.and_true]
            cases a
            all_goals
              (rw [run_eq]; simp only [stepA, hx, Tryz.func106, Tryz.f106, show retF 106 = false from rfl]; simp only [List.length_cons, List.length_nil, Nat.reduceAdd, Nat.reduceLeDiff, Nat.zero_le, ↓reduceIte, List.zipIdx_cons, List.zipIdx_nil, List.map_cons, List.map_nil])
              simp only [tmV, tmC, dV, sV, bV, iV, Tm.uD] at hof hn ha ⊢
              simp only [zS, zD, convertA, makeFuncA, Nat.reduceAdd, Nat.reduceSub, Nat.reduceMul, Nat.reduceLT, Nat.reduceLeDiff, Nat.reduceGT, ↓reduceIte, Nat.reduceEqDiff, Nat.reduceBEq, reduceCtorEq, Int.reduceBEq, Int.reduceBNe, Int.reduceLT, Int.reduceLE, Int.reduceGT, Int.reduceGE, zT186, zT33, zT31, zT30, zT9, zT3, lenA_lD, hof, callOut_cs, n28, e28, d1, d2, d3, d5, h3, ha, and_64_8, and_64_16, and_64_32, and_64_64, and_64_2, and_64_4, and_64_1]
              (refine Eq.trans ?_ rfl; kernel_rfl)
theorem node_32 (hx : ext 106 = none) (x : Tm) (st : ByteArray) (pq : Int) (a : Bool) (hof : run Tryz.prog ext (.call 169 [iV x.op] []) = some (.ret [.agg [.d (.v (.string st)), .d (.v (.int .i64 32)), .d (.v (.int .i64 pq))], bV true] [])) (e28 : (x.op == 28) = false)
    (hn : run Tryz.prog ext (.call 170 [sV x.s] []) = some (.ret [bV (nameOK x.s)] [])) (ha : run Tryz.prog ext (.call 171 [dV x.uD, .c (.fn 172 [] [])] []) = some (.ret [bV a] [])) :
    run Tryz.prog ext (.call 106 [tmV x] []) = some (.ret [bV (nodeG 1 false 0 false pq x (!a))] []) := by
  have n28 : (x.op != 28) = true := by rw [bne, e28]; rfl
  unfold nodeG
  have d1 := dlt x.n 0
  have d2 := dgt x.n 1
  have d3 := dne (x.u.length : Int) 0
  have d5 := dne (x.l.length : Int) pq
  simp only [if_true, if_false, Bool.false_eq_true, reduceCtorEq]
  cases h0 : decide (0 ≤ x.n) with
  | false =>
    rw [h0] at d1
    simp only [Bool.false_and, Bool.true_and, Bool.and_false, Bool.and_true]
    (rw [run_eq]; simp only [stepA, hx, Tryz.func106, Tryz.f106, show retF 106 = false from rfl]; simp only [List.length_cons, List.length_nil, Nat.reduceAdd, Nat.reduceLeDiff, Nat.zero_le, ↓reduceIte, List.zipIdx_cons, List.zipIdx_nil, List.map_cons, List.map_nil])
    simp only [tmV, tmC, dV, sV, bV, iV, Tm.uD] at hof hn ⊢
    simp only [zS, zD, convertA, makeFuncA, Nat.reduceAdd, Nat.reduceSub, Nat.reduceMul, Nat.reduceLT, Nat.reduceLeDiff, Nat.reduceGT, ↓reduceIte, Nat.reduceEqDiff, Nat.reduceBEq, reduceCtorEq, Int.reduceBEq, Int.reduceBNe, Int.reduceLT, Int.reduceLE, Int.reduceGT, Int.reduceGE, zT186, zT33, zT31, zT30, zT9, zT3, lenA_lD, hof, callOut_cs, n28, e28, d1, and_32_8, and_32_16, and_32_32, and_32_64, and_32_2, and_32_4, and_32_1]
    (refine Eq.trans ?_ rfl; kernel_rfl)
  | true =>
    rw [h0] at d1
    simp only [Bool.false_and, Bool.true_and, Bool.and_false, Bool.and_true]
    cases h1 : decide (x.n ≤ 1) with
    | false =>
      rw [h1] at d2
      simp only [Bool.false_and, Bool.true_and, Bool.and_false, Bool.and_true]
      (rw [run_eq]; simp only [stepA, hx, Tryz.func106, Tryz.f106, show retF 106 = false from rfl]; simp only [List.length_cons, List.length_nil, Nat.reduceAdd, Nat.reduceLeDiff, Nat.zero_le, ↓reduceIte, List.zipIdx_cons, List.zipIdx_nil, List.map_cons, List.map_nil])
      simp only [tmV, tmC, dV, sV, bV, iV, Tm.uD] at hof hn ⊢
      simp only [zS, zD, convertA, makeFuncA, Nat.reduceAdd, Nat.reduceSub, Nat.reduceMul, Nat.reduceLT, Nat.reduceLeDiff, Nat.reduceGT, ↓reduceIte, Nat.reduceEqDiff, Nat.reduceBEq, reduceCtorEq, Int.reduceBEq, Int.reduceBNe, Int.reduceLT, Int.reduceLE, Int.reduceGT, Int.reduceGE, zT186, zT33, zT31, zT30, zT9, zT3, lenA_lD, hof, callOut_cs, n28, e28, d1, d2, and_32_8, and_32_16, and_32_32, and_32_64, and_32_2, and_32_4, and_32_1]
      (refine Eq.trans ?_ rfl; kernel_rfl)
    | true =>
      rw [h1] at d2
      simp only [Bool.false_and, Bool.true_and, Bool.and_false, Bool.and_true]
      cases h2 : decide ((x.u.length : Int) = 0) with
      | false =>
        rw [h2] at d3
        simp only [Bool.false_and, Bool.true_and, Bool.and_false, Bool.and_true]
        (rw [run_eq]; simp only [stepA, hx, Tryz.func106, Tryz.f106, show retF 106 = false from rfl]; simp only [List.length_cons, List.length_nil, Nat.reduceAdd, Nat.reduceLeDiff, Nat.zero_le, ↓reduceIte, List.zipIdx_cons, List.zipIdx_nil, List.map_cons, List.map_nil])
        simp only [tmV, tmC, dV, sV, bV, iV, Tm.uD] at hof hn ⊢
        simp only [zS, zD, convertA, makeFuncA, Nat.reduceAdd, Nat.reduceSub, Nat.reduceMul, Nat.reduceLT, Nat.reduceLeDiff, Nat.reduceGT, ↓reduceIte, Nat.reduceEqDiff, Nat.reduceBEq, reduceCtorEq, Int.reduceBEq, Int.reduceBNe, Int.reduceLT, Int.reduceLE, Int.reduceGT, Int.reduceGE, zT186, zT33, zT31, zT30, zT9, zT3, lenA_lD, hof, callOut_cs, n28, e28, d1, d2, d3, and_32_8, and_32_16, and_32_32, and_32_64, and_32_2, and_32_4, and_32_1]
        (refine Eq.trans ?_ rfl; kernel_rfl)
      | true =>
        rw [h2] at d3
        simp only [Bool.false_and, Bool.true_and, Bool.and_false, Bool.and_true]
        cases h3 : (x.s.toList == emptyS.toList) with
        | false =>
          unfold emptyS at h3
          simp only [Bool.false_and, Bool.true_and, Bool.and_false, Bool.and_true]
          (rw [run_eq]; simp only [stepA, hx, Tryz.func106, Tryz.f106, show retF 106 = false from rfl]; simp only [List.length_cons, List.length_nil, Nat.reduceAdd, Nat.reduceLeDiff, Nat.zero_le, ↓reduceIte, List.zipIdx_cons, List.zipIdx_nil, List.map_cons, List.map_nil])
          simp only [tmV, tmC, dV, sV, bV, iV, Tm.uD] at hof hn ⊢
          simp only [zS, zD, convertA, makeFuncA, Nat.reduceAdd, Nat.reduceSub, Nat.reduceMul, Nat.reduceLT, Nat.reduceLeDiff, Nat.reduceGT, ↓reduceIte, Nat.reduceEqDiff, Nat.reduceBEq, reduceCtorEq, Int.reduceBEq, Int.reduceBNe, Int.reduceLT, Int.reduceLE, Int.reduceGT, Int.reduceGE, zT186, zT33, zT31, zT30, zT9, zT3, lenA_lD, hof, callOut_cs, n28, e28, d1, d2, d3, h3, and_32_8, and_32_16, and_32_32, and_32_64, and_32_2, and_32_4, and_32_1]
          (refine Eq.trans ?_ rfl; kernel_rfl)
        | true =>
          unfold emptyS at h3
          simp only [Bool.false_and, Bool.true_and, Bool.and_false, Bool.and_true]
          cases h4 : decide ((x.l.length : Int) = pq) with
          | false =>
            rw [h4] at d5
            simp only [Bool.false_and, Bool.true_and, Bool.and_false, Bool.and_true]
            (rw [run_eq]; simp only [stepA, hx, Tryz.func106, Tryz.f106, show retF 106 = false from rfl]; simp only [List.length_cons, List.length_nil, Nat.reduceAdd, Nat.reduceLeDiff, Nat.zero_le, ↓reduceIte, List.zipIdx_cons, List.zipIdx_nil, List.map_cons, List.map_nil])
            simp only [tmV, tmC, dV, sV, bV, iV, Tm.uD] at hof hn ⊢
            simp only [zS, zD, convertA, makeFuncA, Nat.reduceAdd, Nat.reduceSub, Nat.reduceMul, Nat.reduceLT, Nat.reduceLeDiff, Nat.reduceGT, ↓reduceIte, Nat.reduceEqDiff, Nat.reduceBEq, reduceCtorEq, Int.reduceBEq, Int.reduceBNe, Int.reduceLT, Int.reduceLE, Int.reduceGT, Int.reduceGE, zT186, zT33, zT31, zT30, zT9, zT3, lenA_lD, hof, callOut_cs, n28, e28, d1, d2, d3, d5, h3, and_32_8, and_32_16, and_32_32, and_32_64, and_32_2, and_32_4, and_32_1]
            (refine Eq.trans ?_ rfl; kernel_rfl)
          | true =>
            rw [h4] at d5
            simp only [Bool.false_and, Bool.true_and, Bool.and_false, Bool.and_true]
            cases a
            all_goals
              (rw [run_eq]; simp only [stepA, hx, Tryz.func106, Tryz.f106, show retF 106 = false from rfl]; simp only [List.length_cons, List.length_nil, Nat.reduceAdd, Nat.reduceLeDiff, Nat.zero_le, ↓reduceIte, List.zipIdx_cons, List.zipIdx_nil, List.map_cons, List.map_nil])
              simp only [tmV, tmC, dV, sV, bV, iV, Tm.uD] at hof hn ha ⊢
              simp only [zS, zD, convertA, makeFuncA, Nat.reduceAdd, Nat.reduceSub, Nat.reduceMul, Nat.reduceLT, Nat.reduceLeDiff, Nat.reduceGT, ↓reduceIte, Nat.reduceEqDiff, Nat.reduceBEq, reduceCtorEq, Int.reduceBEq, Int.reduceBNe, Int.reduceLT, Int.reduceLE, Int.reduceGT, Int.reduceGE, zT186, zT33, zT31, zT30, zT9, zT3, lenA_lD, hof, callOut_cs, n28, e28, d1, d2, d3, d5, h3, ha, and_32_8, and_32_16, and_32_32, and_32_64, and_32_2, and_32_4, and_32_1]
              (refine Eq.trans ?_ rfl; kernel_rfl)
theorem node_34 (hx : ext 106 = none) (x : Tm) (st : ByteArray) (pq : Int) (a : Bool) (hof : run Tryz.prog ext (.call 169 [iV x.op] []) = some (.ret [.agg [.d (.v (.string st)), .d (.v (.int .i64 34)), .d (.v (.int .i64 pq))], bV true] [])) (e28 : (x.op == 28) = false)
    (hn : run Tryz.prog ext (.call 170 [sV x.s] []) = some (.ret [bV (nameOK x.s)] [])) (ha : run Tryz.prog ext (.call 171 [dV x.uD, .c (.fn 172 [] [])] []) = some (.ret [bV a] [])) :
    run Tryz.prog ext (.call 106 [tmV x] []) = some (.ret [bV (nodeG 1 false 1 false pq x (!a))] []) := by
  have n28 : (x.op != 28) = true := by rw [bne, e28]; rfl
  unfold nodeG
  have d1 := dlt x.n 0
  have d2 := dgt x.n 1
  have d3 := dne (x.u.length : Int) 1
  have d5 := dne (x.l.length : Int) pq
  simp only [if_true, if_false, Bool.false_eq_true, reduceCtorEq]
  cases h0 : decide (0 ≤ x.n) with
  | false =>
    rw [h0] at d1
    simp only [Bool.false_and, Bool.true_and, Bool.and_false, Bool.and_true]
    (rw [run_eq]; simp only [stepA, hx, Tryz.func106, Tryz.f106, show retF 106 = false from rfl]; simp only [List.length_cons, List.length_nil, Nat.reduceAdd, Nat.reduceLeDiff, Nat.zero_le, ↓reduceIte, List.zipIdx_cons, List.zipIdx_nil, List.map_cons, List.map_nil])
    simp only [tmV, tmC, dV, sV, bV, iV, Tm.uD] at hof hn ⊢
    simp only [zS, zD, convertA, makeFuncA, Nat.reduceAdd, Nat.reduceSub, Nat.reduceMul, Nat.reduceLT, Nat.reduceLeDiff, Nat.reduceGT, ↓reduceIte, Nat.reduceEqDiff, Nat.reduceBEq, reduceCtorEq, Int.reduceBEq, Int.reduceBNe, Int.reduceLT, Int.reduceLE, Int.reduceGT, Int.reduceGE, zT186, zT33, zT31, zT30, zT9, zT3, lenA_lD, hof, callOut_cs, n28, e28, d1, and_34_8, and_34_16, and_34_32, and_34_64, and_34_2, and_34_4, and_34_1]
    (refine Eq.trans ?_ rfl; kernel_rfl)
  | true =>
    rw [h0] at d1
    simp only [Bool.false_and, Bool.true_and, Bool.and_false, Bool.and_true]
    cases h1 : decide (x.n ≤ 1) with
    | false =>
      rw [h1] at d2
      simp only [Bool.false_and, Bool.true_and, Bool.and_false, Bool.and_true]
      (rw [run_eq]; simp only [stepA, hx, Tryz.func106, Tryz.f106, show retF 106 = false from rfl]; simp only [List.length_cons, List.length_nil, Nat.reduceAdd, Nat.reduceLeDiff, Nat.zero_le, ↓reduceIte, List.zipIdx_cons, List.zipIdx_nil, List.map_cons, List.map_nil])
      simp only [tmV, tmC, dV, sV, bV, iV, Tm.uD] at hof hn ⊢
      simp only [zS, zD, convertA, makeFuncA, Nat.reduceAdd, Nat.reduceSub, Nat.reduceMul, Nat.reduceLT, Nat.reduceLeDiff, Nat.reduceGT, ↓reduceIte, Nat.reduceEqDiff, Nat.reduceBEq, reduceCtorEq, Int.reduceBEq, Int.reduceBNe, Int.reduceLT, Int.reduceLE, Int.reduceGT, Int.reduceGE, zT186, zT33, zT31, zT30, zT9, zT3, lenA_lD, hof, callOut_cs, n28, e28, d1, d2, and_34_8, and_34_16, and_34_32, and_34_64, and_34_2, and_34_4, and_34_1]
      (refine Eq.trans ?_ rfl; kernel_rfl)
    | true =>
      rw [h1] at d2
      simp only [Bool.false_and, Bool.true_and, Bool.and_false, Bool.and_true]
      cases h2 : decide ((x.u.length : Int) = 1) with
      | false =>
        rw [h2] at d3
        simp only [Bool.false_and, Bool.true_and, Bool.and_false, Bool.and_true]
        (rw [run_eq]; simp only [stepA, hx, Tryz.func106, Tryz.f106, show retF 106 = false from rfl]; simp only [List.length_cons, List.length_nil, Nat.reduceAdd, Nat.reduceLeDiff, Nat.zero_le, ↓reduceIte, List.zipIdx_cons, List.zipIdx_nil, List.map_cons, List.map_nil])
        simp only [tmV, tmC, dV, sV, bV, iV, Tm.uD] at hof hn ⊢
        simp only [zS, zD, convertA, makeFuncA, Nat.reduceAdd, Nat.reduceSub, Nat.reduceMul, Nat.reduceLT, Nat.reduceLeDiff, Nat.reduceGT, ↓reduceIte, Nat.reduceEqDiff, Nat.reduceBEq, reduceCtorEq, Int.reduceBEq, Int.reduceBNe, Int.reduceLT, Int.reduceLE, Int.reduceGT, Int.reduceGE, zT186, zT33, zT31, zT30, zT9, zT3, lenA_lD, hof, callOut_cs, n28, e28, d1, d2, d3, and_34_8, and_34_16, and_34_32, and_34_64, and_34_2, and_34_4, and_34_1]
        (refine Eq.trans ?_ rfl; kernel_rfl)
      | true =>
        rw [h2] at d3
        simp only [Bool.false_and, Bool.true_and, Bool.and_false, Bool.and_true]
        cases h3 : (x.s.toList == emptyS.toList) with
        | false =>
          unfold emptyS at h3
          simp only [Bool.false_and, Bool.true_and, Bool.and_false, Bool.and_true]
          (rw [run_eq]; simp only [stepA, hx, Tryz.func106, Tryz.f106, show retF 106 = false from rfl]; simp only [List.length_cons, List.length_nil, Nat.reduceAdd, Nat.reduceLeDiff, Nat.zero_le, ↓reduceIte, List.zipIdx_cons, List.zipIdx_nil, List.map_cons, List.map_nil])
          simp only [tmV, tmC, dV, sV, bV, iV, Tm.uD] at hof hn ⊢
          simp only [zS, zD, convertA, makeFuncA, Nat.reduceAdd, Nat.reduceSub, Nat.reduceMul, Nat.reduceLT, Nat.reduceLeDiff, Nat.reduceGT, ↓reduceIte, Nat.reduceEqDiff, Nat.reduceBEq, reduceCtorEq, Int.reduceBEq, Int.reduceBNe, Int.reduceLT, Int.reduceLE, Int.reduceGT, Int.reduceGE, zT186, zT33, zT31, zT30, zT9, zT3, lenA_lD, hof, callOut_cs, n28, e28, d1, d2, d3, h3, and_34_8, and_34_16, and_34_32, and_34_64, and_34_2, and_34_4, and_34_1]
          (refine Eq.trans ?_ rfl; kernel_rfl)
        | true =>
          unfold emptyS at h3
          simp only [Bool.false_and, Bool.true_and, Bool.and_false, Bool.and_true]
          cases h4 : decide ((x.l.length : Int) = pq) with
          | false =>
            rw [h4] at d5
            simp only [Bool.false_and, Bool.true_and, Bool.and_false, Bool.and_true]
            (rw [run_eq]; simp only [stepA, hx, Tryz.func106, Tryz.f106, show retF 106 = false from rfl]; simp only [List.length_cons, List.length_nil, Nat.reduceAdd, Nat.reduceLeDiff, Nat.zero_le, ↓reduceIte, List.zipIdx_cons, List.zipIdx_nil, List.map_cons, List.map_nil])
            simp only [tmV, tmC, dV, sV, bV, iV, Tm.uD] at hof hn ⊢
            simp only [zS, zD, convertA, makeFuncA, Nat.reduceAdd, Nat.reduceSub, Nat.reduceMul, Nat.reduceLT, Nat.reduceLeDiff, Nat.reduceGT, ↓reduceIte, Nat.reduceEqDiff, Nat.reduceBEq, reduceCtorEq, Int.reduceBEq, Int.reduceBNe, Int.reduceLT, Int.reduceLE, Int.reduceGT, Int.reduceGE, zT186, zT33, zT31, zT30, zT9, zT3, lenA_lD, hof, callOut_cs, n28, e28, d1, d2, d3, d5, h3, and_34_8, and_34_16, and_34_32, and_34_64, and_34_2, and_34_4, and_34_1]
            (refine Eq.trans ?_ rfl; kernel_rfl)
          | true =>
            rw [h4] at d5
            simp only [Bool.false_and, Bool.true_and, Bool.and_false, Bool.and_true]
            cases a
            all_goals
              (rw [run_eq]; simp only [stepA, hx, Tryz.func106, Tryz.f106, show retF 106 = false from rfl]; simp only [List.length_cons, List.length_nil, Nat.reduceAdd, Nat.reduceLeDiff, Nat.zero_le, ↓reduceIte, List.zipIdx_cons, List.zipIdx_nil, List.map_cons, List.map_nil])
              simp only [tmV, tmC, dV, sV, bV, iV, Tm.uD] at hof hn ha ⊢
              simp only [zS, zD, convertA, makeFuncA, Nat.reduceAdd, Nat.reduceSub, Nat.reduceMul, Nat.reduceLT, Nat.reduceLeDiff, Nat.reduceGT, ↓reduceIte, Nat.reduceEqDiff, Nat.reduceBEq, reduceCtorEq, Int.reduceBEq, Int.reduceBNe, Int.reduceLT, Int.reduceLE, Int.reduceGT, Int.reduceGE, zT186, zT33, zT31, zT30, zT9, zT3, lenA_lD, hof, callOut_cs, n28, e28, d1, d2, d3, d5, h3, ha, and_34_8, and_34_16, and_34_32, and_34_64, and_34_2, and_34_4, and_34_1]
              (refine Eq.trans ?_ rfl; kernel_rfl)
theorem node_21 (hx : ext 106 = none) (x : Tm) (st : ByteArray) (pq : Int) (a : Bool) (hof : run Tryz.prog ext (.call 169 [iV x.op] []) = some (.ret [.agg [.d (.v (.string st)), .d (.v (.int .i64 21)), .d (.v (.int .i64 pq))], bV true] [])) (e28 : (x.op == 28) = false)
    (hn : run Tryz.prog ext (.call 170 [sV x.s] []) = some (.ret [bV (nameOK x.s)] [])) (ha : run Tryz.prog ext (.call 171 [dV x.uD, .c (.fn 172 [] [])] []) = some (.ret [bV a] [])) :
    run Tryz.prog ext (.call 106 [tmV x] []) = some (.ret [bV (nodeG 7 true 0 false pq x (!a))] []) := by
  have n28 : (x.op != 28) = true := by rw [bne, e28]; rfl
  unfold nodeG
  have d1 := dlt x.n 0
  have d2 := dgt x.n 7
  have d3 := dgt (x.u.length : Int) 8
  have d5 := dne (x.l.length : Int) pq
  simp only [if_true, if_false, Bool.false_eq_true, reduceCtorEq]
  cases h0 : decide (0 ≤ x.n) with
  | false =>
    rw [h0] at d1
    simp only [Bool.false_and, Bool.true_and, Bool.and_false, Bool.and_true]
    (rw [run_eq]; simp only [stepA, hx, Tryz.func106, Tryz.f106, show retF 106 = false from rfl]; simp only [List.length_cons, List.length_nil, Nat.reduceAdd, Nat.reduceLeDiff, Nat.zero_le, ↓reduceIte, List.zipIdx_cons, List.zipIdx_nil, List.map_cons, List.map_nil])
    simp only [tmV, tmC, dV, sV, bV, iV, Tm.uD] at hof hn ⊢
    simp only [zS, zD, convertA, makeFuncA, Nat.reduceAdd, Nat.reduceSub, Nat.reduceMul, Nat.reduceLT, Nat.reduceLeDiff, Nat.reduceGT, ↓reduceIte, Nat.reduceEqDiff, Nat.reduceBEq, reduceCtorEq, Int.reduceBEq, Int.reduceBNe, Int.reduceLT, Int.reduceLE, Int.reduceGT, Int.reduceGE, zT186, zT33, zT31, zT30, zT9, zT3, lenA_lD, hof, callOut_cs, n28, e28, d1, and_21_8, and_21_16, and_21_32, and_21_64, and_21_2, and_21_4, and_21_1]
    (refine Eq.trans ?_ rfl; kernel_rfl)
  | true =>
    rw [h0] at d1
    simp only [Bool.false_and, Bool.true_and, Bool.and_false, Bool.and_true]
    cases h1 : decide (x.n ≤ 7) with
    | false =>
      rw [h1] at d2
      simp only [Bool.false_and, Bool.true_and, Bool.and_false, Bool.and_true]
      (rw [run_eq]; simp only [stepA, hx, Tryz.func106, Tryz.f106, show retF 106 = false from rfl]; simp only [List.length_cons, List.length_nil, Nat.reduceAdd, Nat.reduceLeDiff, Nat.zero_le, ↓reduceIte, List.zipIdx_cons, List.zipIdx_nil, List.map_cons, List.map_nil])
      simp only [tmV, tmC, dV, sV, bV, iV, Tm.uD] at hof hn ⊢
      simp only [zS, zD, convertA, makeFuncA, Nat.reduceAdd, Nat.reduceSub, Nat.reduceMul, Nat.reduceLT, Nat.reduceLeDiff, Nat.reduceGT, ↓reduceIte, Nat.reduceEqDiff, Nat.reduceBEq, reduceCtorEq, Int.reduceBEq, Int.reduceBNe, Int.reduceLT, Int.reduceLE, Int.reduceGT, Int.reduceGE, zT186, zT33, zT31, zT30, zT9, zT3, lenA_lD, hof, callOut_cs, n28, e28, d1, d2, and_21_8, and_21_16, and_21_32, and_21_64, and_21_2, and_21_4, and_21_1]
      (refine Eq.trans ?_ rfl; kernel_rfl)
    | true =>
      rw [h1] at d2
      simp only [Bool.false_and, Bool.true_and, Bool.and_false, Bool.and_true]
      cases h2 : decide ((x.u.length : Int) ≤ 8) with
      | false =>
        rw [h2] at d3
        simp only [Bool.false_and, Bool.true_and, Bool.and_false, Bool.and_true]
        (rw [run_eq]; simp only [stepA, hx, Tryz.func106, Tryz.f106, show retF 106 = false from rfl]; simp only [List.length_cons, List.length_nil, Nat.reduceAdd, Nat.reduceLeDiff, Nat.zero_le, ↓reduceIte, List.zipIdx_cons, List.zipIdx_nil, List.map_cons, List.map_nil])
        simp only [tmV, tmC, dV, sV, bV, iV, Tm.uD] at hof hn ⊢
        simp only [zS, zD, convertA, makeFuncA, Nat.reduceAdd, Nat.reduceSub, Nat.reduceMul, Nat.reduceLT, Nat.reduceLeDiff, Nat.reduceGT, ↓reduceIte, Nat.reduceEqDiff, Nat.reduceBEq, reduceCtorEq, Int.reduceBEq, Int.reduceBNe, Int.reduceLT, Int.reduceLE, Int.reduceGT, Int.reduceGE, zT186, zT33, zT31, zT30, zT9, zT3, lenA_lD, hof, callOut_cs, n28, e28, d1, d2, d3, and_21_8, and_21_16, and_21_32, and_21_64, and_21_2, and_21_4, and_21_1]
        (refine Eq.trans ?_ rfl; kernel_rfl)
      | true =>
        rw [h2] at d3
        simp only [Bool.false_and, Bool.true_and, Bool.and_false, Bool.and_true]
        cases h3 : nameOK x.s with
        | false =>
          rw [h3] at hn
          simp only [Bool.false_and, Bool.true_and, Bool.and_false, Bool.and_true]
          (rw [run_eq]; simp only [stepA, hx, Tryz.func106, Tryz.f106, show retF 106 = false from rfl]; simp only [List.length_cons, List.length_nil, Nat.reduceAdd, Nat.reduceLeDiff, Nat.zero_le, ↓reduceIte, List.zipIdx_cons, List.zipIdx_nil, List.map_cons, List.map_nil])
          simp only [tmV, tmC, dV, sV, bV, iV, Tm.uD] at hof hn ⊢
          simp only [zS, zD, convertA, makeFuncA, Nat.reduceAdd, Nat.reduceSub, Nat.reduceMul, Nat.reduceLT, Nat.reduceLeDiff, Nat.reduceGT, ↓reduceIte, Nat.reduceEqDiff, Nat.reduceBEq, reduceCtorEq, Int.reduceBEq, Int.reduceBNe, Int.reduceLT, Int.reduceLE, Int.reduceGT, Int.reduceGE, zT186, zT33, zT31, zT30, zT9, zT3, lenA_lD, hof, callOut_cs, n28, e28, d1, d2, d3, hn, and_21_8, and_21_16, and_21_32, and_21_64, and_21_2, and_21_4, and_21_1]
          (refine Eq.trans ?_ rfl; kernel_rfl)
        | true =>
          rw [h3] at hn
          simp only [Bool.false_and, Bool.true_and, Bool.and_false, Bool.and_true]
          cases h4 : decide ((x.l.length : Int) = pq) with
          | false =>
            rw [h4] at d5
            simp only [Bool.false_and, Bool.true_and, Bool.and_false, Bool.and_true]
            (rw [run_eq]; simp only [stepA, hx, Tryz.func106, Tryz.f106, show retF 106 = false from rfl]; simp only [List.length_cons, List.length_nil, Nat.reduceAdd, Nat.reduceLeDiff, Nat.zero_le, ↓reduceIte, List.zipIdx_cons, List.zipIdx_nil, List.map_cons, List.map_nil])
            simp only [tmV, tmC, dV, sV, bV, iV, Tm.uD] at hof hn ⊢
            simp only [zS, zD, convertA, makeFuncA, Nat.reduceAdd, Nat.reduceSub, Nat.reduceMul, Nat.reduceLT, Nat.reduceLeDiff, Nat.reduceGT, ↓reduceIte, Nat.reduceEqDiff, Nat.reduceBEq, reduceCtorEq, Int.reduceBEq, Int.reduceBNe, Int.reduceLT, Int.reduceLE, Int.reduceGT, Int.reduceGE, zT186, zT33, zT31, zT30, zT9, zT3, lenA_lD, hof, callOut_cs, n28, e28, d1, d2, d3, d5, hn, and_21_8, and_21_16, and_21_32, and_21_64, and_21_2, and_21_4, and_21_1]
            (refine Eq.trans ?_ rfl; kernel_rfl)
          | true =>
            rw [h4] at d5
            simp only [Bool.false_and, Bool.true_and, Bool.and_false, Bool.and_true]
            cases a
            all_goals
              (rw [run_eq]; simp only [stepA, hx, Tryz.func106, Tryz.f106, show retF 106 = false from rfl]; simp only [List.length_cons, List.length_nil, Nat.reduceAdd, Nat.reduceLeDiff, Nat.zero_le, ↓reduceIte, List.zipIdx_cons, List.zipIdx_nil, List.map_cons, List.map_nil])
              simp only [tmV, tmC, dV, sV, bV, iV, Tm.uD] at hof hn ha ⊢
              simp only [zS, zD, convertA, makeFuncA, Nat.reduceAdd, Nat.reduceSub, Nat.reduceMul, Nat.reduceLT, Nat.reduceLeDiff, Nat.reduceGT, ↓reduceIte, Nat.reduceEqDiff, Nat.reduceBEq, reduceCtorEq, Int.reduceBEq, Int.reduceBNe, Int.reduceLT, Int.reduceLE, Int.reduceGT, Int.reduceGE, zT186, zT33, zT31, zT30, zT9, zT3, lenA_lD, hof, callOut_cs, n28, e28, d1, d2, d3, d5, hn, ha, and_21_8, and_21_16, and_21_32, and_21_64, and_21_2, and_21_4, and_21_1]
              (refine Eq.trans ?_ rfl; kernel_rfl)
theorem node_37 (hx : ext 106 = none) (x : Tm) (st : ByteArray) (pq : Int) (a : Bool) (hof : run Tryz.prog ext (.call 169 [iV x.op] []) = some (.ret [.agg [.d (.v (.string st)), .d (.v (.int .i64 37)), .d (.v (.int .i64 pq))], bV true] [])) (e28 : (x.op == 28) = true)
    (hn : run Tryz.prog ext (.call 170 [sV x.s] []) = some (.ret [bV (nameOK x.s)] [])) (ha : run Tryz.prog ext (.call 171 [dV x.uD, .c (.fn 172 [] [])] []) = some (.ret [bV a] [])) :
    run Tryz.prog ext (.call 106 [tmV x] []) = some (.ret [bV (nodeG 1 true 0 true pq x (!a))] []) := by
  have n28 : (x.op != 28) = false := by rw [bne, e28]; rfl
  unfold nodeG
  have d1 := dlt x.n 0
  have d2 := dgt x.n 1
  have d3 := dgt (x.u.length : Int) 8
  have d5 := dlt (x.l.length : Int) 3
  have d6 := dgt (x.l.length : Int) 11
  simp only [if_true, if_false, Bool.false_eq_true, reduceCtorEq]
  cases h0 : decide (0 ≤ x.n) with
  | false =>
    rw [h0] at d1
    simp only [Bool.false_and, Bool.true_and, Bool.and_false, Bool.and_true]
    (rw [run_eq]; simp only [stepA, hx, Tryz.func106, Tryz.f106, show retF 106 = false from rfl]; simp only [List.length_cons, List.length_nil, Nat.reduceAdd, Nat.reduceLeDiff, Nat.zero_le, ↓reduceIte, List.zipIdx_cons, List.zipIdx_nil, List.map_cons, List.map_nil])
    simp only [tmV, tmC, dV, sV, bV, iV, Tm.uD] at hof hn ⊢
    simp only [zS, zD, convertA, makeFuncA, Nat.reduceAdd, Nat.reduceSub, Nat.reduceMul, Nat.reduceLT, Nat.reduceLeDiff, Nat.reduceGT, ↓reduceIte, Nat.reduceEqDiff, Nat.reduceBEq, reduceCtorEq, Int.reduceBEq, Int.reduceBNe, Int.reduceLT, Int.reduceLE, Int.reduceGT, Int.reduceGE, zT186, zT33, zT31, zT30, zT9, zT3, lenA_lD, hof, callOut_cs, n28, e28, d1, and_37_8, and_37_16, and_37_32, and_37_64, and_37_2, and_37_4, and_37_1]
    (refine Eq.trans ?_ rfl; kernel_rfl)
  | true =>
    rw [h0] at d1
    simp only [Bool.false_and, Bool.true_and, Bool.and_false, Bool.and_true]
    cases h1 : decide (x.n ≤ 1) with
    | false =>
      rw [h1] at d2
      simp only [Bool.false_and, Bool.true_and, Bool.and_false, Bool.and_true]
      (rw [run_eq]; simp only [stepA, hx, Tryz.func106, Tryz.f106, show retF 106 = false from rfl]; simp only [List.length_cons, List.length_nil, Nat.reduceAdd, Nat.reduceLeDiff, Nat.zero_le, ↓reduceIte, List.zipIdx_cons, List.zipIdx_nil, List.map_cons, List.map_nil])
      simp only [tmV, tmC, dV, sV, bV, iV, Tm.uD] at hof hn ⊢
      simp only [zS, zD, convertA, makeFuncA, Nat.reduceAdd, Nat.reduceSub, Nat.reduceMul, Nat.reduceLT, Nat.reduceLeDiff, Nat.reduceGT, ↓reduceIte, Nat.reduceEqDiff, Nat.reduceBEq, reduceCtorEq, Int.reduceBEq, Int.reduceBNe, Int.reduceLT, Int.reduceLE, Int.reduceGT, Int.reduceGE, zT186, zT33, zT31, zT30, zT9, zT3, lenA_lD, hof, callOut_cs, n28, e28, d1, d2, and_37_8, and_37_16, and_37_32, and_37_64, and_37_2, and_37_4, and_37_1]
      (refine Eq.trans ?_ rfl; kernel_rfl)
    | true =>
      rw [h1] at d2
      simp only [Bool.false_and, Bool.true_and, Bool.and_false, Bool.and_true]
      cases h2 : decide ((x.u.length : Int) ≤ 8) with
      | false =>
        rw [h2] at d3
        simp only [Bool.false_and, Bool.true_and, Bool.and_false, Bool.and_true]
        (rw [run_eq]; simp only [stepA, hx, Tryz.func106, Tryz.f106, show retF 106 = false from rfl]; simp only [List.length_cons, List.length_nil, Nat.reduceAdd, Nat.reduceLeDiff, Nat.zero_le, ↓reduceIte, List.zipIdx_cons, List.zipIdx_nil, List.map_cons, List.map_nil])
        simp only [tmV, tmC, dV, sV, bV, iV, Tm.uD] at hof hn ⊢
        simp only [zS, zD, convertA, makeFuncA, Nat.reduceAdd, Nat.reduceSub, Nat.reduceMul, Nat.reduceLT, Nat.reduceLeDiff, Nat.reduceGT, ↓reduceIte, Nat.reduceEqDiff, Nat.reduceBEq, reduceCtorEq, Int.reduceBEq, Int.reduceBNe, Int.reduceLT, Int.reduceLE, Int.reduceGT, Int.reduceGE, zT186, zT33, zT31, zT30, zT9, zT3, lenA_lD, hof, callOut_cs, n28, e28, d1, d2, d3, and_37_8, and_37_16, and_37_32, and_37_64, and_37_2, and_37_4, and_37_1]
        (refine Eq.trans ?_ rfl; kernel_rfl)
      | true =>
        rw [h2] at d3
        simp only [Bool.false_and, Bool.true_and, Bool.and_false, Bool.and_true]
        cases h3 : nameOK x.s with
        | false =>
          rw [h3] at hn
          simp only [Bool.false_and, Bool.true_and, Bool.and_false, Bool.and_true]
          (rw [run_eq]; simp only [stepA, hx, Tryz.func106, Tryz.f106, show retF 106 = false from rfl]; simp only [List.length_cons, List.length_nil, Nat.reduceAdd, Nat.reduceLeDiff, Nat.zero_le, ↓reduceIte, List.zipIdx_cons, List.zipIdx_nil, List.map_cons, List.map_nil])
          simp only [tmV, tmC, dV, sV, bV, iV, Tm.uD] at hof hn ⊢
          simp only [zS, zD, convertA, makeFuncA, Nat.reduceAdd, Nat.reduceSub, Nat.reduceMul, Nat.reduceLT, Nat.reduceLeDiff, Nat.reduceGT, ↓reduceIte, Nat.reduceEqDiff, Nat.reduceBEq, reduceCtorEq, Int.reduceBEq, Int.reduceBNe, Int.reduceLT, Int.reduceLE, Int.reduceGT, Int.reduceGE, zT186, zT33, zT31, zT30, zT9, zT3, lenA_lD, hof, callOut_cs, n28, e28, d1, d2, d3, hn, and_37_8, and_37_16, and_37_32, and_37_64, and_37_2, and_37_4, and_37_1]
          (refine Eq.trans ?_ rfl; kernel_rfl)
        | true =>
          rw [h3] at hn
          simp only [Bool.false_and, Bool.true_and, Bool.and_false, Bool.and_true]
          cases h4 : decide (3 ≤ (x.l.length : Int)) with
          | false =>
            rw [h4] at d5
            simp only [Bool.false_and, Bool.true_and, Bool.and_false, Bool.and_true]
            (rw [run_eq]; simp only [stepA, hx, Tryz.func106, Tryz.f106, show retF 106 = false from rfl]; simp only [List.length_cons, List.length_nil, Nat.reduceAdd, Nat.reduceLeDiff, Nat.zero_le, ↓reduceIte, List.zipIdx_cons, List.zipIdx_nil, List.map_cons, List.map_nil])
            simp only [tmV, tmC, dV, sV, bV, iV, Tm.uD] at hof hn ⊢
            simp only [zS, zD, convertA, makeFuncA, Nat.reduceAdd, Nat.reduceSub, Nat.reduceMul, Nat.reduceLT, Nat.reduceLeDiff, Nat.reduceGT, ↓reduceIte, Nat.reduceEqDiff, Nat.reduceBEq, reduceCtorEq, Int.reduceBEq, Int.reduceBNe, Int.reduceLT, Int.reduceLE, Int.reduceGT, Int.reduceGE, zT186, zT33, zT31, zT30, zT9, zT3, lenA_lD, hof, callOut_cs, n28, e28, d1, d2, d3, d5, hn, and_37_8, and_37_16, and_37_32, and_37_64, and_37_2, and_37_4, and_37_1]
            (refine Eq.trans ?_ rfl; kernel_rfl)
          | true =>
            rw [h4] at d5
            simp only [Bool.false_and, Bool.true_and, Bool.and_false, Bool.and_true]
            cases h5 : decide ((x.l.length : Int) ≤ 11) with
            | false =>
              rw [h5] at d6
              simp only [Bool.false_and, Bool.true_and, Bool.and_false, Bool.and_true]
              (rw [run_eq]; simp only [stepA, hx, Tryz.func106, Tryz.f106, show retF 106 = false from rfl]; simp only [List.length_cons, List.length_nil, Nat.reduceAdd, Nat.reduceLeDiff, Nat.zero_le, ↓reduceIte, List.zipIdx_cons, List.zipIdx_nil, List.map_cons, List.map_nil])
              simp only [tmV, tmC, dV, sV, bV, iV, Tm.uD] at hof hn ⊢
              simp only [zS, zD, convertA, makeFuncA, Nat.reduceAdd, Nat.reduceSub, Nat.reduceMul, Nat.reduceLT, Nat.reduceLeDiff, Nat.reduceGT, ↓reduceIte, Nat.reduceEqDiff, Nat.reduceBEq, reduceCtorEq, Int.reduceBEq, Int.reduceBNe, Int.reduceLT, Int.reduceLE, Int.reduceGT, Int.reduceGE, zT186, zT33, zT31, zT30, zT9, zT3, lenA_lD, hof, callOut_cs, n28, e28, d1, d2, d3, d5, d6, hn, and_37_8, and_37_16, and_37_32, and_37_64, and_37_2, and_37_4, and_37_1]
              (refine Eq.trans ?_ rfl; kernel_rfl)
            | true =>
              rw [h5] at d6
              simp only [Bool.false_and, Bool.true_and, Bool.and_false, Bool.and_true]
              cases a
              all_goals
                (rw [run_eq]; simp only [stepA, hx, Tryz.func106, Tryz.f106, show retF 106 = false from rfl]; simp only [List.length_cons, List.length_nil, Nat.reduceAdd, Nat.reduceLeDiff, Nat.zero_le, ↓reduceIte, List.zipIdx_cons, List.zipIdx_nil, List.map_cons, List.map_nil])
                simp only [tmV, tmC, dV, sV, bV, iV, Tm.uD] at hof hn ha ⊢
                simp only [zS, zD, convertA, makeFuncA, Nat.reduceAdd, Nat.reduceSub, Nat.reduceMul, Nat.reduceLT, Nat.reduceLeDiff, Nat.reduceGT, ↓reduceIte, Nat.reduceEqDiff, Nat.reduceBEq, reduceCtorEq, Int.reduceBEq, Int.reduceBNe, Int.reduceLT, Int.reduceLE, Int.reduceGT, Int.reduceGE, zT186, zT33, zT31, zT30, zT9, zT3, lenA_lD, hof, callOut_cs, n28, e28, d1, d2, d3, d5, d6, hn, ha, and_37_8, and_37_16, and_37_32, and_37_64, and_37_2, and_37_4, and_37_1]
                (refine Eq.trans ?_ rfl; kernel_rfl)
end Go.Proofs.YteenjodhmppgjaaGreatDoor.Am
end
section
/- What the reference says of operators. Printed by tfits/of2.py. -/
namespace Go.Proofs.YteenjodhmppgjaaGreatDoor.Am
open Go
variable (ext : Ext)
set_option maxHeartbeats 8000000
set_option maxRecDepth 8000
def tabM : List Int := [0, 2000, 0, 0, 0, 3, 1, 1, 3, 3, 0, 0, 0, 0, 0, 0, 0, 1, 0, 0, 0, 0, 0, 0, 0, 1, 0, 7, 1, 2000, 0]
def mostO (op : Int) : Int := tabM.getD op.toNat 0
def oneO (op : Int) : Bool := [(3 : Int), (18 : Int), (19 : Int), (20 : Int), (21 : Int), (22 : Int), (23 : Int), (25 : Int)].contains op
def levO (op : Int) : Int := if oneO op = true then 1 else 0
def manyO (op : Int) : Bool := [(2 : Int), 26, 27, 28].contains op
noncomputable def B175 : Code := (Tryz.f175.body).getD .skip
theorem of175 (hx : ext 175 = none) (op : Int) (h1 : 1 ≤ op) (h2 : op ≤ 30) : run Tryz.prog ext (.call 175 [iV op] []) = some (.ret [iV (opP op)] []) := by
  rcases lit30 h1 h2 with rfl | rfl | rfl | rfl | rfl | rfl | rfl | rfl | rfl | rfl | rfl | rfl | rfl | rfl | rfl | rfl | rfl | rfl | rfl | rfl | rfl | rfl | rfl | rfl | rfl | rfl | rfl | rfl | rfl | rfl
  all_goals exact enterB ext 175 Tryz.f175 B175 hx Tryz.func175 (by kernel_rfl) (Nat.le_of_ble_eq_true (by kernel_rfl)) _ _ ((run_iff _ _ _ _).2 ⟨400, by kernel_rfl⟩)
noncomputable def B176 : Code := (Tryz.f176.body).getD .skip
theorem of176 (hx : ext 176 = none) (op : Int) (h1 : 1 ≤ op) (h2 : op ≤ 30) : run Tryz.prog ext (.call 176 [iV op] []) = some (.ret [bV (oneO op)] []) := by
  rcases lit30 h1 h2 with rfl | rfl | rfl | rfl | rfl | rfl | rfl | rfl | rfl | rfl | rfl | rfl | rfl | rfl | rfl | rfl | rfl | rfl | rfl | rfl | rfl | rfl | rfl | rfl | rfl | rfl | rfl | rfl | rfl | rfl
  all_goals exact enterB ext 176 Tryz.f176 B176 hx Tryz.func176 (by kernel_rfl) (Nat.le_of_ble_eq_true (by kernel_rfl)) _ _ ((run_iff _ _ _ _).2 ⟨400, by kernel_rfl⟩)
noncomputable def B177 : Code := (Tryz.f177.body).getD .skip
theorem of177 (hx : ext 177 = none) (op : Int) (h1 : 1 ≤ op) (h2 : op ≤ 30) : run Tryz.prog ext (.call 177 [iV op] []) = some (.ret [bV (manyO op)] []) := by
  rcases lit30 h1 h2 with rfl | rfl | rfl | rfl | rfl | rfl | rfl | rfl | rfl | rfl | rfl | rfl | rfl | rfl | rfl | rfl | rfl | rfl | rfl | rfl | rfl | rfl | rfl | rfl | rfl | rfl | rfl | rfl | rfl | rfl
  all_goals exact enterB ext 177 Tryz.f177 B177 hx Tryz.func177 (by kernel_rfl) (Nat.le_of_ble_eq_true (by kernel_rfl)) _ _ ((run_iff _ _ _ _).2 ⟨400, by kernel_rfl⟩)
theorem of175_no (hx : ext 175 = none) (op : Int) (h : ¬ (1 ≤ op ∧ op ≤ 30)) : run Tryz.prog ext (.call 175 [iV op] []) = some (.ret [iV (-2)] []) := by
  have e1 : (op == 1) = false := beq_eq_false_iff_ne.2 (by omega)
  have e2 : (op == 2) = false := beq_eq_false_iff_ne.2 (by omega)
  have e3 : (op == 3) = false := beq_eq_false_iff_ne.2 (by omega)
  have e4 : (op == 4) = false := beq_eq_false_iff_ne.2 (by omega)
  have e5 : (op == 5) = false := beq_eq_false_iff_ne.2 (by omega)
  have e6 : (op == 6) = false := beq_eq_false_iff_ne.2 (by omega)
  have e7 : (op == 7) = false := beq_eq_false_iff_ne.2 (by omega)
  have e8 : (op == 8) = false := beq_eq_false_iff_ne.2 (by omega)
  have e9 : (op == 9) = false := beq_eq_false_iff_ne.2 (by omega)
  have e10 : (op == 10) = false := beq_eq_false_iff_ne.2 (by omega)
  have e11 : (op == 11) = false := beq_eq_false_iff_ne.2 (by omega)
  have e12 : (op == 12) = false := beq_eq_false_iff_ne.2 (by omega)
  have e13 : (op == 13) = false := beq_eq_false_iff_ne.2 (by omega)
  have e14 : (op == 14) = false := beq_eq_false_iff_ne.2 (by omega)
  have e15 : (op == 15) = false := beq_eq_false_iff_ne.2 (by omega)
  have e16 : (op == 16) = false := beq_eq_false_iff_ne.2 (by omega)
  have e17 : (op == 17) = false := beq_eq_false_iff_ne.2 (by omega)
  have e18 : (op == 18) = false := beq_eq_false_iff_ne.2 (by omega)
  have e19 : (op == 19) = false := beq_eq_false_iff_ne.2 (by omega)
  have e20 : (op == 20) = false := beq_eq_false_iff_ne.2 (by omega)
  have e21 : (op == 21) = false := beq_eq_false_iff_ne.2 (by omega)
  have e22 : (op == 22) = false := beq_eq_false_iff_ne.2 (by omega)
  have e23 : (op == 23) = false := beq_eq_false_iff_ne.2 (by omega)
  have e24 : (op == 24) = false := beq_eq_false_iff_ne.2 (by omega)
  have e25 : (op == 25) = false := beq_eq_false_iff_ne.2 (by omega)
  have e26 : (op == 26) = false := beq_eq_false_iff_ne.2 (by omega)
  have e27 : (op == 27) = false := beq_eq_false_iff_ne.2 (by omega)
  have e28 : (op == 28) = false := beq_eq_false_iff_ne.2 (by omega)
  have e29 : (op == 29) = false := beq_eq_false_iff_ne.2 (by omega)
  have e30 : (op == 30) = false := beq_eq_false_iff_ne.2 (by omega)
  (rw [run_eq]; simp only [stepA, hx, Tryz.func175, Tryz.f175, show retF 175 = false from rfl]; simp only [List.length_cons, List.length_nil, Nat.reduceAdd, Nat.reduceLeDiff, Nat.zero_le, ↓reduceIte, List.zipIdx_cons, List.zipIdx_nil, List.map_cons, List.map_nil])
  simp only [iV]
  simp only [zS, zD, convertA, makeFuncA, Nat.reduceAdd, Nat.reduceSub, Nat.reduceMul, Nat.reduceLT, Nat.reduceLeDiff, Nat.reduceGT, ↓reduceIte, Nat.reduceEqDiff, Nat.reduceBEq, reduceCtorEq, Int.reduceBEq, Int.reduceBNe, Int.reduceLT, Int.reduceLE, Int.reduceGT, Int.reduceGE, zT3, e1, e2, e3, e4, e5, e6, e7, e8, e9, e10, e11, e12, e13, e14, e15, e16, e17, e18, e19, e20, e21, e22, e23, e24, e25, e26, e27, e28, e29, e30]
  (refine Eq.trans ?_ rfl; kernel_rfl)
def numOK (op n : Int) : Bool := decide (0 ≤ n) && decide (n ≤ mostO op)
theorem num180 (hx : ext 180 = none) (x : Tm) (h1 : 1 ≤ x.op) (h2 : x.op ≤ 30) : run Tryz.prog ext (.call 180 [tmV x] []) = some (.ret [bV (numOK x.op x.n)] []) := by
  unfold numOK
  rcases lit30 h1 h2 with h | h | h | h | h | h | h | h | h | h | h | h | h | h | h | h | h | h | h | h | h | h | h | h | h | h | h | h | h | h
  · rw [h, show mostO 1 = 2000 from rfl]
    cases hn : decide (0 ≤ x.n)
    all_goals
      simp only [Bool.false_and, Bool.true_and]
      (rw [run_eq]; simp only [stepA, hx, Tryz.func180, Tryz.f180, show retF 180 = false from rfl]; simp only [List.length_cons, List.length_nil, Nat.reduceAdd, Nat.reduceLeDiff, Nat.zero_le, ↓reduceIte, List.zipIdx_cons, List.zipIdx_nil, List.map_cons, List.map_nil])
      simp only [tmV, tmC, bV]
      simp only [zS, zD, convertA, makeFuncA, Nat.reduceAdd, Nat.reduceSub, Nat.reduceMul, Nat.reduceLT, Nat.reduceLeDiff, Nat.reduceGT, ↓reduceIte, Nat.reduceEqDiff, Nat.reduceBEq, reduceCtorEq, Int.reduceBEq, Int.reduceBNe, Int.reduceLT, Int.reduceLE, Int.reduceGT, Int.reduceGE, zT33, zT3, h, ge_iff_le, hn]
      (refine Eq.trans ?_ rfl; kernel_rfl)
  · rw [h, show mostO 2 = 0 from rfl]
    have g : (decide (0 ≤ x.n) && decide (x.n ≤ 0)) = (x.n == 0) := by rw [Bool.eq_iff_iff, Bool.and_eq_true, decide_eq_true_eq, decide_eq_true_eq, beq_iff_eq]; omega
    rw [g]
    (rw [run_eq]; simp only [stepA, hx, Tryz.func180, Tryz.f180, show retF 180 = false from rfl]; simp only [List.length_cons, List.length_nil, Nat.reduceAdd, Nat.reduceLeDiff, Nat.zero_le, ↓reduceIte, List.zipIdx_cons, List.zipIdx_nil, List.map_cons, List.map_nil])
    simp only [tmV, tmC, bV]
    simp only [zS, zD, convertA, makeFuncA, Nat.reduceAdd, Nat.reduceSub, Nat.reduceMul, Nat.reduceLT, Nat.reduceLeDiff, Nat.reduceGT, ↓reduceIte, Nat.reduceEqDiff, Nat.reduceBEq, reduceCtorEq, Int.reduceBEq, Int.reduceBNe, Int.reduceLT, Int.reduceLE, Int.reduceGT, Int.reduceGE, zT33, zT3, h, h]
    (refine Eq.trans ?_ rfl; kernel_rfl)
  · rw [h, show mostO 3 = 0 from rfl]
    have g : (decide (0 ≤ x.n) && decide (x.n ≤ 0)) = (x.n == 0) := by rw [Bool.eq_iff_iff, Bool.and_eq_true, decide_eq_true_eq, decide_eq_true_eq, beq_iff_eq]; omega
    rw [g]
    (rw [run_eq]; simp only [stepA, hx, Tryz.func180, Tryz.f180, show retF 180 = false from rfl]; simp only [List.length_cons, List.length_nil, Nat.reduceAdd, Nat.reduceLeDiff, Nat.zero_le, ↓reduceIte, List.zipIdx_cons, List.zipIdx_nil, List.map_cons, List.map_nil])
    simp only [tmV, tmC, bV]
    simp only [zS, zD, convertA, makeFuncA, Nat.reduceAdd, Nat.reduceSub, Nat.reduceMul, Nat.reduceLT, Nat.reduceLeDiff, Nat.reduceGT, ↓reduceIte, Nat.reduceEqDiff, Nat.reduceBEq, reduceCtorEq, Int.reduceBEq, Int.reduceBNe, Int.reduceLT, Int.reduceLE, Int.reduceGT, Int.reduceGE, zT33, zT3, h, h]
    (refine Eq.trans ?_ rfl; kernel_rfl)
  · rw [h, show mostO 4 = 0 from rfl]
    have g : (decide (0 ≤ x.n) && decide (x.n ≤ 0)) = (x.n == 0) := by rw [Bool.eq_iff_iff, Bool.and_eq_true, decide_eq_true_eq, decide_eq_true_eq, beq_iff_eq]; omega
    rw [g]
    (rw [run_eq]; simp only [stepA, hx, Tryz.func180, Tryz.f180, show retF 180 = false from rfl]; simp only [List.length_cons, List.length_nil, Nat.reduceAdd, Nat.reduceLeDiff, Nat.zero_le, ↓reduceIte, List.zipIdx_cons, List.zipIdx_nil, List.map_cons, List.map_nil])
    simp only [tmV, tmC, bV]
    simp only [zS, zD, convertA, makeFuncA, Nat.reduceAdd, Nat.reduceSub, Nat.reduceMul, Nat.reduceLT, Nat.reduceLeDiff, Nat.reduceGT, ↓reduceIte, Nat.reduceEqDiff, Nat.reduceBEq, reduceCtorEq, Int.reduceBEq, Int.reduceBNe, Int.reduceLT, Int.reduceLE, Int.reduceGT, Int.reduceGE, zT33, zT3, h, h]
    (refine Eq.trans ?_ rfl; kernel_rfl)
  · rw [h, show mostO 5 = 3 from rfl]
    cases hn : decide (0 ≤ x.n)
    all_goals
      simp only [Bool.false_and, Bool.true_and]
      (rw [run_eq]; simp only [stepA, hx, Tryz.func180, Tryz.f180, show retF 180 = false from rfl]; simp only [List.length_cons, List.length_nil, Nat.reduceAdd, Nat.reduceLeDiff, Nat.zero_le, ↓reduceIte, List.zipIdx_cons, List.zipIdx_nil, List.map_cons, List.map_nil])
      simp only [tmV, tmC, bV]
      simp only [zS, zD, convertA, makeFuncA, Nat.reduceAdd, Nat.reduceSub, Nat.reduceMul, Nat.reduceLT, Nat.reduceLeDiff, Nat.reduceGT, ↓reduceIte, Nat.reduceEqDiff, Nat.reduceBEq, reduceCtorEq, Int.reduceBEq, Int.reduceBNe, Int.reduceLT, Int.reduceLE, Int.reduceGT, Int.reduceGE, zT33, zT3, h, ge_iff_le, hn]
      (refine Eq.trans ?_ rfl; kernel_rfl)
  · rw [h, show mostO 6 = 1 from rfl]
    cases h0 : (x.n == 0)
    all_goals
      have g : (decide (0 ≤ x.n) && decide (x.n ≤ 1)) = ((x.n == 0) || (x.n == 1)) := by rw [Bool.eq_iff_iff, Bool.and_eq_true, Bool.or_eq_true, decide_eq_true_eq, decide_eq_true_eq, beq_iff_eq, beq_iff_eq]; omega
      rw [g, h0]
      simp only [Bool.false_or, Bool.true_or]
      (rw [run_eq]; simp only [stepA, hx, Tryz.func180, Tryz.f180, show retF 180 = false from rfl]; simp only [List.length_cons, List.length_nil, Nat.reduceAdd, Nat.reduceLeDiff, Nat.zero_le, ↓reduceIte, List.zipIdx_cons, List.zipIdx_nil, List.map_cons, List.map_nil])
      simp only [tmV, tmC, bV]
      simp only [zS, zD, convertA, makeFuncA, Nat.reduceAdd, Nat.reduceSub, Nat.reduceMul, Nat.reduceLT, Nat.reduceLeDiff, Nat.reduceGT, ↓reduceIte, Nat.reduceEqDiff, Nat.reduceBEq, reduceCtorEq, Int.reduceBEq, Int.reduceBNe, Int.reduceLT, Int.reduceLE, Int.reduceGT, Int.reduceGE, zT33, zT3, h, h0]
      (refine Eq.trans ?_ rfl; kernel_rfl)
  · rw [h, show mostO 7 = 1 from rfl]
    cases h0 : (x.n == 0)
    all_goals
      have g : (decide (0 ≤ x.n) && decide (x.n ≤ 1)) = ((x.n == 0) || (x.n == 1)) := by rw [Bool.eq_iff_iff, Bool.and_eq_true, Bool.or_eq_true, decide_eq_true_eq, decide_eq_true_eq, beq_iff_eq, beq_iff_eq]; omega
      rw [g, h0]
      simp only [Bool.false_or, Bool.true_or]
      (rw [run_eq]; simp only [stepA, hx, Tryz.func180, Tryz.f180, show retF 180 = false from rfl]; simp only [List.length_cons, List.length_nil, Nat.reduceAdd, Nat.reduceLeDiff, Nat.zero_le, ↓reduceIte, List.zipIdx_cons, List.zipIdx_nil, List.map_cons, List.map_nil])
      simp only [tmV, tmC, bV]
      simp only [zS, zD, convertA, makeFuncA, Nat.reduceAdd, Nat.reduceSub, Nat.reduceMul, Nat.reduceLT, Nat.reduceLeDiff, Nat.reduceGT, ↓reduceIte, Nat.reduceEqDiff, Nat.reduceBEq, reduceCtorEq, Int.reduceBEq, Int.reduceBNe, Int.reduceLT, Int.reduceLE, Int.reduceGT, Int.reduceGE, zT33, zT3, h, h0]
      (refine Eq.trans ?_ rfl; kernel_rfl)
  · rw [h, show mostO 8 = 3 from rfl]
    cases hn : decide (0 ≤ x.n)
    all_goals
      simp only [Bool.false_and, Bool.true_and]
      (rw [run_eq]; simp only [stepA, hx, Tryz.func180, Tryz.f180, show retF 180 = false from rfl]; simp only [List.length_cons, List.length_nil, Nat.reduceAdd, Nat.reduceLeDiff, Nat.zero_le, ↓reduceIte, List.zipIdx_cons, List.zipIdx_nil, List.map_cons, List.map_nil])
      simp only [tmV, tmC, bV]
      simp only [zS, zD, convertA, makeFuncA, Nat.reduceAdd, Nat.reduceSub, Nat.reduceMul, Nat.reduceLT, Nat.reduceLeDiff, Nat.reduceGT, ↓reduceIte, Nat.reduceEqDiff, Nat.reduceBEq, reduceCtorEq, Int.reduceBEq, Int.reduceBNe, Int.reduceLT, Int.reduceLE, Int.reduceGT, Int.reduceGE, zT33, zT3, h, ge_iff_le, hn]
      (refine Eq.trans ?_ rfl; kernel_rfl)
  · rw [h, show mostO 9 = 3 from rfl]
    cases hn : decide (0 ≤ x.n)
    all_goals
      simp only [Bool.false_and, Bool.true_and]
      (rw [run_eq]; simp only [stepA, hx, Tryz.func180, Tryz.f180, show retF 180 = false from rfl]; simp only [List.length_cons, List.length_nil, Nat.reduceAdd, Nat.reduceLeDiff, Nat.zero_le, ↓reduceIte, List.zipIdx_cons, List.zipIdx_nil, List.map_cons, List.map_nil])
      simp only [tmV, tmC, bV]
      simp only [zS, zD, convertA, makeFuncA, Nat.reduceAdd, Nat.reduceSub, Nat.reduceMul, Nat.reduceLT, Nat.reduceLeDiff, Nat.reduceGT, ↓reduceIte, Nat.reduceEqDiff, Nat.reduceBEq, reduceCtorEq, Int.reduceBEq, Int.reduceBNe, Int.reduceLT, Int.reduceLE, Int.reduceGT, Int.reduceGE, zT33, zT3, h, ge_iff_le, hn]
      (refine Eq.trans ?_ rfl; kernel_rfl)
  · rw [h, show mostO 10 = 0 from rfl]
    have g : (decide (0 ≤ x.n) && decide (x.n ≤ 0)) = (x.n == 0) := by rw [Bool.eq_iff_iff, Bool.and_eq_true, decide_eq_true_eq, decide_eq_true_eq, beq_iff_eq]; omega
    rw [g]
    (rw [run_eq]; simp only [stepA, hx, Tryz.func180, Tryz.f180, show retF 180 = false from rfl]; simp only [List.length_cons, List.length_nil, Nat.reduceAdd, Nat.reduceLeDiff, Nat.zero_le, ↓reduceIte, List.zipIdx_cons, List.zipIdx_nil, List.map_cons, List.map_nil])
    simp only [tmV, tmC, bV]
    simp only [zS, zD, convertA, makeFuncA, Nat.reduceAdd, Nat.reduceSub, Nat.reduceMul, Nat.reduceLT, Nat.reduceLeDiff, Nat.reduceGT, ↓reduceIte, Nat.reduceEqDiff, Nat.reduceBEq, reduceCtorEq, Int.reduceBEq, Int.reduceBNe, Int.reduceLT, Int.reduceLE, Int.reduceGT, Int.reduceGE, zT33, zT3, h, h]
    (refine Eq.trans ?_ rfl; kernel_rfl)
  · rw [h, show mostO 11 = 0 from rfl]
    have g : (decide (0 ≤ x.n) && decide (x.n ≤ 0)) = (x.n == 0) := by rw [Bool.eq_iff_iff, Bool.and_eq_true, decide_eq_true_eq, decide_eq_true_eq, beq_iff_eq]; omega
    rw [g]
    (rw [run_eq]; simp only [stepA, hx, Tryz.func180, Tryz.f180, show retF 180 = false from rfl]; simp only [List.length_cons, List.length_nil, Nat.reduceAdd, Nat.reduceLeDiff, Nat.zero_le, ↓reduceIte, List.zipIdx_cons, List.zipIdx_nil, List.map_cons, List.map_nil])
    simp only [tmV, tmC, bV]
    simp only [zS, zD, convertA, makeFuncA, Nat.reduceAdd, Nat.reduceSub, Nat.reduceMul, Nat.reduceLT, Nat.reduceLeDiff, Nat.reduceGT, ↓reduceIte, Nat.reduceEqDiff, Nat.reduceBEq, reduceCtorEq, Int.reduceBEq, Int.reduceBNe, Int.reduceLT, Int.reduceLE, Int.reduceGT, Int.reduceGE, zT33, zT3, h, h]
    (refine Eq.trans ?_ rfl; kernel_rfl)
  · rw [h, show mostO 12 = 0 from rfl]
    have g : (decide (0 ≤ x.n) && decide (x.n ≤ 0)) = (x.n == 0) := by rw [Bool.eq_iff_iff, Bool.and_eq_true, decide_eq_true_eq, decide_eq_true_eq, beq_iff_eq]; omega
    rw [g]
    (rw [run_eq]; simp only [stepA, hx, Tryz.func180, Tryz.f180, show retF 180 = false from rfl]; simp only [List.length_cons, List.length_nil, Nat.reduceAdd, Nat.reduceLeDiff, Nat.zero_le, ↓reduceIte, List.zipIdx_cons, List.zipIdx_nil, List.map_cons, List.map_nil])
    simp only [tmV, tmC, bV]
    simp only [zS, zD, convertA, makeFuncA, Nat.reduceAdd, Nat.reduceSub, Nat.reduceMul, Nat.reduceLT, Nat.reduceLeDiff, Nat.reduceGT, ↓reduceIte, Nat.reduceEqDiff, Nat.reduceBEq, reduceCtorEq, Int.reduceBEq, Int.reduceBNe, Int.reduceLT, Int.reduceLE, Int.reduceGT, Int.reduceGE, zT33, zT3, h, h]
    (refine Eq.trans ?_ rfl; kernel_rfl)
  · rw [h, show mostO 13 = 0 from rfl]
    have g : (decide (0 ≤ x.n) && decide (x.n ≤ 0)) = (x.n == 0) := by rw [Bool.eq_iff_iff, Bool.and_eq_true, decide_eq_true_eq, decide_eq_true_eq, beq_iff_eq]; omega
    rw [g]
    (rw [run_eq]; simp only [stepA, hx, Tryz.func180, Tryz.f180, show retF 180 = false from rfl]; simp only [List.length_cons, List.length_nil, Nat.reduceAdd, Nat.reduceLeDiff, Nat.zero_le, ↓reduceIte, List.zipIdx_cons, List.zipIdx_nil, List.map_cons, List.map_nil])
    simp only [tmV, tmC, bV]
    simp only [zS, zD, convertA, makeFuncA, Nat.reduceAdd, Nat.reduceSub, Nat.reduceMul, Nat.reduceLT, Nat.reduceLeDiff, Nat.reduceGT, ↓reduceIte, Nat.reduceEqDiff, Nat.reduceBEq, reduceCtorEq, Int.reduceBEq, Int.reduceBNe, Int.reduceLT, Int.reduceLE, Int.reduceGT, Int.reduceGE, zT33, zT3, h, h]
    (refine Eq.trans ?_ rfl; kernel_rfl)
  · rw [h, show mostO 14 = 0 from rfl]
    have g : (decide (0 ≤ x.n) && decide (x.n ≤ 0)) = (x.n == 0) := by rw [Bool.eq_iff_iff, Bool.and_eq_true, decide_eq_true_eq, decide_eq_true_eq, beq_iff_eq]; omega
    rw [g]
    (rw [run_eq]; simp only [stepA, hx, Tryz.func180, Tryz.f180, show retF 180 = false from rfl]; simp only [List.length_cons, List.length_nil, Nat.reduceAdd, Nat.reduceLeDiff, Nat.zero_le, ↓reduceIte, List.zipIdx_cons, List.zipIdx_nil, List.map_cons, List.map_nil])
    simp only [tmV, tmC, bV]
    simp only [zS, zD, convertA, makeFuncA, Nat.reduceAdd, Nat.reduceSub, Nat.reduceMul, Nat.reduceLT, Nat.reduceLeDiff, Nat.reduceGT, ↓reduceIte, Nat.reduceEqDiff, Nat.reduceBEq, reduceCtorEq, Int.reduceBEq, Int.reduceBNe, Int.reduceLT, Int.reduceLE, Int.reduceGT, Int.reduceGE, zT33, zT3, h, h]
    (refine Eq.trans ?_ rfl; kernel_rfl)
  · rw [h, show mostO 15 = 0 from rfl]
    have g : (decide (0 ≤ x.n) && decide (x.n ≤ 0)) = (x.n == 0) := by rw [Bool.eq_iff_iff, Bool.and_eq_true, decide_eq_true_eq, decide_eq_true_eq, beq_iff_eq]; omega
    rw [g]
    (rw [run_eq]; simp only [stepA, hx, Tryz.func180, Tryz.f180, show retF 180 = false from rfl]; simp only [List.length_cons, List.length_nil, Nat.reduceAdd, Nat.reduceLeDiff, Nat.zero_le, ↓reduceIte, List.zipIdx_cons, List.zipIdx_nil, List.map_cons, List.map_nil])
    simp only [tmV, tmC, bV]
    simp only [zS, zD, convertA, makeFuncA, Nat.reduceAdd, Nat.reduceSub, Nat.reduceMul, Nat.reduceLT, Nat.reduceLeDiff, Nat.reduceGT, ↓reduceIte, Nat.reduceEqDiff, Nat.reduceBEq, reduceCtorEq, Int.reduceBEq, Int.reduceBNe, Int.reduceLT, Int.reduceLE, Int.reduceGT, Int.reduceGE, zT33, zT3, h, h]
    (refine Eq.trans ?_ rfl; kernel_rfl)
  · rw [h, show mostO 16 = 0 from rfl]
    have g : (decide (0 ≤ x.n) && decide (x.n ≤ 0)) = (x.n == 0) := by rw [Bool.eq_iff_iff, Bool.and_eq_true, decide_eq_true_eq, decide_eq_true_eq, beq_iff_eq]; omega
    rw [g]
    (rw [run_eq]; simp only [stepA, hx, Tryz.func180, Tryz.f180, show retF 180 = false from rfl]; simp only [List.length_cons, List.length_nil, Nat.reduceAdd, Nat.reduceLeDiff, Nat.zero_le, ↓reduceIte, List.zipIdx_cons, List.zipIdx_nil, List.map_cons, List.map_nil])
    simp only [tmV, tmC, bV]
    simp only [zS, zD, convertA, makeFuncA, Nat.reduceAdd, Nat.reduceSub, Nat.reduceMul, Nat.reduceLT, Nat.reduceLeDiff, Nat.reduceGT, ↓reduceIte, Nat.reduceEqDiff, Nat.reduceBEq, reduceCtorEq, Int.reduceBEq, Int.reduceBNe, Int.reduceLT, Int.reduceLE, Int.reduceGT, Int.reduceGE, zT33, zT3, h, h]
    (refine Eq.trans ?_ rfl; kernel_rfl)
  · rw [h, show mostO 17 = 1 from rfl]
    cases h0 : (x.n == 0)
    all_goals
      have g : (decide (0 ≤ x.n) && decide (x.n ≤ 1)) = ((x.n == 0) || (x.n == 1)) := by rw [Bool.eq_iff_iff, Bool.and_eq_true, Bool.or_eq_true, decide_eq_true_eq, decide_eq_true_eq, beq_iff_eq, beq_iff_eq]; omega
      rw [g, h0]
      simp only [Bool.false_or, Bool.true_or]
      (rw [run_eq]; simp only [stepA, hx, Tryz.func180, Tryz.f180, show retF 180 = false from rfl]; simp only [List.length_cons, List.length_nil, Nat.reduceAdd, Nat.reduceLeDiff, Nat.zero_le, ↓reduceIte, List.zipIdx_cons, List.zipIdx_nil, List.map_cons, List.map_nil])
      simp only [tmV, tmC, bV]
      simp only [zS, zD, convertA, makeFuncA, Nat.reduceAdd, Nat.reduceSub, Nat.reduceMul, Nat.reduceLT, Nat.reduceLeDiff, Nat.reduceGT, ↓reduceIte, Nat.reduceEqDiff, Nat.reduceBEq, reduceCtorEq, Int.reduceBEq, Int.reduceBNe, Int.reduceLT, Int.reduceLE, Int.reduceGT, Int.reduceGE, zT33, zT3, h, h0]
      (refine Eq.trans ?_ rfl; kernel_rfl)
  · rw [h, show mostO 18 = 0 from rfl]
    have g : (decide (0 ≤ x.n) && decide (x.n ≤ 0)) = (x.n == 0) := by rw [Bool.eq_iff_iff, Bool.and_eq_true, decide_eq_true_eq, decide_eq_true_eq, beq_iff_eq]; omega
    rw [g]
    (rw [run_eq]; simp only [stepA, hx, Tryz.func180, Tryz.f180, show retF 180 = false from rfl]; simp only [List.length_cons, List.length_nil, Nat.reduceAdd, Nat.reduceLeDiff, Nat.zero_le, ↓reduceIte, List.zipIdx_cons, List.zipIdx_nil, List.map_cons, List.map_nil])
    simp only [tmV, tmC, bV]
    simp only [zS, zD, convertA, makeFuncA, Nat.reduceAdd, Nat.reduceSub, Nat.reduceMul, Nat.reduceLT, Nat.reduceLeDiff, Nat.reduceGT, ↓reduceIte, Nat.reduceEqDiff, Nat.reduceBEq, reduceCtorEq, Int.reduceBEq, Int.reduceBNe, Int.reduceLT, Int.reduceLE, Int.reduceGT, Int.reduceGE, zT33, zT3, h, h]
    (refine Eq.trans ?_ rfl; kernel_rfl)
  · rw [h, show mostO 19 = 0 from rfl]
    have g : (decide (0 ≤ x.n) && decide (x.n ≤ 0)) = (x.n == 0) := by rw [Bool.eq_iff_iff, Bool.and_eq_true, decide_eq_true_eq, decide_eq_true_eq, beq_iff_eq]; omega
    rw [g]
    (rw [run_eq]; simp only [stepA, hx, Tryz.func180, Tryz.f180, show retF 180 = false from rfl]; simp only [List.length_cons, List.length_nil, Nat.reduceAdd, Nat.reduceLeDiff, Nat.zero_le, ↓reduceIte, List.zipIdx_cons, List.zipIdx_nil, List.map_cons, List.map_nil])
    simp only [tmV, tmC, bV]
    simp only [zS, zD, convertA, makeFuncA, Nat.reduceAdd, Nat.reduceSub, Nat.reduceMul, Nat.reduceLT, Nat.reduceLeDiff, Nat.reduceGT, ↓reduceIte, Nat.reduceEqDiff, Nat.reduceBEq, reduceCtorEq, Int.reduceBEq, Int.reduceBNe, Int.reduceLT, Int.reduceLE, Int.reduceGT, Int.reduceGE, zT33, zT3, h, h]
    (refine Eq.trans ?_ rfl; kernel_rfl)
  · rw [h, show mostO 20 = 0 from rfl]
    have g : (decide (0 ≤ x.n) && decide (x.n ≤ 0)) = (x.n == 0) := by rw [Bool.eq_iff_iff, Bool.and_eq_true, decide_eq_true_eq, decide_eq_true_eq, beq_iff_eq]; omega
    rw [g]
    (rw [run_eq]; simp only [stepA, hx, Tryz.func180, Tryz.f180, show retF 180 = false from rfl]; simp only [List.length_cons, List.length_nil, Nat.reduceAdd, Nat.reduceLeDiff, Nat.zero_le, ↓reduceIte, List.zipIdx_cons, List.zipIdx_nil, List.map_cons, List.map_nil])
    simp only [tmV, tmC, bV]
    simp only [zS, zD, convertA, makeFuncA, Nat.reduceAdd, Nat.reduceSub, Nat.reduceMul, Nat.reduceLT, Nat.reduceLeDiff, Nat.reduceGT, ↓reduceIte, Nat.reduceEqDiff, Nat.reduceBEq, reduceCtorEq, Int.reduceBEq, Int.reduceBNe, Int.reduceLT, Int.reduceLE, Int.reduceGT, Int.reduceGE, zT33, zT3, h, h]
    (refine Eq.trans ?_ rfl; kernel_rfl)
  · rw [h, show mostO 21 = 0 from rfl]
    have g : (decide (0 ≤ x.n) && decide (x.n ≤ 0)) = (x.n == 0) := by rw [Bool.eq_iff_iff, Bool.and_eq_true, decide_eq_true_eq, decide_eq_true_eq, beq_iff_eq]; omega
    rw [g]
    (rw [run_eq]; simp only [stepA, hx, Tryz.func180, Tryz.f180, show retF 180 = false from rfl]; simp only [List.length_cons, List.length_nil, Nat.reduceAdd, Nat.reduceLeDiff, Nat.zero_le, ↓reduceIte, List.zipIdx_cons, List.zipIdx_nil, List.map_cons, List.map_nil])
    simp only [tmV, tmC, bV]
    simp only [zS, zD, convertA, makeFuncA, Nat.reduceAdd, Nat.reduceSub, Nat.reduceMul, Nat.reduceLT, Nat.reduceLeDiff, Nat.reduceGT, ↓reduceIte, Nat.reduceEqDiff, Nat.reduceBEq, reduceCtorEq, Int.reduceBEq, Int.reduceBNe, Int.reduceLT, Int.reduceLE, Int.reduceGT, Int.reduceGE, zT33, zT3, h, h]
    (refine Eq.trans ?_ rfl; kernel_rfl)
  · rw [h, show mostO 22 = 0 from rfl]
    have g : (decide (0 ≤ x.n) && decide (x.n ≤ 0)) = (x.n == 0) := by rw [Bool.eq_iff_iff, Bool.and_eq_true, decide_eq_true_eq, decide_eq_true_eq, beq_iff_eq]; omega
    rw [g]
    (rw [run_eq]; simp only [stepA, hx, Tryz.func180, Tryz.f180, show retF 180 = false from rfl]; simp only [List.length_cons, List.length_nil, Nat.reduceAdd, Nat.reduceLeDiff, Nat.zero_le, ↓reduceIte, List.zipIdx_cons, List.zipIdx_nil, List.map_cons, List.map_nil])
    simp only [tmV, tmC, bV]
    simp only [zS, zD, convertA, makeFuncA, Nat.reduceAdd, Nat.reduceSub, Nat.reduceMul, Nat.reduceLT, Nat.reduceLeDiff, Nat.reduceGT, ↓reduceIte, Nat.reduceEqDiff, Nat.reduceBEq, reduceCtorEq, Int.reduceBEq, Int.reduceBNe, Int.reduceLT, Int.reduceLE, Int.reduceGT, Int.reduceGE, zT33, zT3, h, h]
    (refine Eq.trans ?_ rfl; kernel_rfl)
  · rw [h, show mostO 23 = 0 from rfl]
    have g : (decide (0 ≤ x.n) && decide (x.n ≤ 0)) = (x.n == 0) := by rw [Bool.eq_iff_iff, Bool.and_eq_true, decide_eq_true_eq, decide_eq_true_eq, beq_iff_eq]; omega
    rw [g]
    (rw [run_eq]; simp only [stepA, hx, Tryz.func180, Tryz.f180, show retF 180 = false from rfl]; simp only [List.length_cons, List.length_nil, Nat.reduceAdd, Nat.reduceLeDiff, Nat.zero_le, ↓reduceIte, List.zipIdx_cons, List.zipIdx_nil, List.map_cons, List.map_nil])
    simp only [tmV, tmC, bV]
    simp only [zS, zD, convertA, makeFuncA, Nat.reduceAdd, Nat.reduceSub, Nat.reduceMul, Nat.reduceLT, Nat.reduceLeDiff, Nat.reduceGT, ↓reduceIte, Nat.reduceEqDiff, Nat.reduceBEq, reduceCtorEq, Int.reduceBEq, Int.reduceBNe, Int.reduceLT, Int.reduceLE, Int.reduceGT, Int.reduceGE, zT33, zT3, h, h]
    (refine Eq.trans ?_ rfl; kernel_rfl)
  · rw [h, show mostO 24 = 0 from rfl]
    have g : (decide (0 ≤ x.n) && decide (x.n ≤ 0)) = (x.n == 0) := by rw [Bool.eq_iff_iff, Bool.and_eq_true, decide_eq_true_eq, decide_eq_true_eq, beq_iff_eq]; omega
    rw [g]
    (rw [run_eq]; simp only [stepA, hx, Tryz.func180, Tryz.f180, show retF 180 = false from rfl]; simp only [List.length_cons, List.length_nil, Nat.reduceAdd, Nat.reduceLeDiff, Nat.zero_le, ↓reduceIte, List.zipIdx_cons, List.zipIdx_nil, List.map_cons, List.map_nil])
    simp only [tmV, tmC, bV]
    simp only [zS, zD, convertA, makeFuncA, Nat.reduceAdd, Nat.reduceSub, Nat.reduceMul, Nat.reduceLT, Nat.reduceLeDiff, Nat.reduceGT, ↓reduceIte, Nat.reduceEqDiff, Nat.reduceBEq, reduceCtorEq, Int.reduceBEq, Int.reduceBNe, Int.reduceLT, Int.reduceLE, Int.reduceGT, Int.reduceGE, zT33, zT3, h, h]
    (refine Eq.trans ?_ rfl; kernel_rfl)
  · rw [h, show mostO 25 = 1 from rfl]
    cases h0 : (x.n == 0)
    all_goals
      have g : (decide (0 ≤ x.n) && decide (x.n ≤ 1)) = ((x.n == 0) || (x.n == 1)) := by rw [Bool.eq_iff_iff, Bool.and_eq_true, Bool.or_eq_true, decide_eq_true_eq, decide_eq_true_eq, beq_iff_eq, beq_iff_eq]; omega
      rw [g, h0]
      simp only [Bool.false_or, Bool.true_or]
      (rw [run_eq]; simp only [stepA, hx, Tryz.func180, Tryz.f180, show retF 180 = false from rfl]; simp only [List.length_cons, List.length_nil, Nat.reduceAdd, Nat.reduceLeDiff, Nat.zero_le, ↓reduceIte, List.zipIdx_cons, List.zipIdx_nil, List.map_cons, List.map_nil])
      simp only [tmV, tmC, bV]
      simp only [zS, zD, convertA, makeFuncA, Nat.reduceAdd, Nat.reduceSub, Nat.reduceMul, Nat.reduceLT, Nat.reduceLeDiff, Nat.reduceGT, ↓reduceIte, Nat.reduceEqDiff, Nat.reduceBEq, reduceCtorEq, Int.reduceBEq, Int.reduceBNe, Int.reduceLT, Int.reduceLE, Int.reduceGT, Int.reduceGE, zT33, zT3, h, h0]
      (refine Eq.trans ?_ rfl; kernel_rfl)
  · rw [h, show mostO 26 = 0 from rfl]
    have g : (decide (0 ≤ x.n) && decide (x.n ≤ 0)) = (x.n == 0) := by rw [Bool.eq_iff_iff, Bool.and_eq_true, decide_eq_true_eq, decide_eq_true_eq, beq_iff_eq]; omega
    rw [g]
    (rw [run_eq]; simp only [stepA, hx, Tryz.func180, Tryz.f180, show retF 180 = false from rfl]; simp only [List.length_cons, List.length_nil, Nat.reduceAdd, Nat.reduceLeDiff, Nat.zero_le, ↓reduceIte, List.zipIdx_cons, List.zipIdx_nil, List.map_cons, List.map_nil])
    simp only [tmV, tmC, bV]
    simp only [zS, zD, convertA, makeFuncA, Nat.reduceAdd, Nat.reduceSub, Nat.reduceMul, Nat.reduceLT, Nat.reduceLeDiff, Nat.reduceGT, ↓reduceIte, Nat.reduceEqDiff, Nat.reduceBEq, reduceCtorEq, Int.reduceBEq, Int.reduceBNe, Int.reduceLT, Int.reduceLE, Int.reduceGT, Int.reduceGE, zT33, zT3, h, h]
    (refine Eq.trans ?_ rfl; kernel_rfl)
  · rw [h, show mostO 27 = 7 from rfl]
    have g2 : decide (x.n < 8) = decide (x.n ≤ 7) := by rw [Bool.eq_iff_iff, decide_eq_true_eq, decide_eq_true_eq]; omega
    cases hn : decide (0 ≤ x.n)
    all_goals
      simp only [Bool.false_and, Bool.true_and]
      (rw [run_eq]; simp only [stepA, hx, Tryz.func180, Tryz.f180, show retF 180 = false from rfl]; simp only [List.length_cons, List.length_nil, Nat.reduceAdd, Nat.reduceLeDiff, Nat.zero_le, ↓reduceIte, List.zipIdx_cons, List.zipIdx_nil, List.map_cons, List.map_nil])
      simp only [tmV, tmC, bV]
      simp only [zS, zD, convertA, makeFuncA, Nat.reduceAdd, Nat.reduceSub, Nat.reduceMul, Nat.reduceLT, Nat.reduceLeDiff, Nat.reduceGT, ↓reduceIte, Nat.reduceEqDiff, Nat.reduceBEq, reduceCtorEq, Int.reduceBEq, Int.reduceBNe, Int.reduceLT, Int.reduceLE, Int.reduceGT, Int.reduceGE, zT33, zT3, h, ge_iff_le, hn, g2]
      (refine Eq.trans ?_ rfl; kernel_rfl)
  · rw [h, show mostO 28 = 1 from rfl]
    cases h0 : (x.n == 0)
    all_goals
      have g : (decide (0 ≤ x.n) && decide (x.n ≤ 1)) = ((x.n == 0) || (x.n == 1)) := by rw [Bool.eq_iff_iff, Bool.and_eq_true, Bool.or_eq_true, decide_eq_true_eq, decide_eq_true_eq, beq_iff_eq, beq_iff_eq]; omega
      rw [g, h0]
      simp only [Bool.false_or, Bool.true_or]
      (rw [run_eq]; simp only [stepA, hx, Tryz.func180, Tryz.f180, show retF 180 = false from rfl]; simp only [List.length_cons, List.length_nil, Nat.reduceAdd, Nat.reduceLeDiff, Nat.zero_le, ↓reduceIte, List.zipIdx_cons, List.zipIdx_nil, List.map_cons, List.map_nil])
      simp only [tmV, tmC, bV]
      simp only [zS, zD, convertA, makeFuncA, Nat.reduceAdd, Nat.reduceSub, Nat.reduceMul, Nat.reduceLT, Nat.reduceLeDiff, Nat.reduceGT, ↓reduceIte, Nat.reduceEqDiff, Nat.reduceBEq, reduceCtorEq, Int.reduceBEq, Int.reduceBNe, Int.reduceLT, Int.reduceLE, Int.reduceGT, Int.reduceGE, zT33, zT3, h, h0]
      (refine Eq.trans ?_ rfl; kernel_rfl)
  · rw [h, show mostO 29 = 2000 from rfl]
    cases hn : decide (0 ≤ x.n)
    all_goals
      simp only [Bool.false_and, Bool.true_and]
      (rw [run_eq]; simp only [stepA, hx, Tryz.func180, Tryz.f180, show retF 180 = false from rfl]; simp only [List.length_cons, List.length_nil, Nat.reduceAdd, Nat.reduceLeDiff, Nat.zero_le, ↓reduceIte, List.zipIdx_cons, List.zipIdx_nil, List.map_cons, List.map_nil])
      simp only [tmV, tmC, bV]
      simp only [zS, zD, convertA, makeFuncA, Nat.reduceAdd, Nat.reduceSub, Nat.reduceMul, Nat.reduceLT, Nat.reduceLeDiff, Nat.reduceGT, ↓reduceIte, Nat.reduceEqDiff, Nat.reduceBEq, reduceCtorEq, Int.reduceBEq, Int.reduceBNe, Int.reduceLT, Int.reduceLE, Int.reduceGT, Int.reduceGE, zT33, zT3, h, ge_iff_le, hn]
      (refine Eq.trans ?_ rfl; kernel_rfl)
  · rw [h, show mostO 30 = 0 from rfl]
    have g : (decide (0 ≤ x.n) && decide (x.n ≤ 0)) = (x.n == 0) := by rw [Bool.eq_iff_iff, Bool.and_eq_true, decide_eq_true_eq, decide_eq_true_eq, beq_iff_eq]; omega
    rw [g]
    (rw [run_eq]; simp only [stepA, hx, Tryz.func180, Tryz.f180, show retF 180 = false from rfl]; simp only [List.length_cons, List.length_nil, Nat.reduceAdd, Nat.reduceLeDiff, Nat.zero_le, ↓reduceIte, List.zipIdx_cons, List.zipIdx_nil, List.map_cons, List.map_nil])
    simp only [tmV, tmC, bV]
    simp only [zS, zD, convertA, makeFuncA, Nat.reduceAdd, Nat.reduceSub, Nat.reduceMul, Nat.reduceLT, Nat.reduceLeDiff, Nat.reduceGT, ↓reduceIte, Nat.reduceEqDiff, Nat.reduceBEq, reduceCtorEq, Int.reduceBEq, Int.reduceBNe, Int.reduceLT, Int.reduceLE, Int.reduceGT, Int.reduceGE, zT33, zT3, h, h]
    (refine Eq.trans ?_ rfl; kernel_rfl)
end Go.Proofs.YteenjodhmppgjaaGreatDoor.Am
end
section
/- The form of a node, by the reference. Printed by tfits/nr.py. -/
namespace Go.Proofs.YteenjodhmppgjaaGreatDoor.Am
open Go
variable (ext : Ext)
set_option maxHeartbeats 8000000
set_option maxRecDepth 4000
noncomputable def B110 : Code := (Tryz.f110.body.getD .skip)
noncomputable def L110a : Code := sub B110 [1, 1, 1, 1, 1, 1, 0, 1, 0, 0]
noncomputable def K110a : List It := [.inBlock 0, .code (sub B110 [1, 1, 1, 1, 1, 1, 1])]
noncomputable def H110a (ext : Ext) (m : Nat) (env : Env) (loc : List O) : Option Out := run Tryz.prog ext (.k ⟨94, m, [.tmp 2], false⟩ (.code L110a :: .inLoop L110a :: K110a) env loc)
def nodeR (many : Bool) (lev : Int) (elim : Bool) (pq : Int) (x : Tm) (c nb : Bool) : Bool :=
  (if elim = true then decide (3 ≤ (x.l.length : Int)) && decide ((x.l.length : Int) ≤ 11) else decide ((x.l.length : Int) = pq)) && ((if many = true then decide ((x.u.length : Int) ≤ 8) else decide ((x.u.length : Int) = lev)) &&
    (c && ((if many = true then nameOK x.s else (x.s.toList == emptyS.toList)) && nb)))
def E110 (k : Int) : Env := [(1, .c (.ptr 0 0)), (5, iV k)]
def O110 (x : Tm) : List O := [.box (tmC x)]
/-- Behind the levels: the name and the number. -/
theorem loop110 (x : Tm) (many nb : Bool) (hl : x.u.length < 2 ^ 50) (h178 : ∀ y ∈ x.u, run Tryz.prog ext (.call 178 [levV y] []) = some (.ret [bV (canonL y)] [])) (h177 : run Tryz.prog ext (.call 177 [iV x.op] []) = some (.ret [bV many] []))
    (hn : run Tryz.prog ext (.call 179 [sV x.s] []) = some (.ret [bV (nameOK x.s)] [])) (h180 : run Tryz.prog ext (.call 180 [tmV x] []) = some (.ret [bV nb] [])) :
    H110a ext 0 (E110 0) (O110 x) = some (.ret [bV (x.u.all canonL && ((if many = true then nameOK x.s else (x.s.toList == emptyS.toList)) && nb))] []) := by
  have := loop_find x.u (fun k => H110a ext 0 (E110 k) (O110 x)) (fun y => !canonL y) (fun _ => some (.ret [bV false] [])) (some (.ret [bV ((if many = true then nameOK x.s else (x.s.toList == emptyS.toList)) && nb)] [])) (by omega) (fun k y hk hl => by
      have h0 : (0 : Int) ≤ k := by omega
      have hy := h178 y (List.mem_of_getElem? hk)
      have hd : x.uD = .s 2 (x.u.map levD) := listD_of_lt h0 (by simpa using hl)
      unfold H110a
      refine ⟨fun hp => ?_, fun hp out h => ?_⟩
      · have hp : canonL y = false := by simpa using hp
        rw [hp] at hy
        simp only [iV, bV, levV, levC, tmC, E110, O110, hd] at hy ⊢
        (rw [show (It.code L110a) = It.code (sub B110 [1, 1, 1, 1, 1, 1, 0, 1, 0, 0]) from rfl]; simp only [B110, K110a, sub, Option.getD_some, Tryz.f110, ↓reduceIte, Nat.one_ne_zero])
        simp only [zS, zD, convertA, makeFuncA, Nat.reduceAdd, Nat.reduceSub, Nat.reduceMul, Nat.reduceLT, Nat.reduceLeDiff, Nat.reduceGT, ↓reduceIte, Nat.reduceEqDiff, Nat.reduceBEq, reduceCtorEq, Int.reduceBEq, Int.reduceBNe, Int.reduceLT, Int.reduceLE, Int.reduceGT, Int.reduceGE, zT33, zT36, zT30, zT3, h0, hl, Int.toNat_natCast, hk, levD_eq y, hy]
        (refine Eq.trans ?_ rfl; kernel_rfl)
      · have hp : canonL y = true := by simpa using hp
        rw [hp] at hy
        simp only [iV, bV, levV, levC, tmC, E110, O110, hd] at hy h ⊢
        (rw [show (It.code L110a) = It.code (sub B110 [1, 1, 1, 1, 1, 1, 0, 1, 0, 0]) from rfl]; simp only [B110, K110a, sub, Option.getD_some, Tryz.f110, ↓reduceIte, Nat.one_ne_zero])
        simp only [zS, zD, convertA, makeFuncA, Nat.reduceAdd, Nat.reduceSub, Nat.reduceMul, Nat.reduceLT, Nat.reduceLeDiff, Nat.reduceGT, ↓reduceIte, Nat.reduceEqDiff, Nat.reduceBEq, reduceCtorEq, Int.reduceBEq, Int.reduceBNe, Int.reduceLT, Int.reduceLE, Int.reduceGT, Int.reduceGE, zT33, zT36, zT30, zT3, h0, hl, Int.toNat_natCast, hk, levD_eq y, hy]
        (refine (r_inLoop_some ?_).trans h; kernel_rfl)) (by
      unfold H110a
      cases many with
      | true =>
        rw [if_pos rfl]
        cases hs : nameOK x.s with
        | false =>
          rw [hs] at hn
          rw [Bool.false_and]
          simp only [iV, bV, sV, tmV, tmC, Tm.uD, E110, O110] at h177 hn h180 ⊢
          (rw [show (It.code L110a) = It.code (sub B110 [1, 1, 1, 1, 1, 1, 0, 1, 0, 0]) from rfl]; simp only [B110, K110a, sub, Option.getD_some, Tryz.f110, ↓reduceIte, Nat.one_ne_zero])
          simp only [zS, zD, convertA, makeFuncA, Nat.reduceAdd, Nat.reduceSub, Nat.reduceMul, Nat.reduceLT, Nat.reduceLeDiff, Nat.reduceGT, ↓reduceIte, Nat.reduceEqDiff, Nat.reduceBEq, reduceCtorEq, Int.reduceBEq, Int.reduceBNe, Int.reduceLT, Int.reduceLE, Int.reduceGT, Int.reduceGE, zT33, zT30, zT9, zT3, Int.lt_irrefl, h177, hn]
          (refine Eq.trans ?_ rfl; kernel_rfl)
        | true =>
          rw [hs] at hn
          rw [Bool.true_and]
          simp only [iV, bV, sV, tmV, tmC, Tm.uD, E110, O110] at h177 hn h180 ⊢
          (rw [show (It.code L110a) = It.code (sub B110 [1, 1, 1, 1, 1, 1, 0, 1, 0, 0]) from rfl]; simp only [B110, K110a, sub, Option.getD_some, Tryz.f110, ↓reduceIte, Nat.one_ne_zero])
          simp only [zS, zD, convertA, makeFuncA, Nat.reduceAdd, Nat.reduceSub, Nat.reduceMul, Nat.reduceLT, Nat.reduceLeDiff, Nat.reduceGT, ↓reduceIte, Nat.reduceEqDiff, Nat.reduceBEq, reduceCtorEq, Int.reduceBEq, Int.reduceBNe, Int.reduceLT, Int.reduceLE, Int.reduceGT, Int.reduceGE, zT33, zT30, zT9, zT3, Int.lt_irrefl, h177, hn, h180]
          (refine Eq.trans ?_ rfl; kernel_rfl)
      | false =>
        rw [if_neg (by simp)]
        cases hs : (x.s.toList == emptyS.toList) with
        | false =>
          unfold emptyS at hs
          rw [Bool.false_and]
          simp only [iV, bV, sV, tmV, tmC, Tm.uD, E110, O110] at h177 hn h180 ⊢
          (rw [show (It.code L110a) = It.code (sub B110 [1, 1, 1, 1, 1, 1, 0, 1, 0, 0]) from rfl]; simp only [B110, K110a, sub, Option.getD_some, Tryz.f110, ↓reduceIte, Nat.one_ne_zero])
          simp only [zS, zD, convertA, makeFuncA, Nat.reduceAdd, Nat.reduceSub, Nat.reduceMul, Nat.reduceLT, Nat.reduceLeDiff, Nat.reduceGT, ↓reduceIte, Nat.reduceEqDiff, Nat.reduceBEq, reduceCtorEq, Int.reduceBEq, Int.reduceBNe, Int.reduceLT, Int.reduceLE, Int.reduceGT, Int.reduceGE, zT33, zT30, zT9, zT3, Int.lt_irrefl, h177, hs]
          (refine Eq.trans ?_ rfl; kernel_rfl)
        | true =>
          unfold emptyS at hs
          rw [Bool.true_and]
          simp only [iV, bV, sV, tmV, tmC, Tm.uD, E110, O110] at h177 hn h180 ⊢
          (rw [show (It.code L110a) = It.code (sub B110 [1, 1, 1, 1, 1, 1, 0, 1, 0, 0]) from rfl]; simp only [B110, K110a, sub, Option.getD_some, Tryz.f110, ↓reduceIte, Nat.one_ne_zero])
          simp only [zS, zD, convertA, makeFuncA, Nat.reduceAdd, Nat.reduceSub, Nat.reduceMul, Nat.reduceLT, Nat.reduceLeDiff, Nat.reduceGT, ↓reduceIte, Nat.reduceEqDiff, Nat.reduceBEq, reduceCtorEq, Int.reduceBEq, Int.reduceBNe, Int.reduceLT, Int.reduceLE, Int.reduceGT, Int.reduceGE, zT33, zT30, zT9, zT3, Int.lt_irrefl, h177, hs, h180]
          (refine Eq.trans ?_ rfl; kernel_rfl))
  rw [this]
  have hall : x.u.all canonL = !(x.u.any fun y => !canonL y) := by rw [List.not_any_eq_all_not]; simp
  rw [hall, ← List.findIdx?_isSome]
  cases x.u.findIdx? (fun y => !canonL y) <;> rfl
theorem ref110_e (hx : ext 110 = none) (x : Tm) (nb : Bool) (h175 : run Tryz.prog ext (.call 175 [iV x.op] []) = some (.ret [iV (-1)] [])) (h176 : run Tryz.prog ext (.call 176 [iV x.op] []) = some (.ret [bV false] [])) (h177 : run Tryz.prog ext (.call 177 [iV x.op] []) = some (.ret [bV true] []))
    (hl : x.u.length < 2 ^ 50) (h178 : ∀ y ∈ x.u, run Tryz.prog ext (.call 178 [levV y] []) = some (.ret [bV (canonL y)] [])) (hn : run Tryz.prog ext (.call 179 [sV x.s] []) = some (.ret [bV (nameOK x.s)] [])) (h180 : run Tryz.prog ext (.call 180 [tmV x] []) = some (.ret [bV nb] [])) :
    run Tryz.prog ext (.call 110 [tmV x] []) = some (.ret [bV (nodeR true 0 true (-1) x (x.u.all canonL) nb)] []) := by
  have hloop := loop110 ext x true nb hl h178 h177 hn h180
  unfold nodeR
  simp only [if_true, if_false, Bool.false_eq_true, reduceCtorEq] at hloop ⊢
  have d5 := dlt (x.l.length : Int) 3
  have d6 := dgt (x.l.length : Int) 11
  have d3 := dgt (x.u.length : Int) 8
  cases h0 : decide (3 ≤ (x.l.length : Int)) with
  | false =>
    rw [h0] at d5
    simp only [Bool.false_and, Bool.true_and, Bool.and_false, Bool.and_true]
    (rw [run_eq]; simp only [stepA, hx, Tryz.func110, Tryz.f110, show retF 110 = false from rfl]; simp only [List.length_cons, List.length_nil, Nat.reduceAdd, Nat.reduceLeDiff, Nat.zero_le, ↓reduceIte, List.zipIdx_cons, List.zipIdx_nil, List.map_cons, List.map_nil])
    simp only [tmV, tmC, iV, bV, Tm.uD] at h175 h176 h177 ⊢
    simp only [zS, zD, convertA, makeFuncA, Nat.reduceAdd, Nat.reduceSub, Nat.reduceMul, Nat.reduceLT, Nat.reduceLeDiff, Nat.reduceGT, ↓reduceIte, Nat.reduceEqDiff, Nat.reduceBEq, reduceCtorEq, Int.reduceBEq, Int.reduceBNe, Int.reduceLT, Int.reduceLE, Int.reduceGT, Int.reduceGE, zT33, zT31, zT30, zT3, lenA_lD, h175, h176, h177, d5, d6, ge_iff_le]
    (refine Eq.trans ?_ rfl; kernel_rfl)
  | true =>
    rw [h0] at d5
    simp only [Bool.false_and, Bool.true_and, Bool.and_false, Bool.and_true]
    cases h1 : decide ((x.l.length : Int) ≤ 11) with
    | false =>
      rw [h1] at d6
      simp only [Bool.false_and, Bool.true_and, Bool.and_false, Bool.and_true]
      (rw [run_eq]; simp only [stepA, hx, Tryz.func110, Tryz.f110, show retF 110 = false from rfl]; simp only [List.length_cons, List.length_nil, Nat.reduceAdd, Nat.reduceLeDiff, Nat.zero_le, ↓reduceIte, List.zipIdx_cons, List.zipIdx_nil, List.map_cons, List.map_nil])
      simp only [tmV, tmC, iV, bV, Tm.uD] at h175 h176 h177 ⊢
      simp only [zS, zD, convertA, makeFuncA, Nat.reduceAdd, Nat.reduceSub, Nat.reduceMul, Nat.reduceLT, Nat.reduceLeDiff, Nat.reduceGT, ↓reduceIte, Nat.reduceEqDiff, Nat.reduceBEq, reduceCtorEq, Int.reduceBEq, Int.reduceBNe, Int.reduceLT, Int.reduceLE, Int.reduceGT, Int.reduceGE, zT33, zT31, zT30, zT3, lenA_lD, h175, h176, h177, d5, d6, ge_iff_le]
      (refine Eq.trans ?_ rfl; kernel_rfl)
    | true =>
      rw [h1] at d6
      simp only [Bool.false_and, Bool.true_and, Bool.and_false, Bool.and_true]
      cases h2 : decide ((x.u.length : Int) ≤ 8) with
      | false =>
        rw [h2] at d3
        simp only [Bool.false_and, Bool.true_and, Bool.and_false, Bool.and_true]
        (rw [run_eq]; simp only [stepA, hx, Tryz.func110, Tryz.f110, show retF 110 = false from rfl]; simp only [List.length_cons, List.length_nil, Nat.reduceAdd, Nat.reduceLeDiff, Nat.zero_le, ↓reduceIte, List.zipIdx_cons, List.zipIdx_nil, List.map_cons, List.map_nil])
        simp only [tmV, tmC, iV, bV, Tm.uD] at h175 h176 h177 ⊢
        simp only [zS, zD, convertA, makeFuncA, Nat.reduceAdd, Nat.reduceSub, Nat.reduceMul, Nat.reduceLT, Nat.reduceLeDiff, Nat.reduceGT, ↓reduceIte, Nat.reduceEqDiff, Nat.reduceBEq, reduceCtorEq, Int.reduceBEq, Int.reduceBNe, Int.reduceLT, Int.reduceLE, Int.reduceGT, Int.reduceGE, zT33, zT31, zT30, zT3, lenA_lD, h175, h176, h177, d5, d6, ge_iff_le, d3]
        (refine Eq.trans ?_ rfl; kernel_rfl)
      | true =>
        rw [h2] at d3
        simp only [Bool.false_and, Bool.true_and, Bool.and_false, Bool.and_true]
        refine Eq.trans ?_ hloop
        generalize hout : H110a ext 0 (E110 0) (O110 x) = out
        have h := hout
        unfold H110a at h
        (rw [run_eq]; simp only [stepA, hx, Tryz.func110, Tryz.f110, show retF 110 = false from rfl]; simp only [List.length_cons, List.length_nil, Nat.reduceAdd, Nat.reduceLeDiff, Nat.zero_le, ↓reduceIte, List.zipIdx_cons, List.zipIdx_nil, List.map_cons, List.map_nil])
        simp only [tmV, tmC, iV, bV, Tm.uD, E110, O110] at h175 h176 h177 h ⊢
        simp only [zS, zD, convertA, makeFuncA, Nat.reduceAdd, Nat.reduceSub, Nat.reduceMul, Nat.reduceLT, Nat.reduceLeDiff, Nat.reduceGT, ↓reduceIte, Nat.reduceEqDiff, Nat.reduceBEq, reduceCtorEq, Int.reduceBEq, Int.reduceBNe, Int.reduceLT, Int.reduceLE, Int.reduceGT, Int.reduceGE, zT33, zT31, zT30, zT3, lenA_lD, h175, h176, h177, d5, d6, ge_iff_le, d3]
        (refine (r_inLoop_some ?_).trans h; kernel_rfl)
theorem ref110_m (hx : ext 110 = none) (x : Tm) (nb : Bool) (pq : Int) (hpq : 0 ≤ pq) (h175 : run Tryz.prog ext (.call 175 [iV x.op] []) = some (.ret [iV pq] [])) (h176 : run Tryz.prog ext (.call 176 [iV x.op] []) = some (.ret [bV false] [])) (h177 : run Tryz.prog ext (.call 177 [iV x.op] []) = some (.ret [bV true] []))
    (hl : x.u.length < 2 ^ 50) (h178 : ∀ y ∈ x.u, run Tryz.prog ext (.call 178 [levV y] []) = some (.ret [bV (canonL y)] [])) (hn : run Tryz.prog ext (.call 179 [sV x.s] []) = some (.ret [bV (nameOK x.s)] [])) (h180 : run Tryz.prog ext (.call 180 [tmV x] []) = some (.ret [bV nb] [])) :
    run Tryz.prog ext (.call 110 [tmV x] []) = some (.ret [bV (nodeR true 0 false pq x (x.u.all canonL) nb)] []) := by
  have hloop := loop110 ext x true nb hl h178 h177 hn h180
  unfold nodeR
  simp only [if_true, if_false, Bool.false_eq_true, reduceCtorEq] at hloop ⊢
  have q1 : (pq == -2) = false := beq_eq_false_iff_ne.2 (by omega)
  have q2 : (pq == -1) = false := beq_eq_false_iff_ne.2 (by omega)
  have q3 : decide (0 ≤ pq) = true := decide_eq_true hpq
  have d5 := dne (x.l.length : Int) pq
  have d3 := dgt (x.u.length : Int) 8
  cases h0 : decide ((x.l.length : Int) = pq) with
  | false =>
    rw [h0] at d5
    simp only [Bool.false_and, Bool.true_and, Bool.and_false, Bool.and_true]
    (rw [run_eq]; simp only [stepA, hx, Tryz.func110, Tryz.f110, show retF 110 = false from rfl]; simp only [List.length_cons, List.length_nil, Nat.reduceAdd, Nat.reduceLeDiff, Nat.zero_le, ↓reduceIte, List.zipIdx_cons, List.zipIdx_nil, List.map_cons, List.map_nil])
    simp only [tmV, tmC, iV, bV, Tm.uD] at h175 h176 h177 ⊢
    simp only [zS, zD, convertA, makeFuncA, Nat.reduceAdd, Nat.reduceSub, Nat.reduceMul, Nat.reduceLT, Nat.reduceLeDiff, Nat.reduceGT, ↓reduceIte, Nat.reduceEqDiff, Nat.reduceBEq, reduceCtorEq, Int.reduceBEq, Int.reduceBNe, Int.reduceLT, Int.reduceLE, Int.reduceGT, Int.reduceGE, zT33, zT31, zT30, zT3, lenA_lD, h175, h176, h177, d5, q1, q2, q3, ge_iff_le]
    (refine Eq.trans ?_ rfl; kernel_rfl)
  | true =>
    rw [h0] at d5
    simp only [Bool.false_and, Bool.true_and, Bool.and_false, Bool.and_true]
    cases h1 : decide ((x.u.length : Int) ≤ 8) with
    | false =>
      rw [h1] at d3
      simp only [Bool.false_and, Bool.true_and, Bool.and_false, Bool.and_true]
      (rw [run_eq]; simp only [stepA, hx, Tryz.func110, Tryz.f110, show retF 110 = false from rfl]; simp only [List.length_cons, List.length_nil, Nat.reduceAdd, Nat.reduceLeDiff, Nat.zero_le, ↓reduceIte, List.zipIdx_cons, List.zipIdx_nil, List.map_cons, List.map_nil])
      simp only [tmV, tmC, iV, bV, Tm.uD] at h175 h176 h177 ⊢
      simp only [zS, zD, convertA, makeFuncA, Nat.reduceAdd, Nat.reduceSub, Nat.reduceMul, Nat.reduceLT, Nat.reduceLeDiff, Nat.reduceGT, ↓reduceIte, Nat.reduceEqDiff, Nat.reduceBEq, reduceCtorEq, Int.reduceBEq, Int.reduceBNe, Int.reduceLT, Int.reduceLE, Int.reduceGT, Int.reduceGE, zT33, zT31, zT30, zT3, lenA_lD, h175, h176, h177, d5, q1, q2, q3, ge_iff_le, d3]
      (refine Eq.trans ?_ rfl; kernel_rfl)
    | true =>
      rw [h1] at d3
      simp only [Bool.false_and, Bool.true_and, Bool.and_false, Bool.and_true]
      refine Eq.trans ?_ hloop
      generalize hout : H110a ext 0 (E110 0) (O110 x) = out
      have h := hout
      unfold H110a at h
      (rw [run_eq]; simp only [stepA, hx, Tryz.func110, Tryz.f110, show retF 110 = false from rfl]; simp only [List.length_cons, List.length_nil, Nat.reduceAdd, Nat.reduceLeDiff, Nat.zero_le, ↓reduceIte, List.zipIdx_cons, List.zipIdx_nil, List.map_cons, List.map_nil])
      simp only [tmV, tmC, iV, bV, Tm.uD, E110, O110] at h175 h176 h177 h ⊢
      simp only [zS, zD, convertA, makeFuncA, Nat.reduceAdd, Nat.reduceSub, Nat.reduceMul, Nat.reduceLT, Nat.reduceLeDiff, Nat.reduceGT, ↓reduceIte, Nat.reduceEqDiff, Nat.reduceBEq, reduceCtorEq, Int.reduceBEq, Int.reduceBNe, Int.reduceLT, Int.reduceLE, Int.reduceGT, Int.reduceGE, zT33, zT31, zT30, zT3, lenA_lD, h175, h176, h177, d5, q1, q2, q3, ge_iff_le, d3]
      (refine (r_inLoop_some ?_).trans h; kernel_rfl)
theorem ref110_o (hx : ext 110 = none) (x : Tm) (nb : Bool) (pq : Int) (hpq : 0 ≤ pq) (h175 : run Tryz.prog ext (.call 175 [iV x.op] []) = some (.ret [iV pq] [])) (h176 : run Tryz.prog ext (.call 176 [iV x.op] []) = some (.ret [bV true] [])) (h177 : run Tryz.prog ext (.call 177 [iV x.op] []) = some (.ret [bV false] []))
    (hl : x.u.length < 2 ^ 50) (h178 : ∀ y ∈ x.u, run Tryz.prog ext (.call 178 [levV y] []) = some (.ret [bV (canonL y)] [])) (hn : run Tryz.prog ext (.call 179 [sV x.s] []) = some (.ret [bV (nameOK x.s)] [])) (h180 : run Tryz.prog ext (.call 180 [tmV x] []) = some (.ret [bV nb] [])) :
    run Tryz.prog ext (.call 110 [tmV x] []) = some (.ret [bV (nodeR false 1 false pq x (x.u.all canonL) nb)] []) := by
  have hloop := loop110 ext x false nb hl h178 h177 hn h180
  unfold nodeR
  simp only [if_true, if_false, Bool.false_eq_true, reduceCtorEq] at hloop ⊢
  have q1 : (pq == -2) = false := beq_eq_false_iff_ne.2 (by omega)
  have q2 : (pq == -1) = false := beq_eq_false_iff_ne.2 (by omega)
  have q3 : decide (0 ≤ pq) = true := decide_eq_true hpq
  have d5 := dne (x.l.length : Int) pq
  have d3 := dne (x.u.length : Int) 1
  cases h0 : decide ((x.l.length : Int) = pq) with
  | false =>
    rw [h0] at d5
    simp only [Bool.false_and, Bool.true_and, Bool.and_false, Bool.and_true]
    (rw [run_eq]; simp only [stepA, hx, Tryz.func110, Tryz.f110, show retF 110 = false from rfl]; simp only [List.length_cons, List.length_nil, Nat.reduceAdd, Nat.reduceLeDiff, Nat.zero_le, ↓reduceIte, List.zipIdx_cons, List.zipIdx_nil, List.map_cons, List.map_nil])
    simp only [tmV, tmC, iV, bV, Tm.uD] at h175 h176 h177 ⊢
    simp only [zS, zD, convertA, makeFuncA, Nat.reduceAdd, Nat.reduceSub, Nat.reduceMul, Nat.reduceLT, Nat.reduceLeDiff, Nat.reduceGT, ↓reduceIte, Nat.reduceEqDiff, Nat.reduceBEq, reduceCtorEq, Int.reduceBEq, Int.reduceBNe, Int.reduceLT, Int.reduceLE, Int.reduceGT, Int.reduceGE, zT33, zT31, zT30, zT3, lenA_lD, h175, h176, h177, d5, q1, q2, q3, ge_iff_le]
    (refine Eq.trans ?_ rfl; kernel_rfl)
  | true =>
    rw [h0] at d5
    simp only [Bool.false_and, Bool.true_and, Bool.and_false, Bool.and_true]
    cases h1 : decide ((x.u.length : Int) = 1) with
    | false =>
      rw [h1] at d3
      simp only [Bool.false_and, Bool.true_and, Bool.and_false, Bool.and_true]
      (rw [run_eq]; simp only [stepA, hx, Tryz.func110, Tryz.f110, show retF 110 = false from rfl]; simp only [List.length_cons, List.length_nil, Nat.reduceAdd, Nat.reduceLeDiff, Nat.zero_le, ↓reduceIte, List.zipIdx_cons, List.zipIdx_nil, List.map_cons, List.map_nil])
      simp only [tmV, tmC, iV, bV, Tm.uD] at h175 h176 h177 ⊢
      simp only [zS, zD, convertA, makeFuncA, Nat.reduceAdd, Nat.reduceSub, Nat.reduceMul, Nat.reduceLT, Nat.reduceLeDiff, Nat.reduceGT, ↓reduceIte, Nat.reduceEqDiff, Nat.reduceBEq, reduceCtorEq, Int.reduceBEq, Int.reduceBNe, Int.reduceLT, Int.reduceLE, Int.reduceGT, Int.reduceGE, zT33, zT31, zT30, zT3, lenA_lD, h175, h176, h177, d5, q1, q2, q3, ge_iff_le, d3]
      (refine Eq.trans ?_ rfl; kernel_rfl)
    | true =>
      rw [h1] at d3
      have d8 : decide ((x.u.length : Int) > 8) = false := decide_eq_false (by have := of_decide_eq_true h1; omega)
      simp only [Bool.false_and, Bool.true_and, Bool.and_false, Bool.and_true]
      refine Eq.trans ?_ hloop
      generalize hout : H110a ext 0 (E110 0) (O110 x) = out
      have h := hout
      unfold H110a at h
      (rw [run_eq]; simp only [stepA, hx, Tryz.func110, Tryz.f110, show retF 110 = false from rfl]; simp only [List.length_cons, List.length_nil, Nat.reduceAdd, Nat.reduceLeDiff, Nat.zero_le, ↓reduceIte, List.zipIdx_cons, List.zipIdx_nil, List.map_cons, List.map_nil])
      simp only [tmV, tmC, iV, bV, Tm.uD, E110, O110] at h175 h176 h177 h ⊢
      simp only [zS, zD, convertA, makeFuncA, Nat.reduceAdd, Nat.reduceSub, Nat.reduceMul, Nat.reduceLT, Nat.reduceLeDiff, Nat.reduceGT, ↓reduceIte, Nat.reduceEqDiff, Nat.reduceBEq, reduceCtorEq, Int.reduceBEq, Int.reduceBNe, Int.reduceLT, Int.reduceLE, Int.reduceGT, Int.reduceGE, zT33, zT31, zT30, zT3, lenA_lD, h175, h176, h177, d5, q1, q2, q3, ge_iff_le, d3, d8]
      (refine (r_inLoop_some ?_).trans h; kernel_rfl)
theorem ref110_n (hx : ext 110 = none) (x : Tm) (nb : Bool) (pq : Int) (hpq : 0 ≤ pq) (h175 : run Tryz.prog ext (.call 175 [iV x.op] []) = some (.ret [iV pq] [])) (h176 : run Tryz.prog ext (.call 176 [iV x.op] []) = some (.ret [bV false] [])) (h177 : run Tryz.prog ext (.call 177 [iV x.op] []) = some (.ret [bV false] []))
    (hl : x.u.length < 2 ^ 50) (h178 : ∀ y ∈ x.u, run Tryz.prog ext (.call 178 [levV y] []) = some (.ret [bV (canonL y)] [])) (hn : run Tryz.prog ext (.call 179 [sV x.s] []) = some (.ret [bV (nameOK x.s)] [])) (h180 : run Tryz.prog ext (.call 180 [tmV x] []) = some (.ret [bV nb] [])) :
    run Tryz.prog ext (.call 110 [tmV x] []) = some (.ret [bV (nodeR false 0 false pq x (x.u.all canonL) nb)] []) := by
  have hloop := loop110 ext x false nb hl h178 h177 hn h180
  unfold nodeR
  simp only [if_true, if_false, Bool.false_eq_true, reduceCtorEq] at hloop ⊢
  have q1 : (pq == -2) = false := beq_eq_false_iff_ne.2 (by omega)
  have q2 : (pq == -1) = false := beq_eq_false_iff_ne.2 (by omega)
  have q3 : decide (0 ≤ pq) = true := decide_eq_true hpq
  have d5 := dne (x.l.length : Int) pq
  have d3 := dne (x.u.length : Int) 0
  cases h0 : decide ((x.l.length : Int) = pq) with
  | false =>
    rw [h0] at d5
    simp only [Bool.false_and, Bool.true_and, Bool.and_false, Bool.and_true]
    (rw [run_eq]; simp only [stepA, hx, Tryz.func110, Tryz.f110, show retF 110 = false from rfl]; simp only [List.length_cons, List.length_nil, Nat.reduceAdd, Nat.reduceLeDiff, Nat.zero_le, ↓reduceIte, List.zipIdx_cons, List.zipIdx_nil, List.map_cons, List.map_nil])
    simp only [tmV, tmC, iV, bV, Tm.uD] at h175 h176 h177 ⊢
    simp only [zS, zD, convertA, makeFuncA, Nat.reduceAdd, Nat.reduceSub, Nat.reduceMul, Nat.reduceLT, Nat.reduceLeDiff, Nat.reduceGT, ↓reduceIte, Nat.reduceEqDiff, Nat.reduceBEq, reduceCtorEq, Int.reduceBEq, Int.reduceBNe, Int.reduceLT, Int.reduceLE, Int.reduceGT, Int.reduceGE, zT33, zT31, zT30, zT3, lenA_lD, h175, h176, h177, d5, q1, q2, q3, ge_iff_le]
    (refine Eq.trans ?_ rfl; kernel_rfl)
  | true =>
    rw [h0] at d5
    simp only [Bool.false_and, Bool.true_and, Bool.and_false, Bool.and_true]
    cases h1 : decide ((x.u.length : Int) = 0) with
    | false =>
      rw [h1] at d3
      simp only [Bool.false_and, Bool.true_and, Bool.and_false, Bool.and_true]
      (rw [run_eq]; simp only [stepA, hx, Tryz.func110, Tryz.f110, show retF 110 = false from rfl]; simp only [List.length_cons, List.length_nil, Nat.reduceAdd, Nat.reduceLeDiff, Nat.zero_le, ↓reduceIte, List.zipIdx_cons, List.zipIdx_nil, List.map_cons, List.map_nil])
      simp only [tmV, tmC, iV, bV, Tm.uD] at h175 h176 h177 ⊢
      simp only [zS, zD, convertA, makeFuncA, Nat.reduceAdd, Nat.reduceSub, Nat.reduceMul, Nat.reduceLT, Nat.reduceLeDiff, Nat.reduceGT, ↓reduceIte, Nat.reduceEqDiff, Nat.reduceBEq, reduceCtorEq, Int.reduceBEq, Int.reduceBNe, Int.reduceLT, Int.reduceLE, Int.reduceGT, Int.reduceGE, zT33, zT31, zT30, zT3, lenA_lD, h175, h176, h177, d5, q1, q2, q3, ge_iff_le, d3]
      (refine Eq.trans ?_ rfl; kernel_rfl)
    | true =>
      rw [h1] at d3
      have d8 : decide ((x.u.length : Int) > 8) = false := decide_eq_false (by have := of_decide_eq_true h1; omega)
      simp only [Bool.false_and, Bool.true_and, Bool.and_false, Bool.and_true]
      refine Eq.trans ?_ hloop
      generalize hout : H110a ext 0 (E110 0) (O110 x) = out
      have h := hout
      unfold H110a at h
      (rw [run_eq]; simp only [stepA, hx, Tryz.func110, Tryz.f110, show retF 110 = false from rfl]; simp only [List.length_cons, List.length_nil, Nat.reduceAdd, Nat.reduceLeDiff, Nat.zero_le, ↓reduceIte, List.zipIdx_cons, List.zipIdx_nil, List.map_cons, List.map_nil])
      simp only [tmV, tmC, iV, bV, Tm.uD, E110, O110] at h175 h176 h177 h ⊢
      simp only [zS, zD, convertA, makeFuncA, Nat.reduceAdd, Nat.reduceSub, Nat.reduceMul, Nat.reduceLT, Nat.reduceLeDiff, Nat.reduceGT, ↓reduceIte, Nat.reduceEqDiff, Nat.reduceBEq, reduceCtorEq, Int.reduceBEq, Int.reduceBNe, Int.reduceLT, Int.reduceLE, Int.reduceGT, Int.reduceGE, zT33, zT31, zT30, zT3, lenA_lD, h175, h176, h177, d5, q1, q2, q3, ge_iff_le, d3, d8]
      (refine (r_inLoop_some ?_).trans h; kernel_rfl)
end Go.Proofs.YteenjodhmppgjaaGreatDoor.Am
end
section
/- Form, by the program and by the reference. Printed by tfits/fo.py. -/
namespace Go.Proofs.YteenjodhmppgjaaGreatDoor.Am
open Go
variable (ext : Ext)
set_option maxHeartbeats 8000000
set_option maxRecDepth 4000
noncomputable def B66 : Code := (Tryz.f66.body.getD .skip)
noncomputable def L66a : Code := sub B66 [1, 1, 0, 1, 0, 0]
noncomputable def K66a : List It := [.inBlock 0, .code (sub B66 [1, 1, 1])]
noncomputable def H66a (ext : Ext) (m : Nat) (env : Env) (loc : List O) : Option Out := run Tryz.prog ext (.k ⟨21, m, [.tmp 2], false⟩ (.code L66a :: .inLoop L66a :: K66a) env loc)
def nodeOK (x : Tm) : Bool := decide (1 ≤ x.op) && (decide (x.op ≤ 30) && nodeG (mostO x.op) (manyO x.op) (levO x.op) (x.op == 28) (opP x.op) x (x.u.all canonL))
theorem nodeR_G (most : Int) (many : Bool) (lev : Int) (elim : Bool) (pq : Int) (x : Tm) (c : Bool) : nodeR many lev elim pq x c (decide (0 ≤ x.n) && decide (x.n ≤ most)) = nodeG most many lev elim pq x c := by
  unfold nodeR nodeG
  generalize (if many = true then decide ((x.u.length : Int) ≤ 8) else decide ((x.u.length : Int) = lev)) = a1
  generalize (if many = true then nameOK x.s else (x.s.toList == emptyS.toList)) = a2
  generalize (if elim = true then decide (3 ≤ (x.l.length : Int)) && decide ((x.l.length : Int) ≤ 11) else decide ((x.l.length : Int) = pq)) = a3
  generalize decide (0 ≤ x.n) = a4
  generalize decide (x.n ≤ most) = a5
  cases a1 <;> cases a2 <;> cases a3 <;> cases a4 <;> cases a5 <;> cases c <;> rfl
theorem all_any (l : List Lev) : (!(l.any fun y => !canonL y)) = l.all canonL := by rw [List.not_any_eq_all_not]; simp
theorem node106 (hx : ext 106 = none) (h169 : ext 169 = none) (x : Tm) (hn : run Tryz.prog ext (.call 170 [sV x.s] []) = some (.ret [bV (nameOK x.s)] [])) (ha : run Tryz.prog ext (.call 171 [dV x.uD, .c (.fn 172 [] [])] []) = some (.ret [bV (x.u.any fun y => !canonL y)] [])) :
    run Tryz.prog ext (.call 106 [tmV x] []) = some (.ret [bV (nodeOK x)] []) := by
  unfold nodeOK
  by_cases h : 1 ≤ x.op ∧ x.op ≤ 30
  · obtain ⟨h1, h2⟩ := h
    rw [decide_eq_true h1, decide_eq_true h2, Bool.true_and, Bool.true_and, ← all_any]
    have hof := of169 ext h169 x.op h1 h2
    rcases lit30 h1 h2 with h | h | h | h | h | h | h | h | h | h | h | h | h | h | h | h | h | h | h | h | h | h | h | h | h | h | h | h | h | h
    · rw [h] at hof ⊢; exact node_8 ext hx x _ _ _ (by rw [h]; exact hof) (by rw [h]; rfl) hn ha
    · rw [h] at hof ⊢; exact node_5 ext hx x _ _ _ (by rw [h]; exact hof) (by rw [h]; rfl) hn ha
    · rw [h] at hof ⊢; exact node_2 ext hx x _ _ _ (by rw [h]; exact hof) (by rw [h]; rfl) hn ha
    · rw [h] at hof ⊢; exact node_0 ext hx x _ _ _ (by rw [h]; exact hof) (by rw [h]; rfl) hn ha
    · rw [h] at hof ⊢; exact node_64 ext hx x _ _ _ (by rw [h]; exact hof) (by rw [h]; rfl) hn ha
    · rw [h] at hof ⊢; exact node_32 ext hx x _ _ _ (by rw [h]; exact hof) (by rw [h]; rfl) hn ha
    · rw [h] at hof ⊢; exact node_32 ext hx x _ _ _ (by rw [h]; exact hof) (by rw [h]; rfl) hn ha
    · rw [h] at hof ⊢; exact node_64 ext hx x _ _ _ (by rw [h]; exact hof) (by rw [h]; rfl) hn ha
    · rw [h] at hof ⊢; exact node_64 ext hx x _ _ _ (by rw [h]; exact hof) (by rw [h]; rfl) hn ha
    · rw [h] at hof ⊢; exact node_0 ext hx x _ _ _ (by rw [h]; exact hof) (by rw [h]; rfl) hn ha
    · rw [h] at hof ⊢; exact node_0 ext hx x _ _ _ (by rw [h]; exact hof) (by rw [h]; rfl) hn ha
    · rw [h] at hof ⊢; exact node_0 ext hx x _ _ _ (by rw [h]; exact hof) (by rw [h]; rfl) hn ha
    · rw [h] at hof ⊢; exact node_0 ext hx x _ _ _ (by rw [h]; exact hof) (by rw [h]; rfl) hn ha
    · rw [h] at hof ⊢; exact node_0 ext hx x _ _ _ (by rw [h]; exact hof) (by rw [h]; rfl) hn ha
    · rw [h] at hof ⊢; exact node_0 ext hx x _ _ _ (by rw [h]; exact hof) (by rw [h]; rfl) hn ha
    · rw [h] at hof ⊢; exact node_0 ext hx x _ _ _ (by rw [h]; exact hof) (by rw [h]; rfl) hn ha
    · rw [h] at hof ⊢; exact node_32 ext hx x _ _ _ (by rw [h]; exact hof) (by rw [h]; rfl) hn ha
    · rw [h] at hof ⊢; exact node_2 ext hx x _ _ _ (by rw [h]; exact hof) (by rw [h]; rfl) hn ha
    · rw [h] at hof ⊢; exact node_2 ext hx x _ _ _ (by rw [h]; exact hof) (by rw [h]; rfl) hn ha
    · rw [h] at hof ⊢; exact node_2 ext hx x _ _ _ (by rw [h]; exact hof) (by rw [h]; rfl) hn ha
    · rw [h] at hof ⊢; exact node_2 ext hx x _ _ _ (by rw [h]; exact hof) (by rw [h]; rfl) hn ha
    · rw [h] at hof ⊢; exact node_2 ext hx x _ _ _ (by rw [h]; exact hof) (by rw [h]; rfl) hn ha
    · rw [h] at hof ⊢; exact node_2 ext hx x _ _ _ (by rw [h]; exact hof) (by rw [h]; rfl) hn ha
    · rw [h] at hof ⊢; exact node_0 ext hx x _ _ _ (by rw [h]; exact hof) (by rw [h]; rfl) hn ha
    · rw [h] at hof ⊢; exact node_34 ext hx x _ _ _ (by rw [h]; exact hof) (by rw [h]; rfl) hn ha
    · rw [h] at hof ⊢; exact node_5 ext hx x _ _ _ (by rw [h]; exact hof) (by rw [h]; rfl) hn ha
    · rw [h] at hof ⊢; exact node_21 ext hx x _ _ _ (by rw [h]; exact hof) (by rw [h]; rfl) hn ha
    · rw [h] at hof ⊢; exact node_37 ext hx x _ _ _ (by rw [h]; exact hof) (by rw [h]; rfl) hn ha
    · rw [h] at hof ⊢; exact node_8 ext hx x _ _ _ (by rw [h]; exact hof) (by rw [h]; rfl) hn ha
    · rw [h] at hof ⊢; exact node_0 ext hx x _ _ _ (by rw [h]; exact hof) (by rw [h]; rfl) hn ha
  · have hof := of169_no ext h169 x.op h
    have e : (decide (1 ≤ x.op) && (decide (x.op ≤ 30) && nodeG (mostO x.op) (manyO x.op) (levO x.op) (x.op == 28) (opP x.op) x (x.u.all canonL))) = false := by
      by_cases h1 : 1 ≤ x.op
      · have h2 : ¬ x.op ≤ 30 := fun h2 => h ⟨h1, h2⟩
        rw [decide_eq_false h2, Bool.false_and, Bool.and_false]
      · rw [decide_eq_false h1, Bool.false_and]
    rw [e]
    (rw [run_eq]; simp only [stepA, hx, Tryz.func106, Tryz.f106, show retF 106 = false from rfl]; simp only [List.length_cons, List.length_nil, Nat.reduceAdd, Nat.reduceLeDiff, Nat.zero_le, ↓reduceIte, List.zipIdx_cons, List.zipIdx_nil, List.map_cons, List.map_nil])
    simp only [tmV, tmC, bV, iV, Tm.uD] at hof ⊢
    simp only [zS, zD, convertA, makeFuncA, Nat.reduceAdd, Nat.reduceSub, Nat.reduceMul, Nat.reduceLT, Nat.reduceLeDiff, Nat.reduceGT, ↓reduceIte, Nat.reduceEqDiff, Nat.reduceBEq, reduceCtorEq, Int.reduceBEq, Int.reduceBNe, Int.reduceLT, Int.reduceLE, Int.reduceGT, Int.reduceGE, zT186, zT33, zT31, zT30, zT9, zT3, hof, callOut_cs]
    (refine Eq.trans ?_ rfl; kernel_rfl)
theorem node110 (hx : ext 110 = none) (h175 : ext 175 = none) (h176 : ext 176 = none) (h177 : ext 177 = none) (h180 : ext 180 = none) (x : Tm) (hl : x.u.length < 2 ^ 50)
    (h178 : ∀ y ∈ x.u, run Tryz.prog ext (.call 178 [levV y] []) = some (.ret [bV (canonL y)] [])) (hn : run Tryz.prog ext (.call 179 [sV x.s] []) = some (.ret [bV (nameOK x.s)] [])) :
    run Tryz.prog ext (.call 110 [tmV x] []) = some (.ret [bV (nodeOK x)] []) := by
  unfold nodeOK
  by_cases h : 1 ≤ x.op ∧ x.op ≤ 30
  · obtain ⟨h1, h2⟩ := h
    rw [decide_eq_true h1, decide_eq_true h2, Bool.true_and, Bool.true_and]
    have p1 := of175 ext h175 x.op h1 h2
    have p2 := of176 ext h176 x.op h1 h2
    have p3 := of177 ext h177 x.op h1 h2
    have p4 := num180 ext h180 x h1 h2
    unfold numOK at p4
    rw [← nodeR_G]
    rcases lit30 h1 h2 with h | h | h | h | h | h | h | h | h | h | h | h | h | h | h | h | h | h | h | h | h | h | h | h | h | h | h | h | h | h
    · rw [h] at p1 p2 p3 p4 ⊢; exact ref110_n ext hx x _ _ (by decide) (by rw [h]; exact p1) (by rw [h]; exact p2) (by rw [h]; exact p3) hl h178 hn p4
    · rw [h] at p1 p2 p3 p4 ⊢; exact ref110_m ext hx x _ _ (by decide) (by rw [h]; exact p1) (by rw [h]; exact p2) (by rw [h]; exact p3) hl h178 hn p4
    · rw [h] at p1 p2 p3 p4 ⊢; exact ref110_o ext hx x _ _ (by decide) (by rw [h]; exact p1) (by rw [h]; exact p2) (by rw [h]; exact p3) hl h178 hn p4
    · rw [h] at p1 p2 p3 p4 ⊢; exact ref110_n ext hx x _ _ (by decide) (by rw [h]; exact p1) (by rw [h]; exact p2) (by rw [h]; exact p3) hl h178 hn p4
    · rw [h] at p1 p2 p3 p4 ⊢; exact ref110_n ext hx x _ _ (by decide) (by rw [h]; exact p1) (by rw [h]; exact p2) (by rw [h]; exact p3) hl h178 hn p4
    · rw [h] at p1 p2 p3 p4 ⊢; exact ref110_n ext hx x _ _ (by decide) (by rw [h]; exact p1) (by rw [h]; exact p2) (by rw [h]; exact p3) hl h178 hn p4
    · rw [h] at p1 p2 p3 p4 ⊢; exact ref110_n ext hx x _ _ (by decide) (by rw [h]; exact p1) (by rw [h]; exact p2) (by rw [h]; exact p3) hl h178 hn p4
    · rw [h] at p1 p2 p3 p4 ⊢; exact ref110_n ext hx x _ _ (by decide) (by rw [h]; exact p1) (by rw [h]; exact p2) (by rw [h]; exact p3) hl h178 hn p4
    · rw [h] at p1 p2 p3 p4 ⊢; exact ref110_n ext hx x _ _ (by decide) (by rw [h]; exact p1) (by rw [h]; exact p2) (by rw [h]; exact p3) hl h178 hn p4
    · rw [h] at p1 p2 p3 p4 ⊢; exact ref110_n ext hx x _ _ (by decide) (by rw [h]; exact p1) (by rw [h]; exact p2) (by rw [h]; exact p3) hl h178 hn p4
    · rw [h] at p1 p2 p3 p4 ⊢; exact ref110_n ext hx x _ _ (by decide) (by rw [h]; exact p1) (by rw [h]; exact p2) (by rw [h]; exact p3) hl h178 hn p4
    · rw [h] at p1 p2 p3 p4 ⊢; exact ref110_n ext hx x _ _ (by decide) (by rw [h]; exact p1) (by rw [h]; exact p2) (by rw [h]; exact p3) hl h178 hn p4
    · rw [h] at p1 p2 p3 p4 ⊢; exact ref110_n ext hx x _ _ (by decide) (by rw [h]; exact p1) (by rw [h]; exact p2) (by rw [h]; exact p3) hl h178 hn p4
    · rw [h] at p1 p2 p3 p4 ⊢; exact ref110_n ext hx x _ _ (by decide) (by rw [h]; exact p1) (by rw [h]; exact p2) (by rw [h]; exact p3) hl h178 hn p4
    · rw [h] at p1 p2 p3 p4 ⊢; exact ref110_n ext hx x _ _ (by decide) (by rw [h]; exact p1) (by rw [h]; exact p2) (by rw [h]; exact p3) hl h178 hn p4
    · rw [h] at p1 p2 p3 p4 ⊢; exact ref110_n ext hx x _ _ (by decide) (by rw [h]; exact p1) (by rw [h]; exact p2) (by rw [h]; exact p3) hl h178 hn p4
    · rw [h] at p1 p2 p3 p4 ⊢; exact ref110_n ext hx x _ _ (by decide) (by rw [h]; exact p1) (by rw [h]; exact p2) (by rw [h]; exact p3) hl h178 hn p4
    · rw [h] at p1 p2 p3 p4 ⊢; exact ref110_o ext hx x _ _ (by decide) (by rw [h]; exact p1) (by rw [h]; exact p2) (by rw [h]; exact p3) hl h178 hn p4
    · rw [h] at p1 p2 p3 p4 ⊢; exact ref110_o ext hx x _ _ (by decide) (by rw [h]; exact p1) (by rw [h]; exact p2) (by rw [h]; exact p3) hl h178 hn p4
    · rw [h] at p1 p2 p3 p4 ⊢; exact ref110_o ext hx x _ _ (by decide) (by rw [h]; exact p1) (by rw [h]; exact p2) (by rw [h]; exact p3) hl h178 hn p4
    · rw [h] at p1 p2 p3 p4 ⊢; exact ref110_o ext hx x _ _ (by decide) (by rw [h]; exact p1) (by rw [h]; exact p2) (by rw [h]; exact p3) hl h178 hn p4
    · rw [h] at p1 p2 p3 p4 ⊢; exact ref110_o ext hx x _ _ (by decide) (by rw [h]; exact p1) (by rw [h]; exact p2) (by rw [h]; exact p3) hl h178 hn p4
    · rw [h] at p1 p2 p3 p4 ⊢; exact ref110_o ext hx x _ _ (by decide) (by rw [h]; exact p1) (by rw [h]; exact p2) (by rw [h]; exact p3) hl h178 hn p4
    · rw [h] at p1 p2 p3 p4 ⊢; exact ref110_n ext hx x _ _ (by decide) (by rw [h]; exact p1) (by rw [h]; exact p2) (by rw [h]; exact p3) hl h178 hn p4
    · rw [h] at p1 p2 p3 p4 ⊢; exact ref110_o ext hx x _ _ (by decide) (by rw [h]; exact p1) (by rw [h]; exact p2) (by rw [h]; exact p3) hl h178 hn p4
    · rw [h] at p1 p2 p3 p4 ⊢; exact ref110_m ext hx x _ _ (by decide) (by rw [h]; exact p1) (by rw [h]; exact p2) (by rw [h]; exact p3) hl h178 hn p4
    · rw [h] at p1 p2 p3 p4 ⊢; exact ref110_m ext hx x _ _ (by decide) (by rw [h]; exact p1) (by rw [h]; exact p2) (by rw [h]; exact p3) hl h178 hn p4
    · rw [h] at p1 p2 p3 p4 ⊢; exact ref110_e ext hx x _ (by rw [h]; exact p1) (by rw [h]; exact p2) (by rw [h]; exact p3) hl h178 hn p4
    · rw [h] at p1 p2 p3 p4 ⊢; exact ref110_n ext hx x _ _ (by decide) (by rw [h]; exact p1) (by rw [h]; exact p2) (by rw [h]; exact p3) hl h178 hn p4
    · rw [h] at p1 p2 p3 p4 ⊢; exact ref110_n ext hx x _ _ (by decide) (by rw [h]; exact p1) (by rw [h]; exact p2) (by rw [h]; exact p3) hl h178 hn p4
  · have p1 := of175_no ext h175 x.op h
    have e : (decide (1 ≤ x.op) && (decide (x.op ≤ 30) && nodeG (mostO x.op) (manyO x.op) (levO x.op) (x.op == 28) (opP x.op) x (x.u.all canonL))) = false := by
      by_cases h1 : 1 ≤ x.op
      · have h2 : ¬ x.op ≤ 30 := fun h2 => h ⟨h1, h2⟩
        rw [decide_eq_false h2, Bool.false_and, Bool.and_false]
      · rw [decide_eq_false h1, Bool.false_and]
    rw [e]
    (rw [run_eq]; simp only [stepA, hx, Tryz.func110, Tryz.f110, show retF 110 = false from rfl]; simp only [List.length_cons, List.length_nil, Nat.reduceAdd, Nat.reduceLeDiff, Nat.zero_le, ↓reduceIte, List.zipIdx_cons, List.zipIdx_nil, List.map_cons, List.map_nil])
    simp only [tmV, tmC, bV, iV, Tm.uD] at p1 ⊢
    simp only [zS, zD, convertA, makeFuncA, Nat.reduceAdd, Nat.reduceSub, Nat.reduceMul, Nat.reduceLT, Nat.reduceLeDiff, Nat.reduceGT, ↓reduceIte, Nat.reduceEqDiff, Nat.reduceBEq, reduceCtorEq, Int.reduceBEq, Int.reduceBNe, Int.reduceLT, Int.reduceLE, Int.reduceGT, Int.reduceGE, zT33, zT31, zT30, zT9, zT3, p1]
    (refine Eq.trans ?_ rfl; kernel_rfl)
/-! ### whole terms -/
def formOK : Tm → Bool
  | .mk op n s u zu l zl => nodeOK (.mk op n s u zu l zl) && forms l
where forms : List Tm → Bool
  | [] => true
  | x :: r => formOK x && forms r
theorem forms_eq (l : List Tm) : formOK.forms l = l.all formOK := by induction l <;> simp_all [formOK.forms]
theorem formOK_eq (x : Tm) : formOK x = (nodeOK x && x.l.all formOK) := by cases x; simp only [formOK, forms_eq, Tm.l]
theorem clo108 (hx : ext 108 = none) (x : Tm) (b : Bool) (hr : run Tryz.prog ext (.call 64 [tmV x] []) = some (.ret [bV b] [])) : run Tryz.prog ext (.call 108 [tmV x] []) = some (.ret [bV (!b)] []) := by
  (rw [run_eq]; simp only [stepA, hx, Tryz.func108, Tryz.f108, show retF 108 = false from rfl]; simp only [List.length_cons, List.length_nil, Nat.reduceAdd, Nat.reduceLeDiff, Nat.zero_le, ↓reduceIte, List.zipIdx_cons, List.zipIdx_nil, List.map_cons, List.map_nil])
  simp only [tmV, tmC, bV] at hr ⊢
  simp only [zS, zD, convertA, makeFuncA, Nat.reduceAdd, Nat.reduceSub, Nat.reduceMul, Nat.reduceLT, Nat.reduceLeDiff, Nat.reduceGT, ↓reduceIte, Nat.reduceEqDiff, Nat.reduceBEq, reduceCtorEq, Int.reduceBEq, Int.reduceBNe, Int.reduceLT, Int.reduceLE, Int.reduceGT, Int.reduceGE, zT33, zT3, hr]
  (refine Eq.trans ?_ rfl; kernel_rfl)
def F174 (x : Tm) (k : Int) : Env := [(0, dV x.lD), (1, .c (.fn 108 [] [])), (7, iV x.l.length), (8, iV k)]
theorem idx174f (hx : ext 174 = none) (x : Tm) (hs : x.l.length < 2 ^ 50) (p : Tm → Bool) (hr : ∀ y ∈ x.l, run Tryz.prog ext (.call 108 [tmV y] []) = some (.ret [bV (p y)] [])) :
    run Tryz.prog ext (.call 174 [dV x.lD, .c (.fn 108 [] [])] []) = some (.ret [iV (ixOf (x.l.findIdx? p))] []) := by
  have he : ∀ out, H174a ext 0 (F174 x 0) [] = out → run Tryz.prog ext (.call 174 [dV x.lD, .c (.fn 108 [] [])] []) = out := by
    intro out h
    unfold H174a at h
    (rw [run_eq]; simp only [stepA, hx, Tryz.func174, Tryz.f174, show retF 174 = false from rfl]; simp only [List.length_cons, List.length_nil, Nat.reduceAdd, Nat.reduceLeDiff, Nat.zero_le, ↓reduceIte, List.zipIdx_cons, List.zipIdx_nil, List.map_cons, List.map_nil])
    simp only [dV, iV, F174] at h ⊢
    simp only [zS, zD, convertA, makeFuncA, Nat.reduceAdd, Nat.reduceSub, Nat.reduceMul, Nat.reduceLT, Nat.reduceLeDiff, Nat.reduceGT, ↓reduceIte, Nat.reduceEqDiff, Nat.reduceBEq, reduceCtorEq, Int.reduceBEq, Int.reduceBNe, Int.reduceLT, Int.reduceLE, Int.reduceGT, Int.reduceGE, zT31, zT3, lenA_lD]
    (refine (r_inLoop_some ?_).trans h; kernel_rfl)
  refine he _ ?_
  have := loop_find x.l (fun k => H174a ext 0 (F174 x k) []) p (fun k => some (.ret [iV k] [])) (some (.ret [iV (-1)] [])) (by omega) (fun k y hk hl => by
      have h0 : (0 : Int) ≤ k := by omega
      have hy := hr y (List.mem_of_getElem? hk)
      unfold H174a
      refine ⟨fun hp => ?_, fun hp out h => ?_⟩
      · rw [hp] at hy
        simp only [dV, iV, bV, tmV, tmC, F174, lD_lt hl] at hy ⊢
        (rw [show (It.code L174a) = It.code (sub B174 [1, 0, 1, 0, 0]) from rfl]; simp only [B174, K174a, sub, Option.getD_some, Tryz.f174, ↓reduceIte, Nat.one_ne_zero])
        simp only [zS, zD, convertA, makeFuncA, Nat.reduceAdd, Nat.reduceSub, Nat.reduceMul, Nat.reduceLT, Nat.reduceLeDiff, Nat.reduceGT, ↓reduceIte, Nat.reduceEqDiff, Nat.reduceBEq, reduceCtorEq, Int.reduceBEq, Int.reduceBNe, Int.reduceLT, Int.reduceLE, Int.reduceGT, Int.reduceGE, zT33, zT31, zT3, h0, hl, Int.toNat_natCast, hk, tmD_eq y, hy]
        (refine Eq.trans ?_ rfl; kernel_rfl)
      · rw [hp] at hy
        simp only [dV, iV, bV, tmV, tmC, F174, lD_lt hl] at hy h ⊢
        (rw [show (It.code L174a) = It.code (sub B174 [1, 0, 1, 0, 0]) from rfl]; simp only [B174, K174a, sub, Option.getD_some, Tryz.f174, ↓reduceIte, Nat.one_ne_zero])
        simp only [zS, zD, convertA, makeFuncA, Nat.reduceAdd, Nat.reduceSub, Nat.reduceMul, Nat.reduceLT, Nat.reduceLeDiff, Nat.reduceGT, ↓reduceIte, Nat.reduceEqDiff, Nat.reduceBEq, reduceCtorEq, Int.reduceBEq, Int.reduceBNe, Int.reduceLT, Int.reduceLE, Int.reduceGT, Int.reduceGE, zT33, zT31, zT3, h0, hl, Int.toNat_natCast, hk, tmD_eq y, hy]
        (refine (r_inLoop_some ?_).trans h; kernel_rfl)) (by
      unfold H174a
      simp only [dV, iV, F174]
      (rw [show (It.code L174a) = It.code (sub B174 [1, 0, 1, 0, 0]) from rfl]; simp only [B174, K174a, sub, Option.getD_some, Tryz.f174, ↓reduceIte, Nat.one_ne_zero])
      simp only [zS, zD, convertA, makeFuncA, Nat.reduceAdd, Nat.reduceSub, Nat.reduceMul, Nat.reduceLT, Nat.reduceLeDiff, Nat.reduceGT, ↓reduceIte, Nat.reduceEqDiff, Nat.reduceBEq, reduceCtorEq, Int.reduceBEq, Int.reduceBNe, Int.reduceLT, Int.reduceLE, Int.reduceGT, Int.reduceGE, zT31, zT3, Int.lt_irrefl]
      (refine Eq.trans ?_ rfl; kernel_rfl))
  rw [this]
  cases x.l.findIdx? p <;> rfl
theorem any107f (hx : ext 107 = none) (x : Tm) (n : Int) (hr : run Tryz.prog ext (.call 174 [dV x.lD, .c (.fn 108 [] [])] []) = some (.ret [iV n] [])) :
    run Tryz.prog ext (.call 107 [dV x.lD, .c (.fn 108 [] [])] []) = some (.ret [bV (decide (0 ≤ n))] []) := by
  (rw [run_eq]; simp only [stepA, hx, Tryz.func107, Tryz.f107, show retF 107 = false from rfl]; simp only [List.length_cons, List.length_nil, Nat.reduceAdd, Nat.reduceLeDiff, Nat.zero_le, ↓reduceIte, List.zipIdx_cons, List.zipIdx_nil, List.map_cons, List.map_nil])
  simp only [dV, iV, bV] at hr ⊢
  simp only [zS, zD, convertA, makeFuncA, Nat.reduceAdd, Nat.reduceSub, Nat.reduceMul, Nat.reduceLT, Nat.reduceLeDiff, Nat.reduceGT, ↓reduceIte, Nat.reduceEqDiff, Nat.reduceBEq, reduceCtorEq, Int.reduceBEq, Int.reduceBNe, Int.reduceLT, Int.reduceLE, Int.reduceGT, Int.reduceGE, zT31, zT3, hr, ge_iff_le]
  (refine Eq.trans ?_ rfl; kernel_rfl)
theorem all_anyT (l : List Tm) (p : Tm → Bool) : (!(l.any fun y => !p y)) = l.all p := by rw [List.not_any_eq_all_not]; simp
theorem form64 (hx : ext 64 = none) (h107 : ext 107 = none) (h108 : ext 108 = none) (h174 : ext 174 = none) (I : Tm → Prop) (hI : ∀ x, I x → ∀ y ∈ x.l, I y) (hr : ∀ x, I x → run Tryz.prog ext (.call 106 [tmV x] []) = some (.ret [bV (nodeOK x)] [])) : ∀ (N : Nat) (x : Tm), I x → x.sz ≤ N → N < 2 ^ 50 → run Tryz.prog ext (.call 64 [tmV x] []) = some (.ret [bV (formOK x)] [])
  | 0, x, _, h, _ => by have := x.sz_pos; omega
  | N + 1, x, hi, h, hN => by
    have hll := x.len_lt
    have h1 := hr x hi
    have h2 := any107f ext h107 x _ (idx174f ext h174 x (by omega) (fun y => !formOK y) (fun y hy => clo108 ext h108 y _ (form64 hx h107 h108 h174 I hI hr N y (hI x hi y hy) (by have := Tm.sz_lt hy; omega) (by omega))))
    rw [← any_ix] at h2
    rw [formOK_eq, ← all_anyT]
    cases c : nodeOK x with
    | false =>
      rw [c] at h1
      rw [Bool.false_and]
      (rw [run_eq]; simp only [stepA, hx, Tryz.func64, Tryz.f64, show retF 64 = false from rfl]; simp only [List.length_cons, List.length_nil, Nat.reduceAdd, Nat.reduceLeDiff, Nat.zero_le, ↓reduceIte, List.zipIdx_cons, List.zipIdx_nil, List.map_cons, List.map_nil])
      simp only [tmV, tmC, dV, bV] at h1 ⊢
      simp only [zS, zD, convertA, makeFuncA, Nat.reduceAdd, Nat.reduceSub, Nat.reduceMul, Nat.reduceLT, Nat.reduceLeDiff, Nat.reduceGT, ↓reduceIte, Nat.reduceEqDiff, Nat.reduceBEq, reduceCtorEq, Int.reduceBEq, Int.reduceBNe, Int.reduceLT, Int.reduceLE, Int.reduceGT, Int.reduceGE, zT33, zT31, zT3, h1]
      (refine Eq.trans ?_ rfl; kernel_rfl)
    | true =>
      rw [c] at h1
      rw [Bool.true_and]
      (rw [run_eq]; simp only [stepA, hx, Tryz.func64, Tryz.f64, show retF 64 = false from rfl]; simp only [List.length_cons, List.length_nil, Nat.reduceAdd, Nat.reduceLeDiff, Nat.zero_le, ↓reduceIte, List.zipIdx_cons, List.zipIdx_nil, List.map_cons, List.map_nil])
      simp only [tmV, tmC, dV, bV] at h1 h2 ⊢
      simp only [zS, zD, convertA, makeFuncA, Nat.reduceAdd, Nat.reduceSub, Nat.reduceMul, Nat.reduceLT, Nat.reduceLeDiff, Nat.reduceGT, ↓reduceIte, Nat.reduceEqDiff, Nat.reduceBEq, reduceCtorEq, Int.reduceBEq, Int.reduceBNe, Int.reduceLT, Int.reduceLE, Int.reduceGT, Int.reduceGE, zT33, zT31, zT3, h1, h2]
      (refine Eq.trans ?_ rfl; kernel_rfl)
def E66 (k : Int) : Env := [(1, .c (.ptr 0 0)), (3, iV k)]
theorem form66 (hx : ext 66 = none) (I : Tm → Prop) (hI : ∀ x, I x → ∀ y ∈ x.l, I y) (hr : ∀ x, I x → run Tryz.prog ext (.call 110 [tmV x] []) = some (.ret [bV (nodeOK x)] [])) : ∀ (N : Nat) (x : Tm), I x → x.sz ≤ N → N < 2 ^ 50 → run Tryz.prog ext (.call 66 [tmV x] []) = some (.ret [bV (formOK x)] [])
  | 0, x, _, h, _ => by have := x.sz_pos; omega
  | N + 1, x, hi, h, hN => by
    have hll := x.len_lt
    have h1 := hr x hi
    rw [formOK_eq]
    cases c : nodeOK x with
    | false =>
      rw [c] at h1
      rw [Bool.false_and]
      (rw [run_eq]; simp only [stepA, hx, Tryz.func66, Tryz.f66, show retF 66 = false from rfl]; simp only [List.length_cons, List.length_nil, Nat.reduceAdd, Nat.reduceLeDiff, Nat.zero_le, ↓reduceIte, List.zipIdx_cons, List.zipIdx_nil, List.map_cons, List.map_nil])
      simp only [tmV, tmC, dV, bV] at h1 ⊢
      simp only [zS, zD, convertA, makeFuncA, Nat.reduceAdd, Nat.reduceSub, Nat.reduceMul, Nat.reduceLT, Nat.reduceLeDiff, Nat.reduceGT, ↓reduceIte, Nat.reduceEqDiff, Nat.reduceBEq, reduceCtorEq, Int.reduceBEq, Int.reduceBNe, Int.reduceLT, Int.reduceLE, Int.reduceGT, Int.reduceGE, zT33, zT31, zT3, h1]
      (refine Eq.trans ?_ rfl; kernel_rfl)
    | true =>
      rw [c] at h1
      rw [Bool.true_and]
      have he : ∀ out, H66a ext 0 (E66 0) [.box (tmC x)] = out → run Tryz.prog ext (.call 66 [tmV x] []) = out := by
        intro out h
        unfold H66a at h
        (rw [run_eq]; simp only [stepA, hx, Tryz.func66, Tryz.f66, show retF 66 = false from rfl]; simp only [List.length_cons, List.length_nil, Nat.reduceAdd, Nat.reduceLeDiff, Nat.zero_le, ↓reduceIte, List.zipIdx_cons, List.zipIdx_nil, List.map_cons, List.map_nil])
        simp only [tmV, tmC, iV, bV, E66] at h1 h ⊢
        simp only [zS, zD, convertA, makeFuncA, Nat.reduceAdd, Nat.reduceSub, Nat.reduceMul, Nat.reduceLT, Nat.reduceLeDiff, Nat.reduceGT, ↓reduceIte, Nat.reduceEqDiff, Nat.reduceBEq, reduceCtorEq, Int.reduceBEq, Int.reduceBNe, Int.reduceLT, Int.reduceLE, Int.reduceGT, Int.reduceGE, zT33, zT31, zT3, h1]
        (refine (r_inLoop_some ?_).trans h; kernel_rfl)
      refine he _ ?_
      have := loop_find x.l (fun k => H66a ext 0 (E66 k) [.box (tmC x)]) (fun y => !formOK y) (fun _ => some (.ret [bV false] [])) (some (.ret [bV true] [])) (by omega) (fun k y hk hl => by
          have h0 : (0 : Int) ≤ k := by omega
          have hy := form66 hx I hI hr N y (hI x hi y (List.mem_of_getElem? hk)) (by have := Tm.sz_lt (List.mem_of_getElem? hk); omega) (by omega)
          unfold H66a
          refine ⟨fun hp => ?_, fun hp out h => ?_⟩
          · have hp : formOK y = false := by simpa using hp
            rw [hp] at hy
            simp only [dV, iV, bV, tmV, tmC, E66, lD_lt hl] at hy ⊢
            (rw [show (It.code L66a) = It.code (sub B66 [1, 1, 0, 1, 0, 0]) from rfl]; simp only [B66, K66a, sub, Option.getD_some, Tryz.f66, ↓reduceIte, Nat.one_ne_zero])
            simp only [zS, zD, convertA, makeFuncA, Nat.reduceAdd, Nat.reduceSub, Nat.reduceMul, Nat.reduceLT, Nat.reduceLeDiff, Nat.reduceGT, ↓reduceIte, Nat.reduceEqDiff, Nat.reduceBEq, reduceCtorEq, Int.reduceBEq, Int.reduceBNe, Int.reduceLT, Int.reduceLE, Int.reduceGT, Int.reduceGE, zT33, zT31, zT3, h0, hl, Int.toNat_natCast, hk, tmD_eq y, hy]
            (refine Eq.trans ?_ rfl; kernel_rfl)
          · have hp : formOK y = true := by simpa using hp
            rw [hp] at hy
            simp only [dV, iV, bV, tmV, tmC, E66, lD_lt hl] at hy h ⊢
            (rw [show (It.code L66a) = It.code (sub B66 [1, 1, 0, 1, 0, 0]) from rfl]; simp only [B66, K66a, sub, Option.getD_some, Tryz.f66, ↓reduceIte, Nat.one_ne_zero])
            simp only [zS, zD, convertA, makeFuncA, Nat.reduceAdd, Nat.reduceSub, Nat.reduceMul, Nat.reduceLT, Nat.reduceLeDiff, Nat.reduceGT, ↓reduceIte, Nat.reduceEqDiff, Nat.reduceBEq, reduceCtorEq, Int.reduceBEq, Int.reduceBNe, Int.reduceLT, Int.reduceLE, Int.reduceGT, Int.reduceGE, zT33, zT31, zT3, h0, hl, Int.toNat_natCast, hk, tmD_eq y, hy]
            (refine (r_inLoop_some ?_).trans h; kernel_rfl)) (by
          unfold H66a
          simp only [dV, iV, tmC, E66]
          (rw [show (It.code L66a) = It.code (sub B66 [1, 1, 0, 1, 0, 0]) from rfl]; simp only [B66, K66a, sub, Option.getD_some, Tryz.f66, ↓reduceIte, Nat.one_ne_zero])
          simp only [zS, zD, convertA, makeFuncA, Nat.reduceAdd, Nat.reduceSub, Nat.reduceMul, Nat.reduceLT, Nat.reduceLeDiff, Nat.reduceGT, ↓reduceIte, Nat.reduceEqDiff, Nat.reduceBEq, reduceCtorEq, Int.reduceBEq, Int.reduceBNe, Int.reduceLT, Int.reduceLE, Int.reduceGT, Int.reduceGE, zT33, zT31, zT3, lenA_lD, Int.lt_irrefl]
          (refine Eq.trans ?_ rfl; kernel_rfl))
      rw [this, ← all_anyT, ← List.findIdx?_isSome]
      cases x.l.findIdx? (fun y => !formOK y) <;> rfl
end Go.Proofs.YteenjodhmppgjaaGreatDoor.Am
end
