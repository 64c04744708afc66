/- The card of EraseFuels, second form, is proved: at every input whose bulk is at most 1048576 the law answers true and leaves its input as it was. -/
import Derived.Test.YtmjacokkgfophaaDoorPa5
import Derived.Test.YtmjacokkgfophaaDoorRows
import Derived.ChangeShapes
import Derived.RowKit3
import Derived.RowKit
import Derived.ChangeSame
import Derived.Test.YtmjacokkgfophaaDoorCards
import Derived.Test.YtmjacokkgfophaaDoorTie
import Derived.WalkKit
import Derived.ProofKit
import Derived.OpenShut
import Derived.Deep.DeepHandedRow
import Derived.Lib.LaidTab
set_option linter.unusedSimpArgs false
set_option linter.unusedVariables false
set_option linter.defProp false
set_option linter.unusedSectionVars false
section
/- Head and Numeral: what they answer; more fuel changes nothing but that it is too little. -/
namespace Go.Proofs.YtmjacokkgfophaaDoor.Am
open Go
/-- Names and codes that stay within the bounds. -/
structure Fine (names : List ByteArray) (codes : List Cd) (c : Cd) : Prop where
  nl : names.length < 2 ^ 60
  cl : codes.length < 2 ^ 60
  cs : c.size ≤ 1048576
  csm : Sml c
  all : ∀ t ∈ codes, t.size ≤ 1048576 ∧ Sml t
theorem clampF_range (fu : Int) : 0 ≤ clampF fu ∧ clampF fu ≤ 200000 := by
  unfold clampF
  split <;> split <;> omega
def clampN (fu : Int) : Nat := (clampF fu).toNat
theorem clampN_cast (fu : Int) : ((clampN fu : Nat) : Int) = clampF fu := by
  have := clampF_range fu
  unfold clampN; omega
theorem clampN_le (fu : Int) : clampN fu ≤ 200000 := by
  have := clampF_range fu
  unfold clampN; omega
def Out6 (nd cd : D) (c : Cd) (fu e : Int) (y : Cd) (n : Int) : Prop := run Tryd.prog E1 (.call 6 [.c (.d nd), .c (.d cd), cdV c, iV fu] []) = some (.ret [cdV y, iV n, iV e] [])
def Out9 (nd cd : D) (c : Cd) (fu e n : Int) : Prop := run Tryd.prog E1 (.call 9 [.c (.d nd), .c (.d cd), cdV c, iV fu] []) = some (.ret [iV n, iV e] [])
theorem head6 (zn zc : Bool) (names : List ByteArray) (codes : List Cd) (c : Cd) (hf : Fine names codes c) (fu : Int) :
    ∃ (e : Int) (y : Cd) (n : Int), y.size ≤ 1048576 ∧ Out6 (listS zn names) (listD zc (codes.map encCd)) c fu e y n ∧ (e ≠ 5 → ∀ fu', clampF fu ≤ clampF fu' → Out6 (listS zn names) (listD zc (codes.map encCd)) c fu' e y n) := by
  have zs : zcd.size ≤ 1048576 := by rw [Cd.size_eq]; simp [zcd, Cd.l]
  obtain ⟨b, h1, h2⟩ := may22 ex0 zn zc names codes c (by have := hf.cl; omega) ⟨by have := hf.cs; omega, hf.csm⟩ (fun t ht => ⟨by have := (hf.all t ht).1; omega, (hf.all t ht).2⟩)
  cases b with
  | false =>
    have key : ∀ fu', Out6 (listS zn names) (listD zc (codes.map encCd)) c fu' 210 zcd 0 := fun fu' =>
      err6 _ _ c zcd fu' 210 0 (by decide) (call13 ⟨_, _, c, fu', .inl ⟨rfl, rfl, .inl ⟨h1, rfl⟩⟩⟩)
    exact ⟨210, zcd, 0, zs, key fu, fun _ fu' _ => key fu'⟩
  | true =>
    obtain ⟨g1, g2, g3⟩ := h2 rfl
    have hF := clampN_le fu
    rcases clo14 ex0 zn zc names codes g1 hf.nl (fun t ht => ⟨g3 t ht, (hf.all t ht).1⟩) (clampN fu) c hF g2 hf.cs with ⟨y, u', a1, a2, a3, a4⟩ | ⟨e, u', r', a4⟩
    · have key : ∀ fu', clampF fu ≤ clampF fu' → Out6 (listS zn names) (listD zc (codes.map encCd)) c fu' 0 y u' := by
        intro fu' hle
        have hc := clampN_cast fu
        have hc' := clampN_cast fu'
        have := a4 (clampN fu') (by omega) (clampN_le fu')
        rw [hc'] at this
        exact ok6 _ _ c y fu' u' (call13 ⟨_, _, c, fu', .inl ⟨rfl, rfl, .inr ⟨h1, .inl ⟨_, _, this, ⟨_, _, _, y, rfl, rfl⟩, rfl⟩⟩⟩⟩)
      exact ⟨0, y, u', a3, key fu (Int.le_refl _), fun _ fu' h => key fu' h⟩
    · by_cases he : e = 0
      · subst he
        have key : ∀ fu', clampF fu ≤ clampF fu' → Out6 (listS zn names) (listD zc (codes.map encCd)) c fu' 0 zcd 0 := by
          intro fu' hle
          have hc := clampN_cast fu
          have hc' := clampN_cast fu'
          have := a4 (clampN fu') (by omega) (clampN_le fu') (.inr (by decide))
          rw [hc'] at this
          exact ok6 _ _ c zcd fu' 0 (call13 ⟨_, _, c, fu', .inl ⟨rfl, rfl, .inr ⟨h1, .inr ⟨_, _, _, this, ⟨_, _, _, zcd, rfl, rfl⟩, rfl⟩⟩⟩⟩)
        exact ⟨0, zcd, 0, zs, key fu (Int.le_refl _), fun _ fu' h => key fu' h⟩
      · have key : ∀ fu', clampF fu ≤ clampF fu' → (clampN fu' = clampN fu ∨ e ≠ 5) → Out6 (listS zn names) (listD zc (codes.map encCd)) c fu' e zcd 0 := by
          intro fu' hle h5
          have hc := clampN_cast fu
          have hc' := clampN_cast fu'
          have := a4 (clampN fu') (by omega) (clampN_le fu') h5
          rw [hc'] at this
          exact err6 _ _ c zcd fu' e 0 he (call13 ⟨_, _, c, fu', .inl ⟨rfl, rfl, .inr ⟨h1, .inr ⟨_, _, _, this, ⟨_, _, _, zcd, rfl, rfl⟩, rfl⟩⟩⟩⟩)
        exact ⟨e, zcd, 0, zs, key fu (Int.le_refl _) (.inl rfl), fun h fu' h' => key fu' h' (.inr h)⟩
theorem num9 (zn zc : Bool) (names : List ByteArray) (codes : List Cd) (c : Cd) (hf : Fine names codes c) (fu : Int) :
    ∃ (e n : Int), Out9 (listS zn names) (listD zc (codes.map encCd)) c fu e n ∧ (e ≠ 5 → ∀ fu', clampF fu ≤ clampF fu' → Out9 (listS zn names) (listD zc (codes.map encCd)) c fu' e n) := by
  obtain ⟨b, h1, h2⟩ := may22 ex0 zn zc names codes c (by have := hf.cl; omega) ⟨by have := hf.cs; omega, hf.csm⟩ (fun t ht => ⟨by have := (hf.all t ht).1; omega, (hf.all t ht).2⟩)
  cases b with
  | false =>
    have key : ∀ fu', Out9 (listS zn names) (listD zc (codes.map encCd)) c fu' 210 0 := fun fu' =>
      err9 _ _ c fu' 210 0 (by decide) (call13 ⟨_, _, c, fu', .inr ⟨rfl, rfl, .inl ⟨h1, rfl⟩⟩⟩)
    exact ⟨210, 0, key fu, fun _ fu' _ => key fu'⟩
  | true =>
    obtain ⟨g1, g2, g3⟩ := h2 rfl
    have hF := clampN_le fu
    rcases clo20 ex0 zn zc names codes g1 hf.nl (fun t ht => ⟨g3 t ht, (hf.all t ht).1⟩) (clampN fu) c hF g2 hf.cs with ⟨k, u', a4⟩ | ⟨e, k, u', r', a4⟩
    · have key : ∀ fu', clampF fu ≤ clampF fu' → Out9 (listS zn names) (listD zc (codes.map encCd)) c fu' 0 k := by
        intro fu' hle
        have hc := clampN_cast fu
        have hc' := clampN_cast fu'
        have := a4 (clampN fu') (by omega) (clampN_le fu')
        rw [hc'] at this
        exact ok9 _ _ c fu' k (call13 ⟨_, _, c, fu', .inr ⟨rfl, rfl, .inr ⟨h1, .inl ⟨_, _, this, ⟨_, _, _, rfl, rfl⟩, rfl⟩⟩⟩⟩)
      exact ⟨0, k, key fu (Int.le_refl _), fun _ fu' h => key fu' h⟩
    · by_cases he : e = 0
      · subst he
        have key : ∀ fu', clampF fu ≤ clampF fu' → Out9 (listS zn names) (listD zc (codes.map encCd)) c fu' 0 k := by
          intro fu' hle
          have hc := clampN_cast fu
          have hc' := clampN_cast fu'
          have := a4 (clampN fu') (by omega) (clampN_le fu') (.inr (by decide))
          rw [hc'] at this
          exact ok9 _ _ c fu' k (call13 ⟨_, _, c, fu', .inr ⟨rfl, rfl, .inr ⟨h1, .inr ⟨_, _, _, this, ⟨_, _, _, rfl, rfl⟩, rfl⟩⟩⟩⟩)
        exact ⟨0, k, key fu (Int.le_refl _), fun _ fu' h => key fu' h⟩
      · have key : ∀ fu', clampF fu ≤ clampF fu' → (clampN fu' = clampN fu ∨ e ≠ 5) → Out9 (listS zn names) (listD zc (codes.map encCd)) c fu' e 0 := by
          intro fu' hle h5
          have hc := clampN_cast fu
          have hc' := clampN_cast fu'
          have := a4 (clampN fu') (by omega) (clampN_le fu') h5
          rw [hc'] at this
          exact err9 _ _ c fu' e k he (call13 ⟨_, _, c, fu', .inr ⟨rfl, rfl, .inr ⟨h1, .inr ⟨_, _, _, this, ⟨_, _, _, rfl, rfl⟩, rfl⟩⟩⟩⟩)
        exact ⟨e, 0, key fu (Int.le_refl _) (.inl rfl), fun h fu' h' => key fu' h' (.inr h)⟩
end Go.Proofs.YtmjacokkgfophaaDoor.Am
end
section
/- A code is the same as itself. -/
namespace Go.Proofs.YtmjacokkgfophaaDoor.Am
open Go
variable (ext : Ext)
set_option maxHeartbeats 8000000
set_option maxRecDepth 10000
noncomputable def B8 : Code := (Tryd.f8.body.getD .skip)
noncomputable def L8 : Code := sub B8 [1, 1, 0, 1, 0, 0]
noncomputable def K8 : List It := [.inBlock 0, .code (sub B8 [1, 1, 1])]
def E8 (k : Int) : Env := [(2, .c (.ptr 0 0)), (3, .c (.ptr 1 0)), (5, iV k)]
def O8 (x : Cd) : List O := [.box (cdC x), .box (cdC x)]
theorem enter8 (hx : ext 8 = none) (x : Cd) (out : Option Out) (h : run Tryd.prog ext (.k ⟨53, 0, [.tmp 4]⟩ (.code L8 :: .inLoop L8 :: K8) (E8 0) (O8 x)) = out) :
    run Tryd.prog ext (.call 8 [cdV x, cdV x] []) = out := by
  (rw [run_eq]; simp only [stepA, hx, Tryd.func8, Tryd.f8]; simp only [List.length_cons, List.length_nil, Nat.reduceAdd, Nat.reduceLeDiff, Nat.zero_le, ↓reduceIte, List.zipIdx_cons, List.zipIdx_nil, List.map_cons, List.map_nil])
  simp only [cdV, cdC, iV]
  simp only [zS, wantedA, opA, eff, boxA, cells, ev, gt, pt, putO, updO, setO, okC, loadA, cutC, fieldAddrA, fieldA, indexAddrA, indexA, builtinA, callOpA, callV, target, ptrV, lenS, binA, intOp, strOp, unA, num, lk, over, allocA, pickA, buildA, fillA, convertA, extractA, ofComp, nilCheckA, makeFuncA, ptrs, ofValue, cellB, Nat.reduceAdd, Nat.reduceSub, Nat.reduceMul, Nat.reduceLT, Nat.reduceLeDiff, Nat.reduceGT, ↓reduceIte, Nat.reduceEqDiff, Nat.reduceBEq, reduceCtorEq, Int.reduceBEq, Int.reduceBNe, Int.reduceLT, Int.reduceLE, Int.reduceGT, Int.reduceGE, aggT_25, sizeT_25, bytesT_25, fieldT_25_0, fieldT_25_1, fieldT_25_2, fieldT_25_3, placesT_25, zeroT_25, aggT_23, sizeT_23, bytesT_23, und_23, elemT_23, zero1_23, zeroT_23, aggT_3, sizeT_3, bytesT_3, und_3, zero1_3, zeroT_3, aggT_4, sizeT_4, bytesT_4, und_4, zero1_4, zeroT_4, aggT_9, sizeT_9, bytesT_9, und_9, zero1_9, zeroT_9, bne_self_eq_false, ib_bne_self]
  refine (r_inLoop_some ?_).trans h
  kernel_rfl
theorem step8 (x y : Cd) (k : Int) (h1 : k < x.l.length) (h0 : 0 ≤ k) (hy : x.l[k.toNat]? = some y) (hr : run Tryd.prog ext (.call 8 [cdV y, cdV y] []) = some (.ret [bV true] [])) (out : Option Out)
    (h : run Tryd.prog ext (.k ⟨53, 0, [.tmp 4]⟩ (.code L8 :: .inLoop L8 :: K8) (E8 (wr (k + 1))) (O8 x)) = out) :
    run Tryd.prog ext (.k ⟨53, 0, [.tmp 4]⟩ (.code L8 :: .inLoop L8 :: K8) (E8 k) (O8 x)) = out := by
  rw [show (It.code L8) = It.code (sub B8 [1, 1, 0, 1, 0, 0]) from rfl]
  simp only [E8, O8, cdV, cdC, iV, bV, lD_of_lt h0 h1] at hr h ⊢
  simp only [B8, K8, sub, Option.getD_some, Tryd.f8, ↓reduceIte, Nat.one_ne_zero]
  simp only [zS, wantedA, opA, eff, boxA, cells, ev, gt, pt, putO, updO, setO, okC, loadA, cutC, fieldAddrA, fieldA, indexAddrA, indexA, builtinA, callOpA, callV, target, ptrV, lenS, binA, intOp, strOp, unA, num, lk, over, allocA, pickA, buildA, fillA, convertA, extractA, ofComp, nilCheckA, makeFuncA, ptrs, ofValue, cellB, Nat.reduceAdd, Nat.reduceSub, Nat.reduceMul, Nat.reduceLT, Nat.reduceLeDiff, Nat.reduceGT, ↓reduceIte, Nat.reduceEqDiff, Nat.reduceBEq, reduceCtorEq, Int.reduceBEq, Int.reduceBNe, Int.reduceLT, Int.reduceLE, Int.reduceGT, Int.reduceGE, aggT_25, sizeT_25, bytesT_25, fieldT_25_0, fieldT_25_1, fieldT_25_2, fieldT_25_3, placesT_25, zeroT_25, aggT_23, sizeT_23, bytesT_23, und_23, elemT_23, zero1_23, zeroT_23, aggT_3, sizeT_3, bytesT_3, und_3, zero1_3, zeroT_3, aggT_4, sizeT_4, bytesT_4, und_4, zero1_4, zeroT_4, aggT_9, sizeT_9, bytesT_9, und_9, zero1_9, zeroT_9, h0, h1, hy, encCd_eq y, hr, drawA, holes_succ, holes_zero, Array.size, List.length]
  rw [afterDraw_some _ _ _ _ (by kernel_rfl)]
  simp only [zS, wantedA, opA, eff, boxA, cells, ev, gt, pt, putO, updO, setO, okC, loadA, cutC, fieldAddrA, fieldA, indexAddrA, indexA, builtinA, callOpA, callV, target, ptrV, lenS, binA, intOp, strOp, unA, num, lk, over, allocA, pickA, buildA, fillA, convertA, extractA, ofComp, nilCheckA, makeFuncA, ptrs, ofValue, cellB, Nat.reduceAdd, Nat.reduceSub, Nat.reduceMul, Nat.reduceLT, Nat.reduceLeDiff, Nat.reduceGT, ↓reduceIte, Nat.reduceEqDiff, Nat.reduceBEq, reduceCtorEq, Int.reduceBEq, Int.reduceBNe, Int.reduceLT, Int.reduceLE, Int.reduceGT, Int.reduceGE, aggT_25, sizeT_25, bytesT_25, fieldT_25_0, fieldT_25_1, fieldT_25_2, fieldT_25_3, placesT_25, zeroT_25, aggT_23, sizeT_23, bytesT_23, und_23, elemT_23, zero1_23, zeroT_23, aggT_3, sizeT_3, bytesT_3, und_3, zero1_3, zeroT_3, aggT_4, sizeT_4, bytesT_4, und_4, zero1_4, zeroT_4, aggT_9, sizeT_9, bytesT_9, und_9, zero1_9, zeroT_9]
  refine (r_inLoop_some ?_).trans h
  kernel_rfl
theorem done8 (x : Cd) (k : Int) (h1 : ¬ k < x.l.length) :
    run Tryd.prog ext (.k ⟨53, 0, [.tmp 4]⟩ (.code L8 :: .inLoop L8 :: K8) (E8 k) (O8 x)) = some (.ret [bV true] []) := by
  rw [show (It.code L8) = It.code (sub B8 [1, 1, 0, 1, 0, 0]) from rfl]
  simp only [E8, O8, cdV, cdC, iV, bV]
  simp only [B8, K8, sub, Option.getD_some, Tryd.f8, ↓reduceIte, Nat.one_ne_zero]
  simp only [zS, wantedA, opA, eff, boxA, cells, ev, gt, pt, putO, updO, setO, okC, loadA, cutC, fieldAddrA, fieldA, indexAddrA, indexA, builtinA, callOpA, callV, target, ptrV, lenS, binA, intOp, strOp, unA, num, lk, over, allocA, pickA, buildA, fillA, convertA, extractA, ofComp, nilCheckA, makeFuncA, ptrs, ofValue, cellB, Nat.reduceAdd, Nat.reduceSub, Nat.reduceMul, Nat.reduceLT, Nat.reduceLeDiff, Nat.reduceGT, ↓reduceIte, Nat.reduceEqDiff, Nat.reduceBEq, reduceCtorEq, Int.reduceBEq, Int.reduceBNe, Int.reduceLT, Int.reduceLE, Int.reduceGT, Int.reduceGE, aggT_25, sizeT_25, bytesT_25, fieldT_25_0, fieldT_25_1, fieldT_25_2, fieldT_25_3, placesT_25, zeroT_25, aggT_23, sizeT_23, bytesT_23, und_23, elemT_23, zero1_23, zeroT_23, aggT_3, sizeT_3, bytesT_3, und_3, zero1_3, zeroT_3, aggT_4, sizeT_4, bytesT_4, und_4, zero1_4, zeroT_4, aggT_9, sizeT_9, bytesT_9, und_9, zero1_9, zeroT_9, h1]
  (refine Eq.trans ?_ rfl; kernel_rfl)
theorem same8 (hx : ext 8 = none) : ∀ (n : Nat) (x : Cd), x.size ≤ n → n < 2 ^ 62 → run Tryd.prog ext (.call 8 [cdV x, cdV x] []) = some (.ret [bV true] []) := by
  intro n
  induction n with
  | zero => intro x h; have := x.size_pos; omega
  | succ n ih =>
    intro x h hn
    have hl := x.len_lt
    have key : ∀ (m k : Nat), k + m = x.l.length → run Tryd.prog ext (.k ⟨53, 0, [.tmp 4]⟩ (.code L8 :: .inLoop L8 :: K8) (E8 k) (O8 x)) = some (.ret [bV true] []) := by
      intro m
      induction m with
      | zero => intro k hk; exact done8 ext x k (by omega)
      | succ m ihm =>
        intro k hk
        have hlt : k < x.l.length := by omega
        refine step8 ext x x.l[k] k (by omega) (by omega) (by simp [hlt]) (ih _ (by have := Cd.size_lt (List.getElem_mem hlt); omega) (by omega)) _ ?_
        rw [wr_id (by omega) (by omega)]
        exact ihm (k + 1) (by omega)
    exact enter8 ext hx x _ (key x.l.length 0 (by omega))
end Go.Proofs.YtmjacokkgfophaaDoor.Am
end
section
/- heavy: it answers. -/
namespace Go.Proofs.YtmjacokkgfophaaDoor.Am
open Go
variable (ext : Ext)
set_option maxHeartbeats 8000000
set_option maxRecDepth 10000
def coL (rec : Rec) (o : Option O) (slot : Nat) (f : FuncId) (v : V) (id : Nat) : Option Eff :=
  match o with
  | some (.arr k els) => callOut [] [id] slot (rec (.call f [.c (.d (.s k els)), v] []))
  | _ => none
theorem callA_own_v (rec : Rec) (look : Look) (slot : Nat) (f : FuncId) (v : V) (id : Nat) (hv : dataV v = true) : callA rec look slot f [.c (.own id), v] = coL rec (look id) slot f v id := by
  obtain ⟨h1, h2, h3⟩ := argV_data (look := look) hv
  have ho : argV look (.c (.own id)) = match look id with | some (.arr k els) => some (.c (.d (.s k els)), [id]) | _ => none := by
    simp only [argV, argC]
    cases look id with
    | none => rfl
    | some o => cases o <;> rfl
  unfold callA callPrep coL
  simp only [argVs, h1, ho]
  cases look id with
  | none => rfl
  | some o =>
    cases o with
    | arr k els =>
      dsimp only
      have e : (V.c (C.d (D.s k els)) :: [v]).flatMap refsV = [] := by rw [List.flatMap_cons, List.flatMap_cons, h2]; rfl
      simp only [List.append_nil, List.nil_append]
      rw [e]
      have hr : Am.reach look 200 [] [] = [] := rfl
      have hm : mapO (renV (pos [])) [V.c (C.d (D.s k els)), v] = some [V.c (C.d (D.s k els)), v] := mapO_two rfl (h3 _)
      rw [hr, hm]
      rfl
    | _ => rfl
theorem coL_arr (rec : Rec) (k : Nat) (els : List (List D)) (slot : Nat) (f : FuncId) (v : V) (id : Nat) : coL rec (some (.arr k els)) slot f v id = callOut [] [id] slot (rec (.call f [.c (.d (.s k els)), v] [])) := rfl
theorem callOut_oi (id slot : Nat) (n : Int) : callOut [] [id] slot (some (.ret [.c (.d (.v (.int .i64 n)))] [])) = some ⟨.val (.c (.d (.v (.int .i64 n)))), [], [id]⟩ := rfl
def mV (nd cd : D) (c : Cd) : V := .agg ([.d nd, .d cd] ++ cdC c)
theorem heavy5 (hx : ext 5 = none) (zn zc : Bool) (names : List ByteArray) (codes : List Cd) (c : Cd) (r1 r2 : Int) (h1 : run Tryd.prog ext (.call 12 [cdsV zc codes, iV 1000] []) = some (.ret [iV r1] [])) (h2 : run Tryd.prog ext (.call 12 [cdsV false [c], iV 300] []) = some (.ret [iV r2] [])) :
    run Tryd.prog ext (.call 5 [mV (listS zn names) (listD zc (codes.map encCd)) c] []) = some (.ret [bV (decide ((names.length : Int) > 20) || decide ((codes.length : Int) > 20) || decide (r1 > 1000) || decide (r2 > 300))] []) := by
  simp only [mV, cdV, cdC, iV, bV, cdsV, List.cons_append, List.nil_append] at h1 h2 ⊢
  have e2 : listD false ([c].map encCd) = .s 4 [encCd c] := rfl
  rw [e2] at h2
  (rw [run_eq]; simp only [stepA, hx, Tryd.func5, Tryd.f5]; simp only [List.length_cons, List.length_nil, Nat.reduceAdd, Nat.reduceLeDiff, Nat.zero_le, ↓reduceIte, List.zipIdx_cons, List.zipIdx_nil, List.map_cons, List.map_nil])
  by_cases g1 : (names.length : Int) > 20
  · simp only [zS, wantedA, opA, eff, boxA, cells, ev, gt, pt, putO, updO, setO, okC, loadA, cutC, fieldAddrA, fieldA, indexAddrA, indexA, builtinA, callOpA, callV, target, ptrV, lenS, binA, intOp, strOp, unA, num, lk, over, allocA, pickA, buildA, fillA, convertA, extractA, ofComp, nilCheckA, makeFuncA, ptrs, ofValue, cellB, Nat.reduceAdd, Nat.reduceSub, Nat.reduceMul, Nat.reduceLT, Nat.reduceLeDiff, Nat.reduceGT, ↓reduceIte, Nat.reduceEqDiff, Nat.reduceBEq, reduceCtorEq, Int.reduceBEq, Int.reduceBNe, Int.reduceLT, Int.reduceLE, Int.reduceGT, Int.reduceGE, aggT_25, sizeT_25, bytesT_25, fieldT_25_0, fieldT_25_1, fieldT_25_2, fieldT_25_3, placesT_25, zeroT_25, aggT_23, sizeT_23, bytesT_23, und_23, elemT_23, zero1_23, zeroT_23, aggT_22, sizeT_22, bytesT_22, und_22, elemT_22, zero1_22, zeroT_22, aggT_27, sizeT_27, bytesT_27, fieldT_27_0, fieldT_27_1, fieldT_27_2, placesT_27, zeroT_27, aggT_3, sizeT_3, bytesT_3, und_3, zero1_3, zeroT_3, aggT_4, sizeT_4, bytesT_4, und_4, zero1_4, zeroT_4, lenA_listS, callA_own_v, coL_arr, callOut_oi, bs1, g1]
    (refine Eq.trans ?_ rfl; kernel_rfl)
  · by_cases g2 : (codes.length : Int) > 20
    · simp only [zS, wantedA, opA, eff, boxA, cells, ev, gt, pt, putO, updO, setO, okC, loadA, cutC, fieldAddrA, fieldA, indexAddrA, indexA, builtinA, callOpA, callV, target, ptrV, lenS, binA, intOp, strOp, unA, num, lk, over, allocA, pickA, buildA, fillA, convertA, extractA, ofComp, nilCheckA, makeFuncA, ptrs, ofValue, cellB, Nat.reduceAdd, Nat.reduceSub, Nat.reduceMul, Nat.reduceLT, Nat.reduceLeDiff, Nat.reduceGT, ↓reduceIte, Nat.reduceEqDiff, Nat.reduceBEq, reduceCtorEq, Int.reduceBEq, Int.reduceBNe, Int.reduceLT, Int.reduceLE, Int.reduceGT, Int.reduceGE, aggT_25, sizeT_25, bytesT_25, fieldT_25_0, fieldT_25_1, fieldT_25_2, fieldT_25_3, placesT_25, zeroT_25, aggT_23, sizeT_23, bytesT_23, und_23, elemT_23, zero1_23, zeroT_23, aggT_22, sizeT_22, bytesT_22, und_22, elemT_22, zero1_22, zeroT_22, aggT_27, sizeT_27, bytesT_27, fieldT_27_0, fieldT_27_1, fieldT_27_2, placesT_27, zeroT_27, aggT_3, sizeT_3, bytesT_3, und_3, zero1_3, zeroT_3, aggT_4, sizeT_4, bytesT_4, und_4, zero1_4, zeroT_4, lenA_listS, callA_own_v, coL_arr, callOut_oi, bs1, g1, g2]
      (refine Eq.trans ?_ rfl; kernel_rfl)
    · by_cases g3 : r1 > 1000
      · simp only [zS, wantedA, opA, eff, boxA, cells, ev, gt, pt, putO, updO, setO, okC, loadA, cutC, fieldAddrA, fieldA, indexAddrA, indexA, builtinA, callOpA, callV, target, ptrV, lenS, binA, intOp, strOp, unA, num, lk, over, allocA, pickA, buildA, fillA, convertA, extractA, ofComp, nilCheckA, makeFuncA, ptrs, ofValue, cellB, Nat.reduceAdd, Nat.reduceSub, Nat.reduceMul, Nat.reduceLT, Nat.reduceLeDiff, Nat.reduceGT, ↓reduceIte, Nat.reduceEqDiff, Nat.reduceBEq, reduceCtorEq, Int.reduceBEq, Int.reduceBNe, Int.reduceLT, Int.reduceLE, Int.reduceGT, Int.reduceGE, aggT_25, sizeT_25, bytesT_25, fieldT_25_0, fieldT_25_1, fieldT_25_2, fieldT_25_3, placesT_25, zeroT_25, aggT_23, sizeT_23, bytesT_23, und_23, elemT_23, zero1_23, zeroT_23, aggT_22, sizeT_22, bytesT_22, und_22, elemT_22, zero1_22, zeroT_22, aggT_27, sizeT_27, bytesT_27, fieldT_27_0, fieldT_27_1, fieldT_27_2, placesT_27, zeroT_27, aggT_3, sizeT_3, bytesT_3, und_3, zero1_3, zeroT_3, aggT_4, sizeT_4, bytesT_4, und_4, zero1_4, zeroT_4, lenA_listS, callA_own_v, coL_arr, callOut_oi, bs1, g1, g2, h1, g3]
        (refine Eq.trans ?_ rfl; kernel_rfl)
      · by_cases g4 : r2 > 300
        · simp only [zS, wantedA, opA, eff, boxA, cells, ev, gt, pt, putO, updO, setO, okC, loadA, cutC, fieldAddrA, fieldA, indexAddrA, indexA, builtinA, callOpA, callV, target, ptrV, lenS, binA, intOp, strOp, unA, num, lk, over, allocA, pickA, buildA, fillA, convertA, extractA, ofComp, nilCheckA, makeFuncA, ptrs, ofValue, cellB, Nat.reduceAdd, Nat.reduceSub, Nat.reduceMul, Nat.reduceLT, Nat.reduceLeDiff, Nat.reduceGT, ↓reduceIte, Nat.reduceEqDiff, Nat.reduceBEq, reduceCtorEq, Int.reduceBEq, Int.reduceBNe, Int.reduceLT, Int.reduceLE, Int.reduceGT, Int.reduceGE, aggT_25, sizeT_25, bytesT_25, fieldT_25_0, fieldT_25_1, fieldT_25_2, fieldT_25_3, placesT_25, zeroT_25, aggT_23, sizeT_23, bytesT_23, und_23, elemT_23, zero1_23, zeroT_23, aggT_22, sizeT_22, bytesT_22, und_22, elemT_22, zero1_22, zeroT_22, aggT_27, sizeT_27, bytesT_27, fieldT_27_0, fieldT_27_1, fieldT_27_2, placesT_27, zeroT_27, aggT_3, sizeT_3, bytesT_3, und_3, zero1_3, zeroT_3, aggT_4, sizeT_4, bytesT_4, und_4, zero1_4, zeroT_4, lenA_listS, callA_own_v, coL_arr, callOut_oi, bs1, g1, g2, h1, g3, h2, g4]
          (refine Eq.trans ?_ rfl; kernel_rfl)
        · simp only [zS, wantedA, opA, eff, boxA, cells, ev, gt, pt, putO, updO, setO, okC, loadA, cutC, fieldAddrA, fieldA, indexAddrA, indexA, builtinA, callOpA, callV, target, ptrV, lenS, binA, intOp, strOp, unA, num, lk, over, allocA, pickA, buildA, fillA, convertA, extractA, ofComp, nilCheckA, makeFuncA, ptrs, ofValue, cellB, Nat.reduceAdd, Nat.reduceSub, Nat.reduceMul, Nat.reduceLT, Nat.reduceLeDiff, Nat.reduceGT, ↓reduceIte, Nat.reduceEqDiff, Nat.reduceBEq, reduceCtorEq, Int.reduceBEq, Int.reduceBNe, Int.reduceLT, Int.reduceLE, Int.reduceGT, Int.reduceGE, aggT_25, sizeT_25, bytesT_25, fieldT_25_0, fieldT_25_1, fieldT_25_2, fieldT_25_3, placesT_25, zeroT_25, aggT_23, sizeT_23, bytesT_23, und_23, elemT_23, zero1_23, zeroT_23, aggT_22, sizeT_22, bytesT_22, und_22, elemT_22, zero1_22, zeroT_22, aggT_27, sizeT_27, bytesT_27, fieldT_27_0, fieldT_27_1, fieldT_27_2, placesT_27, zeroT_27, aggT_3, sizeT_3, bytesT_3, und_3, zero1_3, zeroT_3, aggT_4, sizeT_4, bytesT_4, und_4, zero1_4, zeroT_4, lenA_listS, callA_own_v, coL_arr, callOut_oi, bs1, g1, g2, h1, g3, h2, g4]
          (refine Eq.trans ?_ rfl; kernel_rfl)
end Go.Proofs.YtmjacokkgfophaaDoor.Am
end
section
/- awake: the machine does move. -/
namespace Go.Proofs.YtmjacokkgfophaaDoor.Am
open Go
set_option maxHeartbeats 8000000
set_option maxRecDepth 100000
def nilD : D := .v (.slice none 0 0)
def bb : Cd := .mk 3 0 ⟨#[]⟩ [bx, bx] false
theorem few_bx : run Tryd.prog E0 (.call 43 [cdV bx, iV 200000] []) = some (.ret [bV true] []) := (run_iff _ _ _ _).2 ⟨500, by kernel_rfl⟩
theorem may_bb : valid22 nilD nilD bb = some (.ret [bV true] []) := (run_iff _ _ _ _).2 ⟨2000, by kernel_rfl⟩
theorem head_bb : clA bb (M15 nilD nilD 5 0 0) = some (.ret [] [M15 nilD nilD 5 1 0, .box (cdC bb), .box (cdC bx), iB 1]) := (run_iff _ _ _ _).2 ⟨2000, by kernel_rfl⟩
theorem valid_bx : run Tryd.prog E1 (.call 21 [cdV bx] []) = some (.ret [bV true] []) := (run_iff _ _ _ _).2 ⟨500, by kernel_rfl⟩
theorem awake6 : Out6 nilD nilD bb 5 0 bx 1 := ok6 _ _ bb bx 5 1 (call13 ⟨_, _, bb, 5, .inl ⟨rfl, rfl, .inr ⟨may_bb, .inl ⟨_, _, head_bb, ⟨_, _, _, bx, rfl, rfl⟩, rfl⟩⟩⟩⟩)
theorem bsx {look : Look} {slot : Nat} : buildSliceA Tryd.prog look slot 23 2 [(0, .agg [.d (.v (.int .i64 7)), .d (.v (.int .i64 0)), .d (.v (.string ⟨#[]⟩)), .d (.v (.slice none 0 0))]), (1, .agg [.d (.v (.int .i64 7)), .d (.v (.int .i64 0)), .d (.v (.string ⟨#[]⟩)), .d (.v (.slice none 0 0))])] = some ⟨.val (.c (.own slot)), [(slot, .arr 4 [encCd bx, encCd bx])], []⟩ := bs2 (x := bx) (y := bx)
theorem awake11 : run Tryd.prog E1 (.call 11 [] []) = some (.ret [bV true] []) := by
  have hx : E1 11 = none := rfl
  have h6 : Out6 nilD nilD bb 5 0 bx 1 := awake6
  have h21 := valid_bx
  unfold Out6 at h6
  have ecall := callA_of (rec := run Tryd.prog E1) (look := lk [.box (cdC bx), .arr 4 [encCd bx, encCd bx]]) (slot := 2) (f := 6) (args := [.c (.d nilD), .c (.d nilD), .agg [.d (.v (.int .i64 3)), .d (.v (.int .i64 0)), .d (.v (.string ⟨#[]⟩)), .own 1], iV 5]) (ids := []) (bor := [1]) (e := ⟨.val (.tup [(true, cdC bx), (false, [.d (.v (.int .i64 1))]), (false, [.d (.v (.int .i64 0))])]), [], [1]⟩) (by kernel_rfl) h6 (by kernel_rfl)
  have e1 : cdC bx = [.d (.v (.int .i64 7)), .d (.v (.int .i64 0)), .d (.v (.string ⟨#[]⟩)), .d (.v (.slice none 0 0))] := rfl
  have e2 : cdV bx = .agg [.d (.v (.int .i64 7)), .d (.v (.int .i64 0)), .d (.v (.string ⟨#[]⟩)), .d (.v (.slice none 0 0))] := rfl
  rw [e1] at ecall
  rw [e2] at h21
  simp only [iV, bV, nilD] at ecall h21 ⊢
  (rw [run_eq]; simp only [stepA, hx, Tryd.func11, Tryd.f11]; simp only [List.length_cons, List.length_nil, Nat.reduceAdd, Nat.reduceLeDiff, Nat.zero_le, ↓reduceIte, List.zipIdx_cons, List.zipIdx_nil, List.map_cons, List.map_nil])
  simp only [zS, wantedA, opA, eff, boxA, cells, ev, gt, pt, putO, updO, setO, okC, loadA, cutC, fieldAddrA, fieldA, indexAddrA, indexA, builtinA, callOpA, callV, target, ptrV, lenS, binA, intOp, strOp, unA, num, lk, over, allocA, pickA, buildA, fillA, convertA, extractA, ofComp, nilCheckA, makeFuncA, ptrs, ofValue, cellB, Nat.reduceAdd, Nat.reduceSub, Nat.reduceMul, Nat.reduceLT, Nat.reduceLeDiff, Nat.reduceGT, ↓reduceIte, Nat.reduceEqDiff, Nat.reduceBEq, reduceCtorEq, Int.reduceBEq, Int.reduceBNe, Int.reduceLT, Int.reduceLE, Int.reduceGT, Int.reduceGE, aggT_25, sizeT_25, bytesT_25, fieldT_25_0, fieldT_25_1, fieldT_25_2, fieldT_25_3, placesT_25, zeroT_25, aggT_23, sizeT_23, bytesT_23, und_23, elemT_23, zero1_23, zeroT_23, aggT_29, sizeT_29, bytesT_29, und_29, zero1_29, zeroT_29, aggT_3, sizeT_3, bytesT_3, und_3, zero1_3, zeroT_3, aggT_4, sizeT_4, bytesT_4, und_4, zero1_4, zeroT_4, bsx, ecall, h21]
  (refine Eq.trans ?_ rfl; kernel_rfl)
end Go.Proofs.YtmjacokkgfophaaDoor.Am
end
section
/- The law. -/
namespace Go.Proofs.YtmjacokkgfophaaDoor.Am
open Go
set_option maxHeartbeats 8000000
set_option maxRecDepth 10000
theorem callOut_cii (slot : Nat) (cs : List C) (x y : D) (h : cs.all dataC = true) : callOut [] [] slot (some (.ret [.agg cs, .c (.d x), .c (.d y)] [])) = some ⟨.val (.tup [(true, cs), (false, [.d x]), (false, [.d y])]), [], []⟩ := by
  obtain ⟨_, _, h3⟩ := argCs_data (look := fun _ => none) h
  simp only [callOut, answer, mapO, renV, h3, renC, results1, comp, List.length_nil, Nat.lt_irrefl, if_false]
  split <;> rfl
theorem callOut_ii (slot : Nat) (x y : D) : callOut [] [] slot (some (.ret [.c (.d x), .c (.d y)] [])) = some ⟨.val (.tup [(false, [.d x]), (false, [.d y])]), [], []⟩ := by
  simp only [callOut, answer, mapO, renV, renC, results1, comp, List.length_nil, Nat.lt_irrefl, if_false]
  split <;> rfl
variable (nd cd : D) (c : Cd) (f : Int)
def uV (f : Int) : V := .c (.d (.v (.int .u16 f)))
theorem heavy4 (h5 : run Tryd.prog E1 (.call 5 [mV nd cd c] []) = some (.ret [bV true] [])) : run Tryd.prog E1 (.call 4 [mV nd cd c, uV f] []) = some (.ret [bV true] []) := by
  have hx : E1 4 = none := rfl
  simp only [mV, cdV, cdC, iV, bV, uV, List.cons_append, List.nil_append] at h5 ⊢
  (rw [run_eq]; simp only [stepA, hx, Tryd.func4, Tryd.f4]; simp only [List.length_cons, List.length_nil, Nat.reduceAdd, Nat.reduceLeDiff, Nat.zero_le, ↓reduceIte, List.zipIdx_cons, List.zipIdx_nil, List.map_cons, List.map_nil])
  simp only [zS, wantedA, opA, eff, boxA, cells, ev, gt, pt, putO, updO, setO, okC, loadA, cutC, fieldAddrA, fieldA, indexAddrA, indexA, builtinA, callOpA, callV, target, ptrV, lenS, binA, intOp, strOp, unA, num, lk, over, allocA, pickA, buildA, fillA, convertA, extractA, ofComp, nilCheckA, makeFuncA, ptrs, ofValue, cellB, Nat.reduceAdd, Nat.reduceSub, Nat.reduceMul, Nat.reduceLT, Nat.reduceLeDiff, Nat.reduceGT, ↓reduceIte, Nat.reduceEqDiff, Nat.reduceBEq, reduceCtorEq, Int.reduceBEq, Int.reduceBNe, Int.reduceLT, Int.reduceLE, Int.reduceGT, Int.reduceGE, aggT_25, sizeT_25, bytesT_25, fieldT_25_0, fieldT_25_1, fieldT_25_2, fieldT_25_3, placesT_25, zeroT_25, aggT_27, sizeT_27, bytesT_27, fieldT_27_0, fieldT_27_1, fieldT_27_2, placesT_27, zeroT_27, aggT_37, sizeT_37, bytesT_37, und_37, zero1_37, zeroT_37, aggT_29, sizeT_29, bytesT_29, und_29, zero1_29, zeroT_29, aggT_3, sizeT_3, bytesT_3, und_3, zero1_3, zeroT_3, aggT_4, sizeT_4, bytesT_4, und_4, zero1_4, zeroT_4, h5]
  (refine Eq.trans ?_ rfl; kernel_rfl)
theorem much4 (h5 : run Tryd.prog E1 (.call 5 [mV nd cd c] []) = some (.ret [bV false] [])) (hf : f > 400) : run Tryd.prog E1 (.call 4 [mV nd cd c, uV f] []) = some (.ret [bV true] []) := by
  have hx : E1 4 = none := rfl
  simp only [mV, cdV, cdC, iV, bV, uV, List.cons_append, List.nil_append] at h5 ⊢
  (rw [run_eq]; simp only [stepA, hx, Tryd.func4, Tryd.f4]; simp only [List.length_cons, List.length_nil, Nat.reduceAdd, Nat.reduceLeDiff, Nat.zero_le, ↓reduceIte, List.zipIdx_cons, List.zipIdx_nil, List.map_cons, List.map_nil])
  simp only [zS, wantedA, opA, eff, boxA, cells, ev, gt, pt, putO, updO, setO, okC, loadA, cutC, fieldAddrA, fieldA, indexAddrA, indexA, builtinA, callOpA, callV, target, ptrV, lenS, binA, intOp, strOp, unA, num, lk, over, allocA, pickA, buildA, fillA, convertA, extractA, ofComp, nilCheckA, makeFuncA, ptrs, ofValue, cellB, Nat.reduceAdd, Nat.reduceSub, Nat.reduceMul, Nat.reduceLT, Nat.reduceLeDiff, Nat.reduceGT, ↓reduceIte, Nat.reduceEqDiff, Nat.reduceBEq, reduceCtorEq, Int.reduceBEq, Int.reduceBNe, Int.reduceLT, Int.reduceLE, Int.reduceGT, Int.reduceGE, aggT_25, sizeT_25, bytesT_25, fieldT_25_0, fieldT_25_1, fieldT_25_2, fieldT_25_3, placesT_25, zeroT_25, aggT_27, sizeT_27, bytesT_27, fieldT_27_0, fieldT_27_1, fieldT_27_2, placesT_27, zeroT_27, aggT_37, sizeT_37, bytesT_37, und_37, zero1_37, zeroT_37, aggT_29, sizeT_29, bytesT_29, und_29, zero1_29, zeroT_29, aggT_3, sizeT_3, bytesT_3, und_3, zero1_3, zeroT_3, aggT_4, sizeT_4, bytesT_4, und_4, zero1_4, zeroT_4, h5, hf]
  (refine Eq.trans ?_ rfl; kernel_rfl)
theorem fuel4 (h5 : run Tryd.prog E1 (.call 5 [mV nd cd c] []) = some (.ret [bV false] [])) (hf : ¬ f > 400) (hw : wr f = f) (y : Cd) (n m e2 : Int) (h6 : Out6 nd cd c f 5 y n) (h9 : Out9 nd cd c f e2 m) (h9' : e2 ≠ 5 → Out9 nd cd c 20000 e2 m) : run Tryd.prog E1 (.call 4 [mV nd cd c, uV f] []) = some (.ret [bV true] []) := by
  have hx : E1 4 = none := rfl
  have h11 := awake11
  unfold Out6 at h6
  unfold Out9 at h9 h9'
  simp only [mV, cdV, cdC, iV, bV, uV, List.cons_append, List.nil_append] at h5 h6 h9 h9' h11 ⊢
  (rw [run_eq]; simp only [stepA, hx, Tryd.func4, Tryd.f4]; simp only [List.length_cons, List.length_nil, Nat.reduceAdd, Nat.reduceLeDiff, Nat.zero_le, ↓reduceIte, List.zipIdx_cons, List.zipIdx_nil, List.map_cons, List.map_nil])
  by_cases h25 : e2 = 5
  · subst h25
    simp only [zS, wantedA, opA, eff, boxA, cells, ev, gt, pt, putO, updO, setO, okC, loadA, cutC, fieldAddrA, fieldA, indexAddrA, indexA, builtinA, callOpA, callV, target, ptrV, lenS, binA, intOp, strOp, unA, num, lk, over, allocA, pickA, buildA, fillA, convertA, extractA, ofComp, nilCheckA, makeFuncA, ptrs, ofValue, cellB, Nat.reduceAdd, Nat.reduceSub, Nat.reduceMul, Nat.reduceLT, Nat.reduceLeDiff, Nat.reduceGT, ↓reduceIte, Nat.reduceEqDiff, Nat.reduceBEq, reduceCtorEq, Int.reduceBEq, Int.reduceBNe, Int.reduceLT, Int.reduceLE, Int.reduceGT, Int.reduceGE, aggT_22, sizeT_22, bytesT_22, und_22, elemT_22, zero1_22, zeroT_22, aggT_23, sizeT_23, bytesT_23, und_23, elemT_23, zero1_23, zeroT_23, aggT_25, sizeT_25, bytesT_25, fieldT_25_0, fieldT_25_1, fieldT_25_2, fieldT_25_3, placesT_25, zeroT_25, aggT_27, sizeT_27, bytesT_27, fieldT_27_0, fieldT_27_1, fieldT_27_2, placesT_27, zeroT_27, aggT_37, sizeT_37, bytesT_37, und_37, zero1_37, zeroT_37, aggT_29, sizeT_29, bytesT_29, und_29, zero1_29, zeroT_29, aggT_3, sizeT_3, bytesT_3, und_3, zero1_3, zeroT_3, aggT_4, sizeT_4, bytesT_4, und_4, zero1_4, zeroT_4, callOut_cii, callOut_ii, callA_nil, h5, hf, hw, h6, h9, h11]
    (refine Eq.trans ?_ rfl; kernel_rfl)
  · have h9'' := h9' h25
    simp only [zS, wantedA, opA, eff, boxA, cells, ev, gt, pt, putO, updO, setO, okC, loadA, cutC, fieldAddrA, fieldA, indexAddrA, indexA, builtinA, callOpA, callV, target, ptrV, lenS, binA, intOp, strOp, unA, num, lk, over, allocA, pickA, buildA, fillA, convertA, extractA, ofComp, nilCheckA, makeFuncA, ptrs, ofValue, cellB, Nat.reduceAdd, Nat.reduceSub, Nat.reduceMul, Nat.reduceLT, Nat.reduceLeDiff, Nat.reduceGT, ↓reduceIte, Nat.reduceEqDiff, Nat.reduceBEq, reduceCtorEq, Int.reduceBEq, Int.reduceBNe, Int.reduceLT, Int.reduceLE, Int.reduceGT, Int.reduceGE, aggT_22, sizeT_22, bytesT_22, und_22, elemT_22, zero1_22, zeroT_22, aggT_23, sizeT_23, bytesT_23, und_23, elemT_23, zero1_23, zeroT_23, aggT_25, sizeT_25, bytesT_25, fieldT_25_0, fieldT_25_1, fieldT_25_2, fieldT_25_3, placesT_25, zeroT_25, aggT_27, sizeT_27, bytesT_27, fieldT_27_0, fieldT_27_1, fieldT_27_2, placesT_27, zeroT_27, aggT_37, sizeT_37, bytesT_37, und_37, zero1_37, zeroT_37, aggT_29, sizeT_29, bytesT_29, und_29, zero1_29, zeroT_29, aggT_3, sizeT_3, bytesT_3, und_3, zero1_3, zeroT_3, aggT_4, sizeT_4, bytesT_4, und_4, zero1_4, zeroT_4, callOut_cii, callOut_ii, callA_nil, h5, hf, hw, h6, h9, h9'', h25, h11]
    (refine Eq.trans ?_ rfl; kernel_rfl)
theorem same4 (h5 : run Tryd.prog E1 (.call 5 [mV nd cd c] []) = some (.ret [bV false] [])) (hf : ¬ f > 400) (hw : wr f = f) (y : Cd) (hy : y.size < 2 ^ 60) (n m e e2 : Int) (he : ¬ e = 5) (h6 : Out6 nd cd c f e y n) (h6' : Out6 nd cd c 20000 e y n) (h9 : Out9 nd cd c f e2 m) (h9' : e2 ≠ 5 → Out9 nd cd c 20000 e2 m) : run Tryd.prog E1 (.call 4 [mV nd cd c, uV f] []) = some (.ret [bV true] []) := by
  have hx : E1 4 = none := rfl
  have h11 := awake11
  have h8 := same8 E1 rfl y.size y (Nat.le_refl _) (by omega)
  unfold Out6 at h6 h6'
  unfold Out9 at h9 h9'
  simp only [mV, cdV, cdC, iV, bV, uV, List.cons_append, List.nil_append] at h5 h6 h6' h8 h9 h9' h11 ⊢
  (rw [run_eq]; simp only [stepA, hx, Tryd.func4, Tryd.f4]; simp only [List.length_cons, List.length_nil, Nat.reduceAdd, Nat.reduceLeDiff, Nat.zero_le, ↓reduceIte, List.zipIdx_cons, List.zipIdx_nil, List.map_cons, List.map_nil])
  by_cases h0 : e = 0
  · subst h0
    by_cases h25 : e2 = 5
    · subst h25
      simp only [zS, wantedA, opA, eff, boxA, cells, ev, gt, pt, putO, updO, setO, okC, loadA, cutC, fieldAddrA, fieldA, indexAddrA, indexA, builtinA, callOpA, callV, target, ptrV, lenS, binA, intOp, strOp, unA, num, lk, over, allocA, pickA, buildA, fillA, convertA, extractA, ofComp, nilCheckA, makeFuncA, ptrs, ofValue, cellB, Nat.reduceAdd, Nat.reduceSub, Nat.reduceMul, Nat.reduceLT, Nat.reduceLeDiff, Nat.reduceGT, ↓reduceIte, Nat.reduceEqDiff, Nat.reduceBEq, reduceCtorEq, Int.reduceBEq, Int.reduceBNe, Int.reduceLT, Int.reduceLE, Int.reduceGT, Int.reduceGE, aggT_22, sizeT_22, bytesT_22, und_22, elemT_22, zero1_22, zeroT_22, aggT_23, sizeT_23, bytesT_23, und_23, elemT_23, zero1_23, zeroT_23, aggT_25, sizeT_25, bytesT_25, fieldT_25_0, fieldT_25_1, fieldT_25_2, fieldT_25_3, placesT_25, zeroT_25, aggT_27, sizeT_27, bytesT_27, fieldT_27_0, fieldT_27_1, fieldT_27_2, placesT_27, zeroT_27, aggT_37, sizeT_37, bytesT_37, und_37, zero1_37, zeroT_37, aggT_29, sizeT_29, bytesT_29, und_29, zero1_29, zeroT_29, aggT_3, sizeT_3, bytesT_3, und_3, zero1_3, zeroT_3, aggT_4, sizeT_4, bytesT_4, und_4, zero1_4, zeroT_4, callOut_cii, callOut_ii, callA_nil, h5, hf, hw, h6, h6', h8, h9, h11]
      (refine Eq.trans ?_ rfl; kernel_rfl)
    · have h9'' := h9' h25
      simp only [zS, wantedA, opA, eff, boxA, cells, ev, gt, pt, putO, updO, setO, okC, loadA, cutC, fieldAddrA, fieldA, indexAddrA, indexA, builtinA, callOpA, callV, target, ptrV, lenS, binA, intOp, strOp, unA, num, lk, over, allocA, pickA, buildA, fillA, convertA, extractA, ofComp, nilCheckA, makeFuncA, ptrs, ofValue, cellB, Nat.reduceAdd, Nat.reduceSub, Nat.reduceMul, Nat.reduceLT, Nat.reduceLeDiff, Nat.reduceGT, ↓reduceIte, Nat.reduceEqDiff, Nat.reduceBEq, reduceCtorEq, Int.reduceBEq, Int.reduceBNe, Int.reduceLT, Int.reduceLE, Int.reduceGT, Int.reduceGE, aggT_22, sizeT_22, bytesT_22, und_22, elemT_22, zero1_22, zeroT_22, aggT_23, sizeT_23, bytesT_23, und_23, elemT_23, zero1_23, zeroT_23, aggT_25, sizeT_25, bytesT_25, fieldT_25_0, fieldT_25_1, fieldT_25_2, fieldT_25_3, placesT_25, zeroT_25, aggT_27, sizeT_27, bytesT_27, fieldT_27_0, fieldT_27_1, fieldT_27_2, placesT_27, zeroT_27, aggT_37, sizeT_37, bytesT_37, und_37, zero1_37, zeroT_37, aggT_29, sizeT_29, bytesT_29, und_29, zero1_29, zeroT_29, aggT_3, sizeT_3, bytesT_3, und_3, zero1_3, zeroT_3, aggT_4, sizeT_4, bytesT_4, und_4, zero1_4, zeroT_4, callOut_cii, callOut_ii, callA_nil, h5, hf, hw, h6, h6', h8, h9, h9'', h25, h11]
      (refine Eq.trans ?_ rfl; kernel_rfl)
  · by_cases h25 : e2 = 5
    · subst h25
      simp only [zS, wantedA, opA, eff, boxA, cells, ev, gt, pt, putO, updO, setO, okC, loadA, cutC, fieldAddrA, fieldA, indexAddrA, indexA, builtinA, callOpA, callV, target, ptrV, lenS, binA, intOp, strOp, unA, num, lk, over, allocA, pickA, buildA, fillA, convertA, extractA, ofComp, nilCheckA, makeFuncA, ptrs, ofValue, cellB, Nat.reduceAdd, Nat.reduceSub, Nat.reduceMul, Nat.reduceLT, Nat.reduceLeDiff, Nat.reduceGT, ↓reduceIte, Nat.reduceEqDiff, Nat.reduceBEq, reduceCtorEq, Int.reduceBEq, Int.reduceBNe, Int.reduceLT, Int.reduceLE, Int.reduceGT, Int.reduceGE, aggT_22, sizeT_22, bytesT_22, und_22, elemT_22, zero1_22, zeroT_22, aggT_23, sizeT_23, bytesT_23, und_23, elemT_23, zero1_23, zeroT_23, aggT_25, sizeT_25, bytesT_25, fieldT_25_0, fieldT_25_1, fieldT_25_2, fieldT_25_3, placesT_25, zeroT_25, aggT_27, sizeT_27, bytesT_27, fieldT_27_0, fieldT_27_1, fieldT_27_2, placesT_27, zeroT_27, aggT_37, sizeT_37, bytesT_37, und_37, zero1_37, zeroT_37, aggT_29, sizeT_29, bytesT_29, und_29, zero1_29, zeroT_29, aggT_3, sizeT_3, bytesT_3, und_3, zero1_3, zeroT_3, aggT_4, sizeT_4, bytesT_4, und_4, zero1_4, zeroT_4, callOut_cii, callOut_ii, callA_nil, he, h0, h5, hf, hw, h6, h6', h8, h9, h11]
      (refine Eq.trans ?_ rfl; kernel_rfl)
    · have h9'' := h9' h25
      simp only [zS, wantedA, opA, eff, boxA, cells, ev, gt, pt, putO, updO, setO, okC, loadA, cutC, fieldAddrA, fieldA, indexAddrA, indexA, builtinA, callOpA, callV, target, ptrV, lenS, binA, intOp, strOp, unA, num, lk, over, allocA, pickA, buildA, fillA, convertA, extractA, ofComp, nilCheckA, makeFuncA, ptrs, ofValue, cellB, Nat.reduceAdd, Nat.reduceSub, Nat.reduceMul, Nat.reduceLT, Nat.reduceLeDiff, Nat.reduceGT, ↓reduceIte, Nat.reduceEqDiff, Nat.reduceBEq, reduceCtorEq, Int.reduceBEq, Int.reduceBNe, Int.reduceLT, Int.reduceLE, Int.reduceGT, Int.reduceGE, aggT_22, sizeT_22, bytesT_22, und_22, elemT_22, zero1_22, zeroT_22, aggT_23, sizeT_23, bytesT_23, und_23, elemT_23, zero1_23, zeroT_23, aggT_25, sizeT_25, bytesT_25, fieldT_25_0, fieldT_25_1, fieldT_25_2, fieldT_25_3, placesT_25, zeroT_25, aggT_27, sizeT_27, bytesT_27, fieldT_27_0, fieldT_27_1, fieldT_27_2, placesT_27, zeroT_27, aggT_37, sizeT_37, bytesT_37, und_37, zero1_37, zeroT_37, aggT_29, sizeT_29, bytesT_29, und_29, zero1_29, zeroT_29, aggT_3, sizeT_3, bytesT_3, und_3, zero1_3, zeroT_3, aggT_4, sizeT_4, bytesT_4, und_4, zero1_4, zeroT_4, callOut_cii, callOut_ii, callA_nil, he, h0, h5, hf, hw, h6, h6', h8, h9, h9'', h25, h11]
      (refine Eq.trans ?_ rfl; kernel_rfl)
theorem law4 (zn zc : Bool) (names : List ByteArray) (codes : List Cd) (c : Cd) (hf : Fine names codes c) (hsum : (codes.map Cd.size).sum < 2 ^ 60) (f : Int) (h0 : 0 ≤ f) (h1 : f < 65536) :
    run Tryd.prog E1 (.call 4 [mV (listS zn names) (listD zc (codes.map encCd)) c, uV f] []) = some (.ret [bV true] []) := by
  obtain ⟨r1, g1⟩ := nodes12 E1 rfl _ zc codes 1000 (Nat.le_refl _) (by omega)
  obtain ⟨r2, g2⟩ := nodes12 E1 rfl _ false [c] 300 (Nat.le_refl _) (by have := hf.cs; simp; omega)
  have h5 := heavy5 E1 rfl zn zc names codes c r1 r2 g1 g2
  generalize (decide ((names.length : Int) > 20) || decide ((codes.length : Int) > 20) || decide (r1 > 1000) || decide (r2 > 300)) = b at h5
  cases b with
  | true => exact heavy4 _ _ c f h5
  | false =>
    by_cases hm : f > 400
    · exact much4 _ _ c f h5 hm
    · have hw : wr f = f := wr_id (by omega) (by omega)
      have hle : clampF f ≤ clampF 20000 := by
        have e1 : clampF 20000 = 20000 := by decide
        have e2 : clampF f = f := by unfold clampF; rw [if_neg (by omega), if_neg (by omega)]
        omega
      obtain ⟨e, y, n, k1, k2, k3⟩ := head6 zn zc names codes c hf f
      obtain ⟨e2, m, k4, k5⟩ := num9 zn zc names codes c hf f
      by_cases he : e = 5
      · subst he
        exact fuel4 _ _ c f h5 hm hw y n m e2 k2 k4 (fun h => k5 h _ hle)
      · exact same4 _ _ c f h5 hm hw y (by omega) n m e e2 he k2 (k3 he _ hle) k4 (fun h => k5 h _ hle)
end Go.Proofs.YtmjacokkgfophaaDoor.Am
end
section
/- What the arguments read as, as data of the other model. -/
namespace Go.Proofs.YtmjacokkgfophaaDoor.Am
open Go Go.ChangeShapes Go.WideShapes
theorem list_of {α : Type} {p : Nat → α → Prop} : ∀ {n : Nat}, (∀ i, i < n → ∃ a, p i a) → ∃ l : List α, l.length = n ∧ ∀ i a, l[i]? = some a → p i a
  | 0, _ => ⟨[], rfl, fun i a h => by simp at h⟩
  | n + 1, h => by
    obtain ⟨l, h1, h2⟩ := list_of (n := n) (fun i hi => h i (by omega))
    obtain ⟨a, ha⟩ := h n (by omega)
    refine ⟨l ++ [a], by simp [h1], fun i b hb => ?_⟩
    by_cases hi : i < l.length
    · rw [List.getElem?_append_left hi] at hb
      exact h2 i b hb
    · rw [List.getElem?_append_right (by omega)] at hb
      have : i = n := by
        rcases Nat.lt_or_ge (i - l.length) 1 with h | h
        · omega
        · rw [List.getElem?_eq_none (by simpa using h)] at hb; cases hb
      subst this
      rw [h1] at hb
      simp at hb
      subst hb
      exact ha
theorem cell?_lt {W : World} {b o : Nat} {v : Value} (h : W.cell? ⟨b, o, none⟩ = some v) : b < W.heap.size := by
  unfold World.cell? at h
  rcases Nat.lt_or_ge b W.heap.size with h' | h'
  · exact h'
  · simp [h'] at h
section
variable {H : Type} {en : TypeId × Value → H} {P : Program} {W : World} {N : Nat → Prop} (hN : ∀ b, b < W.heap.size → N b)
include hN
theorem slice_of {t e : TypeId} {k fuel : Nat} {cs : List Value} {x : DataW H × List MemPlace} (ht : P.underlying t = some (.slice e)) (hc : P.cellsOf e = k) (hk : 0 < k) {α : Type} (encA : α → List D) (henc : ∀ a, (encA a).length = k) (Q : α → DataW H → Prop)
    (h : DataW.trod en P W 0 (fun _ => true) true fuel t cs = some x)
    (hel : ∀ (n : Nat) (cs' : List Value) (y : DataW H × List MemPlace), fuel = n + 1 → DataW.trod en P W 0 (fun _ => true) true n e cs' = some y → ∃ a : α, All2 (RepD W N) cs' (encA a) ∧ Q a y.1) :
    ∃ (z : Bool) (l : List α) (v : Value), cs = [v] ∧ RepD W N v (if z = true ∧ l.map encA = [] then .v (.slice none 0 0) else .s k (l.map encA)) ∧
      ∃ ds : List (DataW H), l.length = ds.length ∧ (∀ (i : Nat) (a : α) (d : DataW H), l[i]? = some a → ds[i]? = some d → Q a d) ∧ Rows.uptoBulkAll ds + 1 ≤ Rows.uptoBulk x.1 := by
  rcases DataW.trod_slice ht h with ⟨rfl, rfl⟩ | ⟨a0, len, cap, elems, rest, n, hfu, rfl, rfl, _, hlc, _, hlen, hel1, _, _⟩
  · refine ⟨true, [], _, rfl, ?_, [], rfl, fun i a d h => by simp at h, by simp [Rows.uptoBulkAll, Rows.uptoBulk]⟩
    rw [if_pos ⟨rfl, rfl⟩]
    exact .v rfl
  · rw [hc] at hel1
    have hp : ∀ i, i < len → ∃ a : α, ∃ csi, W.cells? 0 (a0.add (i * k)) k = some csi ∧ All2 (RepD W N) csi (encA a) ∧ ∃ d, elems[i]? = some d ∧ Q a d.1 := by
      intro i hi
      have h1 := hel1 i hi
      have h2 : elems[i]? = some elems[i] := by simp [hlen, hi]
      rw [h2] at h1
      obtain ⟨csi, h3, h4⟩ := Option.bind_eq_some_iff.1 h1
      obtain ⟨a, h5, h6⟩ := hel n csi _ hfu h4
      exact ⟨a, csi, h3, h5, _, h2, h6⟩
    obtain ⟨l, hl, hp'⟩ := list_of hp
    refine ⟨false, l, _, rfl, ?_, elems.map (·.1), by simp [hl, hlen], fun i a d h1 h2 => ?_, ?_⟩
    · rw [if_neg (by simp)]
      cases hl0 : l with
      | nil =>
        rw [hl0] at hl
        have : len = 0 := by simpa using hl.symm
        subst this
        exact .e _ _ _
      | cons a1 l1 =>
        rw [← hl0]
        have hpos : 0 < len := by rw [← hl, hl0]; simp
        have ha1 : l[0]? = some a1 := by rw [hl0]; rfl
        obtain ⟨cs0, g1, g2, _⟩ := hp' 0 a1 ha1
        obtain ⟨_, g3, g4⟩ := World.cells?_some g1
        have g5 := g4 0 hk
        obtain ⟨v0, hv0⟩ : ∃ v0, cs0[0]? = some v0 := ⟨cs0[0], by simp [g3, hk]⟩
        rw [hv0] at g5
        obtain ⟨b, o, spot⟩ := a0
        have hs : spot = none := by
          have := World.cell?_spot g5
          simpa [Addr.add] using this
        subst hs
        have hcell : ∀ (i : Nat) (a : α), l[i]? = some a → ∀ (j : Nat) (x : D), (encA a)[j]? = some x → ∃ v, W.cell? ⟨b, o + i * k + j, none⟩ = some v ∧ RepD W N v x := by
          intro i a ha j x hx
          obtain ⟨csi, q1, q2, _⟩ := hp' i a ha
          obtain ⟨_, q3, q4⟩ := World.cells?_some q1
          have hj : j < k := by
            rcases Nat.lt_or_ge j k with h | h
            · exact h
            · rw [List.getElem?_eq_none (by rw [henc]; exact h)] at hx; cases hx
          have q5 := q4 j hj
          rw [add_plain, add_plain] at q5
          obtain ⟨v, hv⟩ : ∃ v, csi[j]? = some v := ⟨csi[j], by simp [q3, hj]⟩
          rw [hv] at q5
          exact ⟨v, q5, q2.get hv hx⟩
        have hb : b < W.heap.size := by
          rw [add_plain, add_plain] at g5
          exact cell?_lt g5
        have hlen' : len = (l.map encA).length := by simp [hl]
        rw [hlen']
        refine .s (fun i j => (W.cell? ⟨b, o + i * k + j, none⟩).getD (.int .i64 0)) (hN b hb) (by simpa [hl] using hlc) (fun r hr => ?_) (fun i r j x h1 h2 => ?_) (fun i r j x h1 h2 => ?_)
        · obtain ⟨a, _, rfl⟩ := List.mem_map.1 hr; exact henc a
        · rw [List.getElem?_map] at h1
          obtain ⟨a, h3, rfl⟩ := Option.map_eq_some_iff.1 h1
          obtain ⟨v, q1, q2⟩ := hcell i a h3 j x h2
          rw [q1]; rfl
        · rw [List.getElem?_map] at h1
          obtain ⟨a, h3, rfl⟩ := Option.map_eq_some_iff.1 h1
          obtain ⟨v, q1, q2⟩ := hcell i a h3 j x h2
          rw [q1]; exact q2
    · obtain ⟨_, _, _, d', h3, h4⟩ := hp' i a h1
      rw [List.getElem?_map, h3] at h2
      simp at h2
      subst h2
      exact h4
    · simp only [Rows.uptoBulk]; omega
end
end Go.Proofs.YtmjacokkgfophaaDoor.Am
end
section
/- What the law's arguments read as. -/
namespace Go.Proofs.YtmjacokkgfophaaDoor.Am
open Go Go.ChangeShapes Go.WideShapes
theorem sum_le_bulk {H : Type} : ∀ (l : List Cd) (ds : List (DataW H)), l.length = ds.length → (∀ (i : Nat) a d, l[i]? = some a → ds[i]? = some d → a.size ≤ Rows.uptoBulk d) → (l.map Cd.size).sum ≤ Rows.uptoBulkAll ds
  | [], [], _, _ => by simp [Rows.uptoBulkAll]
  | [], _ :: _, h, _ => by cases h
  | _ :: _, [], h, _ => by cases h
  | a :: l, d :: ds, h, hq => by
    have h1 := hq 0 a d rfl rfl
    have h2 := sum_le_bulk l ds (by simpa using h) (fun i x y hx hy => hq (i + 1) x y hx hy)
    simp only [List.map_cons, List.sum_cons, Rows.uptoBulkAll]
    omega
theorem bulk_part {H : Type} : ∀ {ds : List (DataW H)} {i : Nat} {d : DataW H}, ds[i]? = some d → Rows.uptoBulk d ≤ Rows.uptoBulkAll ds
  | [], i, d, h => by simp at h
  | x :: ds, 0, d, h => by simp at h; subst h; simp only [Rows.uptoBulkAll]; omega
  | x :: ds, i + 1, d, h => by have := bulk_part (ds := ds) (i := i) (d := d) (by simpa using h); simp only [Rows.uptoBulkAll]; omega
theorem bulk_one {H : Type} (d : DataW H) : 1 ≤ Rows.uptoBulk d := by
  cases d with
  | lit l => cases l <;> simp [Rows.uptoBulk]
  | nil => simp [Rows.uptoBulk]
  | ptr d => simp [Rows.uptoBulk]
  | slice elems spare => simp [Rows.uptoBulk]
  | agg parts => simp [Rows.uptoBulk]
  | iface t d => simp [Rows.uptoBulk]
  | map entries => simp [Rows.uptoBulk]
  | held h => simp [Rows.uptoBulk]
theorem bulk_len {H : Type} : ∀ (ds : List (DataW H)), ds.length ≤ Rows.uptoBulkAll ds
  | [] => by simp [Rows.uptoBulkAll]
  | d :: ds => by have := bulk_len ds; have := bulk_one d; simp only [Rows.uptoBulkAll, List.length_cons]; omega
theorem len3 {α : Type} : ∀ {l : List α}, l.length = 3 → ∃ a b c, l = [a, b, c]
  | [a, b, c], _ => ⟨a, b, c, rfl⟩
theorem len4 {α : Type} : ∀ {l : List α}, l.length = 4 → ∃ a b c d, l = [a, b, c, d]
  | [a, b, c, d], _ => ⟨a, b, c, d, rfl⟩
theorem len6 {α : Type} : ∀ {l : List α}, l.length = 6 → ∃ a b c d e f, l = [a, b, c, d, e, f]
  | [a, b, c, d, e, f], _ => ⟨a, b, c, d, e, f, rfl⟩
theorem cells3 : Tryd.prog.cellsOf 3 = 1 := by kernel_rfl
theorem cells9 : Tryd.prog.cellsOf 9 = 1 := by kernel_rfl
theorem cells22 : Tryd.prog.cellsOf 22 = 1 := by kernel_rfl
theorem cells23 : Tryd.prog.cellsOf 23 = 1 := by kernel_rfl
theorem cells25 : Tryd.prog.cellsOf 25 = 4 := by kernel_rfl
theorem cells27 : Tryd.prog.cellsOf 27 = 6 := by kernel_rfl
section
variable {H : Type} {en : TypeId × Value → H} {W : World} {N : Nat → Prop} (hN : ∀ b, b < W.heap.size → N b)
include hN
theorem readOp : ∀ (fuel : Nat) (cs : List Value) (x : DataW H × List MemPlace), DataW.trod en Tryd.prog W 0 (fun _ => true) true fuel 25 cs = some x →
    ∃ c : Cd, All2 (RepD W N) cs (encCd c) ∧ (c.size ≤ Rows.uptoBulk x.1 ∧ (Rows.uptoBulk x.1 ≤ 1048576 → Sml c)) := by
  intro fuel
  induction fuel using Nat.strongRecOn with
  | _ fuel ih =>
    intro cs x h
    obtain ⟨xs, n, hfu, rfl, hcl, hxl, hf⟩ := DataW.trod_struct Tryd.underlying25 h
    rw [cells25] at hcl
    obtain ⟨v0, v1, v2, v3, rfl⟩ : ∃ v0 v1 v2 v3, cs = [v0, v1, v2, v3] := len4 hcl
    obtain ⟨x0, x1, x2, x3, rfl⟩ : ∃ x0 x1 x2 x3, xs = [x0, x1, x2, x3] := len4 hxl
    have f0 := hf 0 _ rfl
    have f1 := hf 1 _ rfl
    have f2 := hf 2 _ rfl
    have f3 := hf 3 _ rfl
    simp only [cells3, cells9, cells23, List.drop_zero, List.drop_succ_cons, List.take_succ_cons, List.take_zero, List.getElem?_cons_zero, List.getElem?_cons_succ] at f0 f1 f2 f3
    obtain ⟨n0, e0, rfl, _⟩ := DataW.trod_int Tryd.underlying3 f0
    obtain ⟨n1, e1, rfl, _⟩ := DataW.trod_int Tryd.underlying3 f1
    obtain ⟨s, e2, rfl, _⟩ := DataW.trod_string Tryd.underlying9 f2
    cases e0; cases e1; cases e2
    obtain ⟨z, l, v, e3, hrep, ds, hl, hq, hb⟩ := slice_of hN Tryd.underlying23 cells25 (by decide) encCd (fun c => by rw [encCd_eq]; rfl) (fun c d => c.size ≤ Rows.uptoBulk d ∧ (Rows.uptoBulk d ≤ 1048576 → Sml c)) f3
      (fun n' cs' y hn hy => by obtain ⟨c, k1, k2⟩ := ih n' (by omega) cs' y hy; exact ⟨c, k1, k2⟩)
    cases e3
    have hsz := sum_le_bulk l ds hl (fun i a d h1 h2 => (hq i a d h1 h2).1)
    have hbk : Rows.uptoBulk (DataW.agg ([((DataW.lit (.int .i64 n0) : DataW H), ([] : List MemPlace)), (.lit (.int .i64 n1), []), (.lit (.string s.data.toList), []), x3].map (·.1))) = 1 + (1 + (s.size + 1 + Rows.uptoBulk x3.1)) + 1 := by
      simp only [List.map_cons, List.map_nil, Rows.uptoBulk, Rows.uptoBulkAll, Array.length_toList]
      show 1 + (1 + (s.size + 1 + (Rows.uptoBulk x3.1 + 0))) + 1 = _
      omega
    refine ⟨.mk n0 n1 s l z, ?_, ?_, fun hle => ?_⟩
    · rw [encCd_eq]
      exact .cons (.v rfl) (.cons (.v rfl) (.cons (.v rfl) (.cons hrep .nil)))
    · rw [hbk, Cd.size_eq]; simp only [Cd.l]; omega
    · rw [hbk] at hle
      refine .mk (by simp only [Cd.s]; omega) fun y hy => ?_
      simp only [Cd.l] at hy
      obtain ⟨i, hi, rfl⟩ := List.getElem_of_mem hy
      have h2 : ds[i]? = some ds[i] := by simp [← hl, hi]
      have h3 := bulk_part h2
      exact (hq i l[i] _ (by simp [hi]) h2).2 (by omega)
theorem readCase {fuel : Nat} {cs : List Value} {x : DataW H × List MemPlace} (h : DataW.trod en Tryd.prog W 0 (fun _ => true) true fuel 27 cs = some x) (hle : Rows.uptoBulk x.1 ≤ 1048576) :
    ∃ (zn zc : Bool) (names : List ByteArray) (codes : List Cd) (c : Cd), All2 (RepD W N) cs ([listS zn names, listD zc (codes.map encCd)] ++ encCd c) ∧ Fine names codes c ∧ (codes.map Cd.size).sum < 2 ^ 60 := by
  obtain ⟨xs, n, hfu, rfl, hcl, hxl, hf⟩ := DataW.trod_struct Tryd.underlying27 h
  rw [cells27] at hcl
  obtain ⟨v0, v1, v2, v3, v4, v5, rfl⟩ : ∃ v0 v1 v2 v3 v4 v5, cs = [v0, v1, v2, v3, v4, v5] := len6 hcl
  obtain ⟨x0, x1, x2, rfl⟩ : ∃ x0 x1 x2, xs = [x0, x1, x2] := len3 hxl
  have f0 := hf 0 _ rfl
  have f1 := hf 1 _ rfl
  have f2 := hf 2 _ rfl
  simp only [cells22, cells23, cells25, List.drop_zero, List.drop_succ_cons, List.take_succ_cons, List.take_zero, List.getElem?_cons_zero, List.getElem?_cons_succ] at f0 f1 f2
  have hbk : Rows.uptoBulk (DataW.agg ([x0, x1, x2].map (·.1))) = Rows.uptoBulk x0.1 + (Rows.uptoBulk x1.1 + Rows.uptoBulk x2.1) + 1 := by
    simp only [List.map_cons, List.map_nil, Rows.uptoBulk, Rows.uptoBulkAll]; omega
  rw [hbk] at hle
  obtain ⟨zn, names, w0, e0, hrep0, ds0, hl0, hq0, hb0⟩ := slice_of hN Tryd.underlying22 cells9 (by decide) (fun s : ByteArray => [D.v (.string s)]) (fun _ => rfl) (fun _ _ => True) f0
    (fun n' cs' y hn hy => by obtain ⟨s, e, _, _⟩ := DataW.trod_string Tryd.underlying9 hy; subst e; exact ⟨s, .cons (.v rfl) .nil, trivial⟩)
  obtain ⟨zc, codes, w1, e1, hrep1, ds1, hl1, hq1, hb1⟩ := slice_of hN Tryd.underlying23 cells25 (by decide) encCd (fun c => by rw [encCd_eq]; rfl) (fun c d => c.size ≤ Rows.uptoBulk d ∧ (Rows.uptoBulk d ≤ 1048576 → Sml c)) f1
    (fun n' cs' y hn hy => readOp hN n' cs' y hy)
  obtain ⟨c, hrep2, hs2, hm2⟩ := readOp hN _ _ _ f2
  cases e0; cases e1
  have hsz := sum_le_bulk codes ds1 hl1 (fun i a d h1 h2 => (hq1 i a d h1 h2).1)
  have hn0 := bulk_len ds0
  have hn1 := bulk_len ds1
  refine ⟨zn, zc, names, codes, c, .cons ?_ (.cons hrep1 hrep2), ⟨by omega, by omega, by omega, hm2 (by omega), fun t ht => ?_⟩, by omega⟩
  · have e : listS zn names = if zn = true ∧ names.map (fun s : ByteArray => [D.v (.string s)]) = [] then .v (.slice none 0 0) else .s 1 (names.map fun s => [.v (.string s)]) := by
      unfold listS
      simp only [List.map_eq_nil_iff]
    rw [e]; exact hrep0
  · obtain ⟨i, hi, rfl⟩ := List.getElem_of_mem ht
    have h2 : ds1[i]? = some ds1[i] := by simp [← hl1, hi]
    have h3 := bulk_part h2
    obtain ⟨k1, k2⟩ := hq1 i codes[i] _ (by simp [hi]) h2
    exact ⟨by omega, k2 (by omega)⟩
end
end Go.Proofs.YtmjacokkgfophaaDoor.Am
end
section
/- What is read stays read, where the heap has only grown. -/
namespace Go.Proofs.YtmjacokkgfophaaDoor.Am
open Go Go.ChangeShapes Go.WideShapes
theorem mapM_of_get {β : Type} {f : Nat → Option β} : ∀ (r : List β) (k : Nat), (∀ i, i < r.length → f (k + i) = r[i]?) → (List.range' k r.length).mapM f = some r
  | [], k, _ => by simp
  | b :: r, k, h => by
    simp only [List.length_cons, List.range'_succ, List.mapM_cons]
    have h0 := h 0 (by simp)
    simp only [Nat.add_zero, List.getElem?_cons_zero] at h0
    have := mapM_of_get r (k + 1) (fun i hi => by
      have := h (i + 1) (by simp; omega)
      simpa [Nat.add_assoc, Nat.add_comm 1 i] using this)
    simp [h0, this]
theorem mapM_range_of {β : Type} {f : Nat → Option β} {r : List β} {n : Nat} (hn : r.length = n) (h : ∀ i, i < n → f i = r[i]?) : (List.range n).mapM f = some r := by
  subst hn
  rw [List.range_eq_range']
  exact mapM_of_get r 0 (fun i hi => by rw [Nat.zero_add]; exact h i hi)
section
variable {H : Type} {en : TypeId × Value → H} {W W' : World} (hw : ∀ b, b < W.heap.size → W'.heap[b]? = W.heap[b]?)
include hw
theorem cell?_keep {a : Addr} {v : Value} (h : W.cell? a = some v) : W'.cell? a = some v := by
  obtain ⟨b, o, spot⟩ := a
  have hs : spot = none := World.cell?_spot h
  subst hs
  rw [World.cell?_of_block (w := W) (hw b (cell?_lt h))]
  exact h
theorem cells?_keep {base n : Nat} {a : Addr} {cs : List Value} (h : W.cells? base a n = some cs) : W'.cells? base a n = some cs := by
  obtain ⟨h1, h2, h3⟩ := World.cells?_some h
  unfold World.cells?
  rw [if_pos h1]
  refine mapM_range_of h2 fun i hi => ?_
  have h4 := h3 i hi
  have h5 : cs[i]? = some cs[i] := by simp [h2, hi]
  rw [h5] at h4 ⊢
  exact cell?_keep hw h4
variable {sp : Nat → Bool}
theorem slice_keep {P : Program} {t e : TypeId} {n : Nat} {cs : List Value} {x : DataW H × List MemPlace} (ht : P.underlying t = some (.slice e)) (hk : 0 < P.cellsOf e)
    (hel : ∀ (cs' : List Value) (y : DataW H × List MemPlace), DataW.trod en P W 0 (fun _ => true) true n e cs' = some y → (∀ p ∈ y.2, sp p.block = true) → DataW.trod en P W' 0 sp true n e cs' = some y)
    (h : DataW.trod en P W 0 (fun _ => true) true (n + 1) t cs = some x) (hsp : ∀ p ∈ x.2, sp p.block = true) : DataW.trod en P W' 0 sp true (n + 1) t cs = some x := by
  rcases DataW.trod_slice ht h with ⟨rfl, rfl⟩ | ⟨a, len, cap, elems, rest, n', hfu, rfl, rfl, hb, hlc, hcm, hlen, h1, h2, _⟩
  · simp [DataW.trod, ht]
  · cases hfu
    obtain ⟨h3, h4⟩ := h2 rfl
    have part : ∀ (i : Nat) (y : DataW H × List MemPlace), y ∈ elems ++ rest → (W.cells? 0 (a.add (i * P.cellsOf e)) (P.cellsOf e)).bind (DataW.trod en P W 0 (fun _ => true) true n e) = some y →
        (W'.cells? 0 (a.add (i * P.cellsOf e)) (P.cellsOf e)).bind (DataW.trod en P W' 0 sp true n e) = some y := by
      intro i y hy hq
      obtain ⟨cs', q1, q2⟩ := Option.bind_eq_some_iff.1 hq
      rw [cells?_keep hw q1]
      refine hel cs' y q2 fun p hp => hsp p ?_
      simp only [List.mem_append, List.mem_flatMap]
      exact .inr ⟨y, by simpa using hy, hp⟩
    have e1 : (List.range len).mapM (fun i => (W'.cells? 0 (a.add (i * P.cellsOf e)) (P.cellsOf e)).bind (DataW.trod en P W' 0 sp true n e)) = some elems := by
      refine mapM_range_of hlen fun i hi => ?_
      have g1 := h1 i hi
      have g2 : elems[i]? = some elems[i] := by simp [hlen, hi]
      rw [g2] at g1 ⊢
      exact part i _ (List.mem_append_left _ (List.getElem_mem _)) g1
    have e2 : (if sp a.block = true then (List.range (cap - len)).mapM fun j => (W'.cells? 0 (a.add ((len + j) * P.cellsOf e)) (P.cellsOf e)).bind (DataW.trod en P W' 0 sp true n e) else some []) = some rest := by
      by_cases hc : cap = 0
      · have : rest = [] := List.length_eq_zero_iff.1 (by omega)
        subst this
        have : cap - len = 0 := by omega
        rw [this]
        simp
      · have hsa : sp a.block = true := by
          refine hsp (.cell a.block (a.off + 0)) ?_
          simp only [List.mem_append]
          refine .inl ?_
          unfold MemPlace.row
          refine List.mem_map.2 ⟨0, List.mem_range.2 (Nat.mul_pos (by omega) hk), rfl⟩
        rw [if_pos hsa]
        refine mapM_range_of h3 fun j hj => ?_
        have g1 := h4 j hj
        have g2 : rest[j]? = some rest[j] := by simp [h3, hj]
        rw [g2] at g1 ⊢
        exact part (len + j) _ (List.mem_append_right _ (List.getElem_mem _)) g1
    simp only [DataW.trod, ht]
    rw [if_pos ⟨hb, hlc, hcm⟩, e1, Option.bind_some, e2]
    rfl
end
end Go.Proofs.YtmjacokkgfophaaDoor.Am
end
section
/- The law's arguments stay read; what the law's call gives, for every input. -/
namespace Go.Proofs.YtmjacokkgfophaaDoor.Am
open Go Go.ChangeShapes Go.WideShapes Go.RowKit
section
variable {H : Type} {en : TypeId × Value → H} {W W' : World} (hw : ∀ b, b < W.heap.size → W'.heap[b]? = W.heap[b]?) {sp : Nat → Bool}
include hw
theorem int_keep {t : TypeId} {k : IntKind} (ht : Tryd.prog.underlying t = some (.int k)) {n : Nat} {cs : List Value} {x : DataW H × List MemPlace} (h : DataW.trod en Tryd.prog W 0 (fun _ => true) true n t cs = some x) : DataW.trod en Tryd.prog W' 0 sp true n t cs = some x := by
  obtain ⟨m, rfl, rfl, hwf⟩ := DataW.trod_int ht h
  cases n with
  | zero => simp [DataW.trod] at h
  | succ n => simp [DataW.trod, ht, hwf]
theorem string_keep {n : Nat} {cs : List Value} {x : DataW H × List MemPlace} (h : DataW.trod en Tryd.prog W 0 (fun _ => true) true n 9 cs = some x) : DataW.trod en Tryd.prog W' 0 sp true n 9 cs = some x := by
  obtain ⟨s, rfl, rfl, hm⟩ := DataW.trod_string Tryd.underlying9 h
  cases n with
  | zero => simp [DataW.trod] at h
  | succ n => simp [DataW.trod, Tryd.underlying9, hm]
theorem slice_keep' {t e : TypeId} {n : Nat} {cs : List Value} {x : DataW H × List MemPlace} (ht : Tryd.prog.underlying t = some (.slice e)) (hk : 0 < Tryd.prog.cellsOf e)
    (hel : ∀ (n' : Nat) (cs' : List Value) (y : DataW H × List MemPlace), n' < n → DataW.trod en Tryd.prog W 0 (fun _ => true) true n' e cs' = some y → (∀ p ∈ y.2, sp p.block = true) → DataW.trod en Tryd.prog W' 0 sp true n' e cs' = some y)
    (h : DataW.trod en Tryd.prog W 0 (fun _ => true) true n t cs = some x) (hsp : ∀ p ∈ x.2, sp p.block = true) : DataW.trod en Tryd.prog W' 0 sp true n t cs = some x := by
  cases n with
  | zero => simp [DataW.trod] at h
  | succ n => exact slice_keep hw ht hk (fun cs' y => hel n cs' y (by omega)) h hsp
theorem op_keep : ∀ (n : Nat) (cs : List Value) (x : DataW H × List MemPlace), DataW.trod en Tryd.prog W 0 (fun _ => true) true n 25 cs = some x → (∀ p ∈ x.2, sp p.block = true) → DataW.trod en Tryd.prog W' 0 sp true n 25 cs = some x := by
  intro n
  induction n using Nat.strongRecOn with
  | _ n ih =>
    intro cs x h hsp
    obtain ⟨xs, m, rfl, rfl, hcl, hxl, hf⟩ := DataW.trod_struct Tryd.underlying25 h
    obtain ⟨x0, x1, x2, x3, rfl⟩ := len4 hxl
    have f0 : DataW.trod en Tryd.prog W 0 (fun _ => true) true m 3 ((cs.drop 0).take (Tryd.prog.cellsOf 3)) = some x0 := hf 0 _ rfl
    have f1 : DataW.trod en Tryd.prog W 0 (fun _ => true) true m 3 ((cs.drop 1).take (Tryd.prog.cellsOf 3)) = some x1 := hf 1 _ rfl
    have f2 : DataW.trod en Tryd.prog W 0 (fun _ => true) true m 9 ((cs.drop 2).take (Tryd.prog.cellsOf 9)) = some x2 := hf 2 _ rfl
    have f3 : DataW.trod en Tryd.prog W 0 (fun _ => true) true m 23 ((cs.drop 3).take (Tryd.prog.cellsOf 23)) = some x3 := hf 3 _ rfl
    have g0 := int_keep hw (sp := sp) Tryd.underlying3 f0
    have g1 := int_keep hw (sp := sp) Tryd.underlying3 f1
    have g2 := string_keep hw (sp := sp) f2
    have g3 := slice_keep' hw Tryd.underlying23 (by rw [cells25]; decide) (fun n' cs' y hn => ih n' (by omega) cs' y) f3 (fun p hp => hsp p (by simp [hp]))
    exact trod_struct_mk Tryd.underlying25 hcl (by show (List.mapM (fun f : Field => _) [_, _, _, _]) = _; simp only [List.mapM_cons, List.mapM_nil, g0, g1, g2, g3]; rfl)
theorem case_keep {n : Nat} {cs : List Value} {x : DataW H × List MemPlace} (h : DataW.trod en Tryd.prog W 0 (fun _ => true) true n 27 cs = some x) (hsp : ∀ p ∈ x.2, sp p.block = true) : DataW.trod en Tryd.prog W' 0 sp true n 27 cs = some x := by
  obtain ⟨xs, m, rfl, rfl, hcl, hxl, hf⟩ := DataW.trod_struct Tryd.underlying27 h
  obtain ⟨x0, x1, x2, rfl⟩ := len3 hxl
  have f0 : DataW.trod en Tryd.prog W 0 (fun _ => true) true m 22 ((cs.drop 0).take (Tryd.prog.cellsOf 22)) = some x0 := hf 0 _ rfl
  have f1 : DataW.trod en Tryd.prog W 0 (fun _ => true) true m 23 ((cs.drop 1).take (Tryd.prog.cellsOf 23)) = some x1 := hf 1 _ rfl
  have f2 : DataW.trod en Tryd.prog W 0 (fun _ => true) true m 25 ((cs.drop 2).take (Tryd.prog.cellsOf 25)) = some x2 := hf 2 _ rfl
  have g0 := slice_keep' hw Tryd.underlying22 (by rw [cells9]; decide) (fun n' cs' y _ h _ => string_keep hw (sp := sp) h) f0 (fun p hp => hsp p (by simp [hp]))
  have g1 := slice_keep' hw Tryd.underlying23 (by rw [cells25]; decide) (fun n' cs' y _ => op_keep hw n' cs' y) f1 (fun p hp => hsp p (by simp [hp]))
  have g2 := op_keep hw m _ _ f2 (fun p hp => hsp p (by simp [hp]))
  exact trod_struct_mk Tryd.underlying27 hcl (by show (List.mapM (fun f : Field => _) [_, _, _]) = _; simp only [List.mapM_cons, List.mapM_nil, g0, g1, g2]; rfl)
end
theorem kept_of {W W' : World} {β β' : Nat → Nat} {m : Nat → Prop} (h : St m W β (lk []) W' β' (lk [])) : (∀ b, b < W.heap.size → W'.heap[b]? = W.heap[b]?) ∧ ∀ may, W.keptBut W' may := by
  have hb : ∀ b, b < W.heap.size → W'.heap[b]? = W.heap[b]? := fun b hb => h.block b hb (by rintro ⟨id, o, h1, _⟩; cases h1)
  refine ⟨hb, fun may => ⟨h.os, h.output, fun i hi => ?_⟩⟩
  rw [hb i hi]
  cases hx : W.heap[i]? with
  | none => trivial
  | some o => cases o <;> simp
theorem rk_all {W : World} {N : Nat → Prop} {β : Nat → Nat} {sh : Nat → Option Sh} : ∀ {vs : List Value} {ds : List D}, All2 (RepD W N) vs ds → All2 (RK W N β sh) vs (ds.map .d)
  | _, _, .nil => .nil
  | _, _, .cons h t => .cons ⟨RepD.cell h, h⟩ (rk_all t)
end Go.Proofs.YtmjacokkgfophaaDoor.Am
end
section
/- What the law's call gives, for every input within the bound. -/
namespace Go.Proofs.YtmjacokkgfophaaDoor.Am
open Go Go.ChangeShapes Go.WideShapes Go.RowKit
theorem cdC_enc (c : Cd) : cdC c = (encCd c).map .d := by rw [encCd_eq]; rfl
theorem ran4 {W : World} {cs : Array Value} {n : Int} {H : Type} {en : TypeId × Value → H} {fuel : Nat} {x : DataW H × List MemPlace} (h : DataW.trod en Tryd.prog W 0 (fun _ => true) true fuel 27 cs.toList = some x) (hle : Rows.uptoBulk x.1 ≤ 1048576) (h0 : 0 ≤ n) (h1 : n < 65536) :
    Calls Tryd.prog 4 #[.agg cs, .int .u16 n] W fun e W' => e = .returned (.bool true) ∧ (∀ b, b < W.heap.size → W'.heap[b]? = W.heap[b]?) ∧ ∀ may, W.keptBut W' may := by
  obtain ⟨zn, zc, names, codes, c, hrep, hfine, hsum⟩ := readCase (N := Nn W (fun _ => False) (fun _ => 0) (lk [])) (fun b hb => ⟨hb, id, by rintro ⟨id, o, h1, _⟩; cases h1⟩) h hle
  have hrun := law4 zn zc names codes c hfine hsum n h0 h1
  have hok : CallOK Tryd.prog 4 [mV (listS zn names) (listD zc (codes.map encCd)) c, uV n] [] (.ret [bV true] []) := by
    rcases rec1 4 _ _ _ hrun with ⟨_, h⟩ | ⟨xs, y, h, _⟩
    · exact h
    · cases xs with
      | nil => cases h
      | cons a l => simp only [List.map_cons, List.cons.injEq] at h; cases h.1
  have hsim : Sim W (fun _ => False) (fun _ => 0) (lk []) := ⟨fun b h => h.elim, fun id o h => (by cases h), fun id id' o o' h => (by cases h)⟩
  have hall : All2 (RVs W (fun _ => False) (fun _ => 0) (lk [])) [.agg cs, .int .u16 n] [mV (listS zn names) (listD zc (codes.map encCd)) c, uV n] := by
    refine .cons ⟨cs, rfl, ?_⟩ (.cons (.v rfl) .nil)
    have := rk_all (β := fun _ => 0) (sh := shL (lk [])) hrep
    rw [List.map_append, ← cdC_enc] at this
    exact this
  refine (hok W (fun _ => False) (fun _ => 0) _ hsim hall).mono ?_
  rintro e W' ⟨β', v, rfl, hres, _, hst⟩
  obtain ⟨k1, k2⟩ := kept_of hst
  refine ⟨?_, k1, k2⟩
  rcases hres with ⟨y, hy, hv⟩ | ⟨hne, _⟩
  · cases hy
    have hv' : RepD W' _ v (.v (.bool true)) := hv
    cases hv'
    rfl
  · exact absurd rfl hne
theorem contract (H : Type) (enc : TypeId × Value → H) (W : World) (base : Nat) (args : Array Value) (ds gs : List (DataW H)) (before : List MemPlace)
    (hval : ∀ (j : Nat) t v, Tryd.f4.params[j]? = some t → args[j]? = some v → Value.okWide Tryd.prog W .any base t v)
    (hW : DataW.Whole enc Tryd.prog Tryd.f4.params.toList Rows.eraseFuelsSpec.vars false W args.toList ds gs before) (hcond : Rows.uptoSmall H (ds ++ gs) = true) :
    Calls Tryd.prog 4 args W fun e W' => ∃ v, e = .returned v ∧ Rows.eraseFuelsSpec.post enc Tryd.prog Tryd.f4 false true false false W args v W' := by
  have hW' := hW
  obtain ⟨p, q, hA0, hV, rfl, hfz, hnd⟩ := hW
  have hA : DataW.TrodAll enc Tryd.prog W 0 (fun _ => true) true Tryd.f4.params.toList args.toList ds p := hA0
  rw [Tryd.params4] at hA hval
  obtain ⟨v0, v1, d0, d1, p0, p1, rfl, rfl, rfl, t0, t1⟩ := trodAll_two hA
  obtain ⟨rfl, rfl⟩ := trodVars_none hV
  obtain ⟨cs, rfl, _⟩ := okWide_struct Tryd.underlying27 (hval 0 27 v0 rfl rfl)
  obtain ⟨n, rfl, rfl, rfl, hwf⟩ := open_int Tryd.underlying37 (hval 1 37 v1 rfl rfl) t1
  obtain ⟨fuel, ht⟩ := t0
  have hb := of_decide_eq_true hcond
  simp only [List.append_nil, Rows.uptoBulkAll, Rows.uptoBulk] at hb
  have hn : 0 ≤ n ∧ n < 65536 := by
    have : (Lit.int IntKind.u16 n).wf = true := hwf
    simp only [Lit.wf, Bool.and_eq_true, decide_eq_true_eq] at this
    have h1 : IntKind.u16.min = 0 := by decide
    have h2 : IntKind.u16.max = 65535 := by decide
    omega
  refine (ran4 ht (show Rows.uptoBulk d0 ≤ 1048576 by omega) hn.1 hn.2).mono fun e W' ⟨he, hk, hkept⟩ => ?_
  subst he
  refine ⟨_, rfl, [d0, .lit (.int .u16 n)], [], _, [], p0 ++ [], [], hW', trodAll_mk1 (shut_bool Tryd.underlying4 _), ?_, rfl, hkept _, fun h => by cases h⟩
  refine trodAll_mk2 ⟨fuel, case_keep hk ht fun p hp => ?_⟩ (shut_int Tryd.underlying37 hwf)
  have hp' : p ∈ (p0 ++ ([] : List MemPlace)) ++ [] := by simpa using hp
  simpa using hW'.lt p hp'
end Go.Proofs.YtmjacokkgfophaaDoor.Am
end
section
/- The row and the card of EraseFuels. -/
namespace Go.Proofs.YtmjacokkgfophaaDoor.Am
open Go Go.ChangeShapes Go.WideShapes Go.ChangeAt Go.RowKit
theorem own : ownKnob Tryd.prog.godebug = none := by kernel_rfl
def firstCells : Array Value := (Pinned.utf8FirstZ.map fun n : Nat => Value.int .u8 (n : Int)).toArray
def acceptCells : Array Value := ((([128, 191, 160, 191, 128, 159, 144, 191, 128, 143] : List Int) ++ List.replicate 22 (0 : Int)).map fun n : Int => Value.int .u8 n).toArray
def layCells (c : Array Value) : Obj → Obj
  | .cells _ t frozen => .cells c t frozen
  | o => o
/-- A world for the witness: the settled one, the two tables holding what the program's text lays. -/
noncomputable def laidWorld (os : Os) : World :=
  { World.holding Tryd.prog os ⟨#[], #[], []⟩ with heap := ((World.holding Tryd.prog os ⟨#[], #[], []⟩).heap.modify 1 (layCells firstCells)).modify 2 (layCells acceptCells) }
def wargs : Array Value := #[.agg #[.slice none 0 0, .slice none 0 0, .int .i64 0, .int .i64 0, .string ⟨#[]⟩, .slice none 0 0], .int .u16 0]
theorem laid_met (os : Os) : laidMet Tryd.prog Rows.eraseFuelsUptoRow.laid ((laidWorld os).forCall (fun _ _ => 0) ⟨#[], wargs, []⟩).memory :=
  laidMet_of_run' 8 (by kernel_rfl) (by kernel_rfl)
theorem reads (os : Os) {H : Type} (enc : TypeId × Value → H) : ∃ places, DataW.whole enc Tryd.prog ((laidWorld os).forCall (fun _ _ => 0) ⟨#[], wargs, []⟩).memory Tryd.f4.params.toList Rows.eraseFuelsSpec.vars false wargs.toList 8 = some ([.agg [.nil, .nil, .agg [.lit (.int .i64 0), .lit (.int .i64 0), .lit (.string []), .nil]], .lit (.int .u16 0)], [], places) :=
  ⟨[], by kernel_rfl⟩
set_option maxRecDepth 100000 in
theorem liftedUpto (os : Os) (started : os.Started) (H : Type) (enc : TypeId × Value → H) (F : Stop.Interp) :
    ReturnsInHanded {} Tryd.checked os 4 .any ((Rows.OpenSpec.upto Rows.eraseFuelsSpec).preRow enc Tryd.prog Tryd.f4 Rows.eraseFuelsUptoRow.domain false Rows.eraseFuelsUptoRow.laid) (((Rows.OpenSpec.upto Rows.eraseFuelsSpec).at F).post enc Tryd.prog Tryd.f4 false true false false) := by
  obtain ⟨places, hx⟩ := reads os enc
  refine returnsInHanded_of_row (C := Tryd.checked) (s := Rows.OpenSpec.upto Rows.eraseFuelsSpec) own started (by kernel_rfl) Tryd.func4
    (witness_row_at (enc := enc) (C := Tryd.checked) false (laidWorld os) wargs rfl (by kernel_rfl) (by kernel_rfl) (by kernel_rfl)
      (OpenSpec.preRow_of_cond 8 hx (by kernel_rfl) (fun k hk => by cases hk; kernel_rfl) (by kernel_rfl) (laid_met os))) ?_
  intro W base args ds gs before hval hW _ hcond _ _ _ _
  exact contract H enc W base args ds gs before hval hW (hcond _ rfl)
theorem saidUpto : Rows.EraseFuelsUptoSaid :=
  OpenClaim.holds_of_cond 4 Tryd.f4 rfl rfl rfl rfl rfl rfl rfl ⟨rfl, rfl, rfl, rfl, rfl⟩ rfl rfl rfl rfl rfl (by kernel_rfl) Tryd.func4 (by kernel_rfl)
    (of_decide_eq_true (by kernel_rfl)) (by unfold Func.isWrapper; first | (rw [if_pos (by decide +kernel)]; kernel_rfl) | (rw [if_neg (by decide +kernel)]; exact ⟨rfl, rfl⟩))
    (fun os started H enc _ F => by rw [OpenClaim.pre_eq_preRow]; exact liftedUpto os started H enc F)
/-- No parameter wants a stand-in; the program's own looks are off: what the card asks. -/
theorem plain (f : FuncId) (fn : Func) (hf : Tryd.pinned.checked.prog.funcNamed "tenet/tenetlaw21.EraseFuels" = some f) (hfn : Tryd.pinned.checked.prog.funcs[f]? = some fn) :
    true = Tryd.pinned.checked.prog.looks [] ∧ ∀ (j : Nat) t, fn.params[j]? = some t → Tryd.pinned.checked.prog.wantsStandIn t = false := by
  obtain rfl : f = 4 := Option.some.inj ((show Tryd.prog.funcNamed "tenet/tenetlaw21.EraseFuels" = some 4 by kernel_rfl).symm.trans hf) |>.symm
  obtain rfl : fn = Tryd.f4 := (Option.some.inj (Tryd.func4.symm.trans hfn)).symm
  refine ⟨by kernel_rfl, fun j t ht => ?_⟩
  rw [Tryd.params4] at ht
  have : t = 27 ∨ t = 37 := by simpa using Array.mem_of_getElem? ht
  rcases this with rfl | rfl
  · exact (show Tryd.prog.wantsStandIn 27 = false by kernel_rfl)
  · exact (show Tryd.prog.wantsStandIn 37 = false by kernel_rfl)
/-- The card. -/
theorem cardUpto : Rows.EraseFuelsUptoCardSaid :=
  Claim7.holds_tied_plain_at .later [] _ _ _ _ saidUpto (fun _ h => by cases h) (by kernel_rfl) (fun _ h => by cases h) eraseFuelsUpto_row_tie rfl ⟨rfl, rfl⟩ (by kernel_rfl) rfl plain (by kernel_rfl)
end Go.Proofs.YtmjacokkgfophaaDoor.Am
end
