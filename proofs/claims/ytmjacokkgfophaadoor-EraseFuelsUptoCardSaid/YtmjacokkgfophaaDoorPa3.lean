/- Part 3 of the proof of the card of EraseFuels, second form: no statement of its own; no conditions. -/
import Derived.Test.YtmjacokkgfophaaDoorPa2
import Derived.Recover
import Derived.Test.YtmjacokkgfophaaDoorProg
import Derived.Test.YtmjacokkgfophaaDoorChecked
import Derived.Lib.Bytealg
set_option linter.unusedSimpArgs false
set_option linter.unusedVariables false
set_option linter.defProp false
section
/- The abstract machine: how a run goes on, as rules for simp. -/
namespace Go.Proofs.YtmjacokkgfophaaDoor.Am
open Go
section
variable {P : Program} {ext : Ext} {cf : Cf} {K : List It} {env : Env} {loc : List O} {all : Array Oper} {l : List Oper}
theorem r_end : run P ext (.k cf [] env loc) = finishA P cf env loc := by rw [run_eq]; rfl
theorem r_ret : run P ext (.k cf (.code .ret :: K) env loc) = finishA P cf env loc := by rw [run_eq]; rfl
theorem r_skip : run P ext (.k cf (.code .skip :: K) env loc) = run P ext (.k cf K env loc) := by rw [run_eq]; rfl
theorem r_seq (a b : Code) : run P ext (.k cf (.code (.seq a b) :: K) env loc) = run P ext (.k cf (.code a :: .code b :: K) env loc) := by rw [run_eq]; rfl
theorem r_block (id : Nat) (a : Code) : run P ext (.k cf (.code (.block id a) :: K) env loc) = run P ext (.k cf (.code a :: .inBlock id :: K) env loc) := by rw [run_eq]; rfl
theorem r_inBlock (id : Nat) : run P ext (.k cf (.inBlock id :: K) env loc) = run P ext (.k cf K env loc) := by rw [run_eq]; rfl
theorem r_loop (a : Code) : run P ext (.k cf (.code (.loop a) :: K) env loc) = run P ext (.k cf (.inLoop a :: K) env loc) := by rw [run_eq]; rfl
theorem r_region (n : Nat) (ops : Array Oper) : run P ext (.k cf (.code (.region n ops false) :: K) env loc) = run P ext (.k cf (.ops ops ops.toList :: K) env loc) := by rw [run_eq]; rfl
def panK (P : Program) (rec : Rec) (cf : Cf) (ops : Array Oper) (env : Env) (loc : List O) (b : Option Nat) : Option Out :=
  match b with
  | some p => afterPan cf ops loc.length p (drawP P rec cf.nt ops loc.length p (befs [] ops.toList) ops.toList 0 env (loc ++ holes ops.size))
  | none => none
def drawK (P : Program) (rec : Rec) (cf : Cf) (ops : Array Oper) (K : List It) (env : Env) (loc : List O) (a : Option (Env × List O × List (List Nat × List Nat))) : Option Out :=
  match a with
  | some r => afterDraw rec cf ops K (some r)
  | none => panK P rec cf ops env loc (panIx P rec cf.nt ops loc.length ops.toList 0 env (loc ++ holes ops.size))
theorem r_draw (n : Nat) (ops : Array Oper) : run P ext (.k cf (.code (.region n ops true) :: K) env loc) = drawK P (run P ext) cf ops K env loc (drawA P (run P ext) cf.nt ops loc.length ops.toList 0 env (loc ++ holes ops.size)) := by rw [run_eq]; rfl
theorem drawK_some (rec : Rec) (ops : Array Oper) (r : Env × List O × List (List Nat × List Nat)) : drawK P rec cf ops K env loc (some r) = afterDraw rec cf ops K (some r) := rfl
theorem drawK_none (rec : Rec) (ops : Array Oper) : drawK P rec cf ops K env loc none = panK P rec cf ops env loc (panIx P rec cf.nt ops loc.length ops.toList 0 env (loc ++ holes ops.size)) := rfl
theorem panK_some (rec : Rec) (ops : Array Oper) (p : Nat) : panK P rec cf ops env loc (some p) = afterPan cf ops loc.length p (drawP P rec cf.nt ops loc.length p (befs [] ops.toList) ops.toList 0 env (loc ++ holes ops.size)) := rfl
theorem r_ops_nil : run P ext (.k cf (.ops all [] :: K) env loc) = run P ext (.k cf K env loc) := by rw [run_eq]; rfl
/-- At the head of a loop's round: for `rw` alone. -/
theorem r_inLoop (c : Code) : run P ext (.k cf (.inLoop c :: K) env loc) = afterHead (run P ext) cf (.code c :: .inLoop c :: K) (headL cf c K env loc) := by rw [run_eq]; rfl
def condK (rec : Rec) (cf : Cf) (v : V) (a b : Code) (K : List It) (env : Env) (loc : List O) : Option Out :=
  match v with
  | .c (.d (.v (.bool t))) => rec (.k cf (.code (if t then a else b) :: K) env loc)
  | _ => none
theorem r_cond (x : Operand) (a b : Code) : run P ext (.k cf (.code (.cond x a b) :: K) env loc) = condK (run P ext) cf (ev env x) a b K env loc := by rw [run_eq]; rfl
theorem condK_true (rec : Rec) (a b : Code) : condK rec cf (.c (.d (.v (.bool true)))) a b K env loc = rec (.k cf (.code a :: K) env loc) := rfl
theorem condK_false (rec : Rec) (a b : Code) : condK rec cf (.c (.d (.v (.bool false)))) a b K env loc = rec (.k cf (.code b :: K) env loc) := rfl
def exitK (rec : Rec) (cf : Cf) (r : Option (List It)) (env : Env) (loc : List O) : Option Out :=
  match r with
  | some K => rec (.k cf K env loc)
  | none => none
theorem r_exit (id : Nat) : run P ext (.k cf (.code (.exit id) :: K) env loc) = exitK (run P ext) cf (exitA id K) env loc := by rw [run_eq]; rfl
theorem exitK_some (rec : Rec) (K : List It) : exitK rec cf (some K) env loc = rec (.k cf K env loc) := rfl
theorem exitA_code (id : Nat) (c : Code) (K : List It) : exitA id (.code c :: K) = exitA id K := rfl
theorem exitA_loop (id : Nat) (c : Code) (K : List It) : exitA id (.inLoop c :: K) = exitA id K := rfl
theorem exitA_ops (id : Nat) (K : List It) : exitA id (.ops all l :: K) = exitA id K := rfl
theorem exitA_block (id i : Nat) (K : List It) : exitA id (.inBlock i :: K) = if i == id then some K else exitA id K := rfl
def opK (P : Program) (rec : Rec) (cf : Cf) (all : Array Oper) (d : Option Nat) (o : Op) (l : List Oper) (K : List It) (env : Env) (loc : List O) (w : Option Bool) : Option Out :=
  match w with
  | some true => afterOp rec cf all d l K env loc (opA P rec (lk loc) loc.length (ev env) o)
  | some false => rec (.k cf (.ops all l :: K) (putO env d (.tup [])) loc)
  | none => none
theorem r_op (d : Option Nat) (o : Op) (t : Nat) (p : String) (a : Array Edge) (h : dstOk cf.nt d = true) :
    run P ext (.k cf (.ops all ({ dst := d, op := o, type := t, pos := p, after := a, guard := none } :: l) :: K) env loc) = afterOp (run P ext) cf all d l K env loc (opA P (run P ext) (lk loc) loc.length (ev env) o) := by
  rw [run_eq]; simp only [stepA, h, wantedA, if_true]
theorem r_opg (d : Option Nat) (o : Op) (t : Nat) (p : String) (a : Array Edge) (g : Nat × Bool) (h : dstOk cf.nt d = true) :
    run P ext (.k cf (.ops all ({ dst := d, op := o, type := t, pos := p, after := a, guard := some g } :: l) :: K) env loc) = opK P (run P ext) cf all d o l K env loc (wantedA all env (some g)) := by
  rw [run_eq]; simp only [stepA, h, if_true]; rfl
theorem opK_true (rec : Rec) (d : Option Nat) (o : Op) : opK P rec cf all d o l K env loc (some true) = afterOp rec cf all d l K env loc (opA P rec (lk loc) loc.length (ev env) o) := rfl
theorem opK_false (rec : Rec) (d : Option Nat) (o : Op) : opK P rec cf all d o l K env loc (some false) = rec (.k cf (.ops all l :: K) (putO env d (.tup [])) loc) := rfl
theorem afterOp_val (rec : Rec) (d : Option Nat) (v : V) (u : List (Nat × O)) (rd : List Nat) : afterOp rec cf all d l K env loc (some ⟨.val v, u, rd⟩) = rec (.k cf (.ops all l :: K) (putO env d v) (updO loc u)) := rfl
theorem afterOp_pan (rec : Rec) (d : Option Nat) (x : Value) (u : List (Nat × O)) (rd : List Nat) : afterOp rec cf all d l K env loc (some ⟨.pan x, u, rd⟩) = panicOut cf x (updO loc u) := rfl
theorem afterHead_some (rec : Rec) (e : Env) (lo : List O) : afterHead rec cf K (some (e, lo)) = rec (.k cf K e lo) := rfl
theorem afterDraw_some (rec : Rec) (e : Env) (lo : List O) (fps : List (List Nat × List Nat)) (h : drawOk all fps = true) : afterDraw rec cf all K (some (e, lo, fps)) = rec (.k cf K e lo) := by simp only [afterDraw, h, if_true]

/-! ### calls whose arguments are data -/
def dataC : C → Bool
  | .d _ => true
  | .elt _ _ _ _ => true
  | .fn _ [] [] => true
  | _ => false
def dataV : V → Bool
  | .c x => dataC x
  | .agg cs => cs.all dataC
  | .tup _ => false
theorem argC_data {look : Look} {c : C} (h : dataC c = true) : argC look c = some (c, []) ∧ refsC c = [] ∧ ∀ r, renC r c = some c := by
  unfold dataC at h
  split at h
  · exact ⟨rfl, rfl, fun _ => rfl⟩
  · exact ⟨rfl, rfl, fun _ => rfl⟩
  · exact ⟨rfl, rfl, fun _ => rfl⟩
  · cases h
theorem argCs_data {look : Look} : ∀ {cs : List C}, cs.all dataC = true → argCs look cs = some (cs, []) ∧ cs.flatMap refsC = [] ∧ ∀ r, mapO (renC r) cs = some cs
  | [], _ => ⟨rfl, rfl, fun _ => rfl⟩
  | c :: cs, h => by
    simp only [List.all_cons, Bool.and_eq_true] at h
    obtain ⟨h1, h2, h3⟩ := argC_data (look := look) h.1
    obtain ⟨h4, h5, h6⟩ := argCs_data (look := look) h.2
    exact ⟨by simp only [argCs, h1, h4, List.append_nil], by simp only [List.flatMap_cons, h2, h5, List.append_nil], fun r => by simp only [mapO, h3, h6]⟩
theorem argV_data {look : Look} {v : V} (h : dataV v = true) : argV look v = some (v, []) ∧ refsV v = [] ∧ ∀ r, renV r v = some v := by
  cases v with
  | c x => obtain ⟨h1, h2, h3⟩ := argC_data (look := look) h; exact ⟨by simp only [argV, h1], h2, fun r => by simp only [renV, h3]⟩
  | agg cs => obtain ⟨h1, h2, h3⟩ := argCs_data (look := look) h; exact ⟨by simp only [argV, h1], h2, fun r => by simp only [renV, h3]⟩
  | tup vs => cases h
theorem argVs_data {look : Look} : ∀ {vs : List V}, vs.all dataV = true → argVs look vs = some (vs, []) ∧ vs.flatMap refsV = [] ∧ ∀ r, mapO (renV r) vs = some vs
  | [], _ => ⟨rfl, rfl, fun _ => rfl⟩
  | c :: cs, h => by
    simp only [List.all_cons, Bool.and_eq_true] at h
    obtain ⟨h1, h2, h3⟩ := argV_data (look := look) h.1
    obtain ⟨h4, h5, h6⟩ := argVs_data (look := look) h.2
    exact ⟨by simp only [argVs, h1, h4, List.append_nil], by simp only [List.flatMap_cons, h2, h5, List.append_nil], fun r => by simp only [mapO, h3, h6]⟩
theorem callPrep_data {look : Look} {vs : List V} (h : vs.all dataV = true) : callPrep look vs = some ([], [], vs, []) := by
  obtain ⟨h1, h2, h3⟩ := argVs_data (look := look) h
  simp only [callPrep, h1, h2]
  have : Am.reach look 200 [] [] = [] := rfl
  simp only [this, h3, mapO]
  rfl
theorem callA_data (rec : Rec) {look : Look} {slot : Nat} {f : FuncId} {vs : List V} (h : vs.all dataV = true) : callA rec look slot f vs = callOut [] [] slot (rec (.call f vs [])) := by
  unfold callA; rw [callPrep_data h]; rfl
theorem callOut_one {slot : Nat} {v : V} (h : dataV v = true) : callOut [] [] slot (some (.ret [v] [])) = some { res := .val v, upd := [], rd := [] } := by
  obtain ⟨_, _, h3⟩ := argV_data (look := fun _ => none) h
  simp only [callOut, answer, mapO, h3, results1, List.length_nil, Nat.lt_irrefl, if_false]
  by_cases hs : (([v].all scalarV) && ([] : List O).isEmpty) = true
  · rw [if_pos hs]; rfl
  · rw [if_neg hs]; rfl
theorem dataV_d (x : D) : dataV (.c (.d x)) = true := id rfl
theorem dataV_elt (k : Nat) (els : List (List D)) (i off : Nat) : dataV (.c (.elt k els i off)) = true := id rfl
theorem dataV_fn (f : FuncId) : dataV (.c (.fn f [] [])) = true := id rfl
theorem dataV_agg (cs : List C) : dataV (.agg cs) = cs.all dataC := id rfl
theorem dataC_d (x : D) : dataC (.d x) = true := id rfl
theorem dataC_elt (k : Nat) (els : List (List D)) (i off : Nat) : dataC (.elt k els i off) = true := id rfl
theorem dataC_fn (f : FuncId) : dataC (.fn f [] []) = true := id rfl
/-- Behind the head of a loop's round. -/
theorem r_inLoop_some {e : Env} {lo : List O} {c : Code} (h : headL cf c K env loc = some (e, lo)) : run P ext (.k cf (.inLoop c :: K) env loc) = run P ext (.k cf (.code c :: .inLoop c :: K) e lo) := by rw [r_inLoop, h]; rfl
/-- The part of a code at a path: 0 and 1 of a sequence or a condition, 0 of a block or a loop. -/
def sub : Code → List Nat → Code
  | c, [] => c
  | .seq a b, i :: p => if i = 0 then sub a p else sub b p
  | .cond _ a b, i :: p => if i = 0 then sub a p else sub b p
  | .block _ a, _ :: p => sub a p
  | .loop a, _ :: p => sub a p
  | c, _ :: _ => c
/-! ### ends -/
/-- A function that has no objects from outside and answers with data. -/
theorem finish_data (hm : cf.m = 0) {vs : List V} (hr : mapO (resultA P env loc) cf.res = some vs) (hd : vs.all dataV = true) : finishA P cf env loc = some (.ret vs []) := by
  obtain ⟨h1, h2, h3⟩ := argVs_data (look := lk loc) hd
  unfold finishA
  simp only [hr, h1, h2, hm]
  have e : kept 0 [] (List.map (cleanO (lk (updO loc (kills [])))) (updO loc (kills []))) = [] := rfl
  simp only [e, h3, keptO, mapO]
  rfl
end
end Go.Proofs.YtmjacokkgfophaaDoor.Am
end
section
/- The abstract machine: pieces of a function that defers. -/
namespace Go.Proofs.YtmjacokkgfophaaDoor.Am
open Go
/-- Operations in a row, none guarded, none that panics. -/
def segOps (P : Program) (rec : Rec) (nt : Nat) : List Oper → Env → List O → Option (Env × List O)
  | [], env, loc => some (env, loc)
  | ⟨d, o, _, _, _, none⟩ :: l, env, loc =>
    if dstOk nt d = true then
      match opA P rec (lk loc) loc.length (ev env) o with
      | some ⟨.val v, upd, _⟩ => segOps P rec nt l (putO env d v) (updO loc upd)
      | _ => none
    else none
  | ⟨_, _, _, _, _, some _⟩ :: _, _, _ => none
section
variable {P : Program}
theorem recOK_run (hN : Named P) {ext : Ext} (hext : ∀ f g args objs out, ext f = some g → g args objs = some out → (Bodied P f ∧ CallOK P f args objs out) ∨ NatOK P f args objs out) (hMix : P.follows .mixedOrders = true) : RecOK P (run P ext) := by
  intro f args objs out h
  obtain ⟨n, hn⟩ := (run_iff P ext _ _).1 h
  exact runs_sound hN hext hMix n _ _ hn
/-- What is known behind a piece: the slots, the objects, what has become of the world. -/
def Behind (P : Program) (w : World) (F : Nat → Prop) (β : Nat → Nat) (loc : List O) (a : Act) (env' : Env) (loc' : List O) (a' : Act) (w' : World) (β' : Nat → Nat) : Prop :=
  Sim w' F β' (lk loc') ∧ EnvR w' F β' (lk loc') a'.tmps env' ∧ St (fun _ => True) w β (lk loc) w' β' (lk loc') ∧ a'.tmps.size = a.tmps.size ∧ a'.defers = a.defers
theorem wp_op (hN : Named P) {rec : Rec} (hrec : RecOK P rec) {all : Array Oper} {Q : Exit → Act → World → Prop} {i : Nat} {is : List Nat} {a : Act} {w : World} {F : Nat → Prop} {β : Nat → Nat} {loc : List O} {env : Env} {o : Oper} {e : Eff}
    (hi : all[i]? = some o) (hg : o.guard = none) (hS : Sim w F β (lk loc)) (hE : EnvR w F β (lk loc) a.tmps env) (hd : dstOk a.tmps.size o.dst = true) (hop : opA P rec (lk loc) loc.length (ev env) o.op = some e)
    (hq : match e.res with
      | .val v => ∀ a' w' β', Behind P w F β loc a (putO env o.dst v) (updO loc e.upd) a' w' β' → wpOps P all Q is a' w'
      | .pan x => ∀ w' β', Sim w' F β' (lk (updO loc e.upd)) → St (fun _ => True) w β (lk loc) w' β' (lk (updO loc e.upd)) → Q (.panic [{ v := x, recovered := false }]) a w') :
    wpOps P all Q (i :: is) a w := by
  have hw : Region.wanted o (yielded all a.tmps) = true := by unfold Region.wanted; rw [hg]
  simp only [wpOps, hi]
  rw [if_pos hw]
  left
  have hslot : ∀ id, loc.length ≤ id → lk loc id = none := by
    intro id hid
    simp [lk, List.getElem?_eq_none hid]
  have hgo := op_goes hN hrec hS (noHole_lk loc) (hslot _ (Nat.le_refl _)) (a := a) (fun y => ev_rep hE y) hop (fun id h1 _ => hslot id h1)
  refine hgo _ _ fun w' β' hgd => ?_
  obtain ⟨res, upd, rd⟩ := e
  obtain ⟨g1, g2⟩ := hgd
  rw [← lk_updO] at g1 g2
  cases res with
  | val v =>
    intro x hx
    dsimp only at hx
    rw [← lk_updO] at hx
    exact hq _ w' β' ⟨g1, (EnvR.mono g2 hE).put hx hd, g2, by rw [put_size], by rw [put_defers]⟩
  | pan x => exact hq w' β' g1 g2
theorem segOps_ok (hN : Named P) {rec : Rec} (hrec : RecOK P rec) {all : Array Oper} {Q : Exit → Act → World → Prop} {F : Nat → Prop} {rest : List Nat} {env' : Env} {loc' : List O} : ∀ {l : List Oper} {is : List Nat} {env : Env} {loc : List O} {a : Act} {w : World} {β : Nat → Nat},
    segOps P rec a.tmps.size l env loc = some (env', loc') → is.map (fun i => all[i]?) = l.map some → Sim w F β (lk loc) → EnvR w F β (lk loc) a.tmps env →
    (∀ a' w' β', Behind P w F β loc a env' loc' a' w' β' → wpOps P all Q rest a' w') → wpOps P all Q (is ++ rest) a w
  | [], is, env, loc, a, w, β, h, hl, hS, hE, hq => by
    have : is = [] := by simpa using hl
    subst this
    simp only [segOps, Option.some.injEq, Prod.mk.injEq] at h
    obtain ⟨rfl, rfl⟩ := h
    exact hq a w β ⟨hS, hE, St.refl _ _ _ _, rfl, rfl⟩
  | ⟨d, op, t, p, af, some g⟩ :: l, is, env, loc, a, w, β, h, hl, hS, hE, hq => by cases h
  | ⟨d, op, t, p, af, none⟩ :: l, is, env, loc, a, w, β, h, hl, hS, hE, hq => by
    cases is with
    | nil => simp at hl
    | cons i is =>
      simp only [List.map_cons, List.cons.injEq] at hl
      obtain ⟨hi, hl⟩ := hl
      simp only [segOps] at h
      split at h
      case isFalse => cases h
      rename_i hd
      cases hop : opA P rec (lk loc) loc.length (ev env) op with
      | none => simp [hop] at h
      | some e =>
        obtain ⟨res, upd, rd⟩ := e
        cases res with
        | pan x => simp [hop] at h
        | val v =>
          simp only [hop] at h
          refine wp_op hN hrec hi rfl hS hE hd hop fun a1 w1 β1 hb => ?_
          obtain ⟨b1, b2, b3, b4, b5⟩ := hb
          refine segOps_ok hN hrec (by rw [b4]; exact h) hl b1 b2 fun a2 w2 β2 hb2 => ?_
          obtain ⟨c1, c2, c3, c4, c5⟩ := hb2
          exact hq a2 w2 β2 ⟨c1, c2, b3.trans c3, by omega, by rw [c5, b5]⟩
theorem range_ops (ops : Array Oper) : (List.range ops.size).map (fun i => ops[i]?) = ops.toList.map some := by
  apply List.ext_getElem?
  intro i
  simp only [List.getElem?_map]
  rcases Nat.lt_or_ge i ops.size with h | h
  · simp [List.getElem?_range h, h]
  · simp [List.getElem?_eq_none, h]
theorem reach_seg (hN : Named P) {rec : Rec} (hrec : RecOK P rec) {n : Nat} {ops : Array Oper} {k : List Item} {F : Nat → Prop} {env env' : Env} {loc loc' : List O} {a : Act} {w : World} {β : Nat → Nat} {Post : FinK → Act → World → Prop}
    (h : segOps P rec a.tmps.size ops.toList env loc = some (env', loc')) (hS : Sim w F β (lk loc)) (hE : EnvR w F β (lk loc) a.tmps env)
    (hq : ∀ a' w' β', Behind P w F β loc a env' loc' a' w' β' → Reach P k a' w' Post) : Reach P (.code (.region n ops false) :: k) a w Post := by
  refine reach_step (fun b cs => step_region) (reach_ops ?_)
  have := segOps_ok (Q := Qr P k Post) (rest := []) hN hrec h (range_ops ops) hS hE fun a' w' β' hb => hq a' w' β' hb
  rwa [List.append_nil] at this
theorem reach_seg' (hN : Named P) {rec : Rec} (hrec : RecOK P rec) {n nt : Nat} {ops : Array Oper} {k : List Item} {F : Nat → Prop} {env : Env} {loc : List O} {a : Act} {w : World} {β : Nat → Nat} {Post : FinK → Act → World → Prop}
    (hn : a.tmps.size = nt) (hS : Sim w F β (lk loc)) (hE : EnvR w F β (lk loc) a.tmps env)
    (hq : match segOps P rec nt ops.toList env loc with
      | some (env', loc') => ∀ a' w' β', Behind P w F β loc a env' loc' a' w' β' → Reach P k a' w' Post
      | none => False) : Reach P (.code (.region n ops false) :: k) a w Post := by
  subst hn
  cases h : segOps P rec a.tmps.size ops.toList env loc with
  | none => rw [h] at hq; exact hq.elim
  | some p => rw [h] at hq; exact reach_seg hN hrec h hS hE hq
theorem reach_pre (hN : Named P) {rec : Rec} (hrec : RecOK P rec) {n nt : Nat} {ops : Array Oper} {k : List Item} {F : Nat → Prop} {env : Env} {loc : List O} {a : Act} {w : World} {β : Nat → Nat} {Post : FinK → Act → World → Prop}
    (k0 : Nat) (is2 : List Nat) (hr : List.range ops.size = List.range k0 ++ is2) (hm : (List.range k0).map (fun i => ops[i]?) = (ops.toList.take k0).map some) (hn : a.tmps.size = nt) (hS : Sim w F β (lk loc)) (hE : EnvR w F β (lk loc) a.tmps env)
    (hq : match segOps P rec nt (ops.toList.take k0) env loc with
      | some (env', loc') => ∀ a' w' β', Behind P w F β loc a env' loc' a' w' β' → wpOps P ops (Qr P k Post) is2 a' w'
      | none => False) : Reach P (.code (.region n ops false) :: k) a w Post := by
  subst hn
  refine reach_step (fun b cs => step_region) (reach_ops ?_)
  rw [hr]
  cases h : segOps P rec a.tmps.size (ops.toList.take k0) env loc with
  | none => rw [h] at hq; exact hq.elim
  | some p => rw [h] at hq; exact segOps_ok hN hrec h hm hS hE hq
theorem wp_defer {all : Array Oper} {Q : Exit → Act → World → Prop} {i : Nat} {is : List Nat} {a : Act} {w : World} {o : Oper} {x : Operand} {tys : Array TypeId} {fn : Fn} {cap : Array Value} (hi : all[i]? = some o) (hg : o.guard = none) (hd : o.dst = none) (hop : o.op = .defer { callee := .value x, args := #[], argTypes := tys })
    (hx : a.eval x = .func fn #[] cap) (h : wpOps P all Q is { a with defers := { target := .fn fn cap, args := #[] } :: a.defers } w) : wpOps P all Q (i :: is) a w := by
  have hw : Region.wanted o (yielded all a.tmps) = true := by unfold Region.wanted; rw [hg]
  simp only [wpOps, hi]
  rw [if_pos hw]
  left
  have he : (execOp a.eval o).run P w = .ok (.defer { target := .fn fn cap, args := #[] }) w := by
    simp [execOp, hop, resolve, hx, Deferred.ofValue]
  show Oper.upon P o a _ Q ((execOp a.eval o).run P w)
  rw [he]
  show wpOps P all Q is (Act.put { a with defers := _ } o.dst undef) w
  rw [hd]
  exact h
theorem reach_cond {k : List Item} {F : Nat → Prop} {env : Env} {loc : List O} {a : Act} {w : World} {β : Nat → Nat} {Post : FinK → Act → World → Prop} {x : Operand} {c1 c2 : Code} {t : Bool}
    (hE : EnvR w F β (lk loc) a.tmps env) (hx : ev env x = .c (.d (.v (.bool t)))) (h : Reach P (.code (if t then c1 else c2) :: k) a w Post) : Reach P (.code (.cond x c1 c2) :: k) a w Post := by
  have h1 := ev_rep hE x
  rw [hx] at h1
  exact reach_step (fun b cs => step_cond (rv_v h1).1) h
theorem env_init {w : World} {F : Nat → Prop} {β : Nat → Nat} {objs : List O} {vals : List Value} {args : List V} {n : Nat} (hargs : All2 (RVs w F β (lk objs)) vals args) :
    EnvR w F β (lk objs) (vals.toArray ++ Array.replicate (n - vals.toArray.size) undef) (args.zipIdx.map fun (v, i) => (i, v)) := by
  intro t
  have key : ∀ (l : List V) (i t : Nat), gt ((l.zipIdx i).map fun (v, i) => (i, v)) t = if i ≤ t then (l[t - i]?).getD (.c .any) else .c .any := by
    intro l
    induction l with
    | nil => intro i t; simp [gt]
    | cons x l ihl =>
      intro i t
      simp only [List.zipIdx_cons, List.map_cons, gt, ihl]
      by_cases e : i = t
      · subst e; simp
      · simp only [e, if_false]
        by_cases h1 : i + 1 ≤ t
        · rw [if_pos h1, if_pos (by omega), show t - i = (t - (i + 1)) + 1 by omega]; simp
        · rw [if_neg h1, if_neg (by omega)]
  rw [key args 0 t]
  simp only [Nat.zero_le, if_true, Nat.sub_zero]
  cases ha : args[t]? with
  | none => exact trivial
  | some x =>
    obtain ⟨v, h1, h2⟩ := hargs.get_right ha
    have hlt : t < vals.length := by
      rcases Nat.lt_or_ge t vals.length with h | h
      · exact h
      · rw [List.getElem?_eq_none h] at h1; cases h1
    have : (vals.toArray ++ Array.replicate (n - vals.toArray.size) undef).getD t undef = v := by
      rw [Array.getD_eq_getD_getElem?, Array.getElem?_append_left (by simpa using hlt)]
      simp [h1]
    rw [this]
    exact h2
theorem calls_of_reach_d {f : FuncId} {fn : Func} {c : Code} {args : Array Value} {w : World} {R : Ending → World → Prop} (hf : P.funcs[f]? = some fn) (hb : fn.body = some c)
    (h : Reach P [.code c] { tmps := args ++ Array.replicate (fn.ntmps - args.size) undef, defers := [] } w fun fk a' w' => match fk with
      | .ret => Leaves P fn a'.tmps R a'.defers .returning w'
      | .pan ch => Leaves P fn a'.tmps R a'.defers (.panicking ch) w') : Calls P f args w R := by
  intro cs
  let b : Frame := { (default : Frame) with fn := f, kind := .normal }
  have henter : Frame.enter P f args .normal = b.at { tmps := args ++ Array.replicate (fn.ntmps - args.size) undef, defers := [] } [.code c] := by
    simp [Frame.enter, Frame.at, hf, hb, b]
  obtain ⟨fk, a', w', todo, hq, hs⟩ := h b cs
  rw [← henter] at hs
  cases fk with
  | ret =>
    obtain ⟨e', w'', fr', hR, hs', hfn, hl⟩ := leaves_steps a'.defers .returning w' { b.at a' todo with mode := .returning } cs rfl rfl rfl hf rfl hq
    exact ⟨e', w'', fr', hR, Comes.of_steps hs hs', hfn, hl⟩
  | pan ch =>
    obtain ⟨e', w'', fr', hR, hs', hfn, hl⟩ := leaves_steps a'.defers (.panicking ch) w' { b.at a' todo with mode := .panicking ch } cs rfl rfl rfl hf rfl hq
    exact ⟨e', w'', fr', hR, Comes.of_steps hs hs', hfn, hl⟩
end
end Go.Proofs.YtmjacokkgfophaaDoor.Am
end
section
/- The facts of the program's types, as rules for simp. Printed by a program (gen/facts.py). -/
namespace Go.Proofs.YtmjacokkgfophaaDoor.Am
open Go
theorem named : Named Go.Proofs.Tryd.prog := by unfold Named; kernel_rfl
theorem mixes : Go.Proofs.Tryd.prog.follows .mixedOrders = true := by kernel_rfl
theorem aggT_1 : aggT Go.Proofs.Tryd.prog 1 = some false := by kernel_rfl
theorem sizeT_1 : sizeT Go.Proofs.Tryd.prog 1 = some 1 := by kernel_rfl
theorem bytesT_1 : bytesT Go.Proofs.Tryd.prog 1 = some 8 := by kernel_rfl
theorem zero1_1 : zero1 Go.Proofs.Tryd.prog 1 = some (.nilFunc) := by kernel_rfl
theorem zeroT_1 : zeroT Go.Proofs.Tryd.prog 1 = some [.d (.v (.nilFunc))] := by kernel_rfl
theorem aggT_2 : aggT Go.Proofs.Tryd.prog 2 = some false := by kernel_rfl
theorem sizeT_2 : sizeT Go.Proofs.Tryd.prog 2 = some 1 := by kernel_rfl
theorem bytesT_2 : bytesT Go.Proofs.Tryd.prog 2 = some 8 := by kernel_rfl
theorem und_2 : Go.Proofs.Tryd.prog.underlying 2 = some (.int .i64) := by kernel_rfl
theorem zero1_2 : zero1 Go.Proofs.Tryd.prog 2 = some (.int .i64 0) := by kernel_rfl
theorem zeroT_2 : zeroT Go.Proofs.Tryd.prog 2 = some [.d (.v (.int .i64 0))] := by kernel_rfl
theorem aggT_3 : aggT Go.Proofs.Tryd.prog 3 = some false := by kernel_rfl
theorem sizeT_3 : sizeT Go.Proofs.Tryd.prog 3 = some 1 := by kernel_rfl
theorem bytesT_3 : bytesT Go.Proofs.Tryd.prog 3 = some 8 := by kernel_rfl
theorem und_3 : Go.Proofs.Tryd.prog.underlying 3 = some (.int .i64) := by kernel_rfl
theorem zero1_3 : zero1 Go.Proofs.Tryd.prog 3 = some (.int .i64 0) := by kernel_rfl
theorem zeroT_3 : zeroT Go.Proofs.Tryd.prog 3 = some [.d (.v (.int .i64 0))] := by kernel_rfl
theorem aggT_4 : aggT Go.Proofs.Tryd.prog 4 = some false := by kernel_rfl
theorem sizeT_4 : sizeT Go.Proofs.Tryd.prog 4 = some 1 := by kernel_rfl
theorem bytesT_4 : bytesT Go.Proofs.Tryd.prog 4 = some 1 := by kernel_rfl
theorem und_4 : Go.Proofs.Tryd.prog.underlying 4 = some .bool := by kernel_rfl
theorem zero1_4 : zero1 Go.Proofs.Tryd.prog 4 = some (.bool false) := by kernel_rfl
theorem zeroT_4 : zeroT Go.Proofs.Tryd.prog 4 = some [.d (.v (.bool false))] := by kernel_rfl
theorem aggT_5 : aggT Go.Proofs.Tryd.prog 5 = some false := by kernel_rfl
theorem sizeT_5 : sizeT Go.Proofs.Tryd.prog 5 = some 1 := by kernel_rfl
theorem bytesT_5 : bytesT Go.Proofs.Tryd.prog 5 = some 1 := by kernel_rfl
theorem und_5 : Go.Proofs.Tryd.prog.underlying 5 = some (.int .u8) := by kernel_rfl
theorem zero1_5 : zero1 Go.Proofs.Tryd.prog 5 = some (.int .u8 0) := by kernel_rfl
theorem zeroT_5 : zeroT Go.Proofs.Tryd.prog 5 = some [.d (.v (.int .u8 0))] := by kernel_rfl
theorem aggT_6 : aggT Go.Proofs.Tryd.prog 6 = some false := by kernel_rfl
theorem sizeT_6 : sizeT Go.Proofs.Tryd.prog 6 = some 1 := by kernel_rfl
theorem bytesT_6 : bytesT Go.Proofs.Tryd.prog 6 = some 1 := by kernel_rfl
theorem und_6 : Go.Proofs.Tryd.prog.underlying 6 = some (.int .u8) := by kernel_rfl
theorem zero1_6 : zero1 Go.Proofs.Tryd.prog 6 = some (.int .u8 0) := by kernel_rfl
theorem zeroT_6 : zeroT Go.Proofs.Tryd.prog 6 = some [.d (.v (.int .u8 0))] := by kernel_rfl
theorem aggT_7 : aggT Go.Proofs.Tryd.prog 7 = some true := by kernel_rfl
theorem sizeT_7 : sizeT Go.Proofs.Tryd.prog 7 = some 4 := by kernel_rfl
theorem bytesT_7 : bytesT Go.Proofs.Tryd.prog 7 = some 24 := by kernel_rfl
theorem fieldT_7_0 : fieldT Go.Proofs.Tryd.prog 7 0 = some (0, 2) := by kernel_rfl
theorem fieldT_7_1 : fieldT Go.Proofs.Tryd.prog 7 1 = some (1, 3) := by kernel_rfl
theorem fieldT_7_2 : fieldT Go.Proofs.Tryd.prog 7 2 = some (2, 4) := by kernel_rfl
theorem fieldT_7_3 : fieldT Go.Proofs.Tryd.prog 7 3 = some (3, 6) := by kernel_rfl
theorem placesT_7 : placesT Go.Proofs.Tryd.prog 7 = some [(0, 1), (1, 1), (2, 1), (3, 1)] := by kernel_rfl
theorem zeroT_7 : zeroT Go.Proofs.Tryd.prog 7 = some [.d (.v (.int .i64 0)), .d (.v (.int .i64 0)), .d (.v (.bool false)), .d (.v (.int .u8 0))] := by kernel_rfl
theorem aggT_8 : aggT Go.Proofs.Tryd.prog 8 = some true := by kernel_rfl
theorem sizeT_8 : sizeT Go.Proofs.Tryd.prog 8 = some 4 := by kernel_rfl
theorem bytesT_8 : bytesT Go.Proofs.Tryd.prog 8 = some 24 := by kernel_rfl
theorem fieldT_8_0 : fieldT Go.Proofs.Tryd.prog 8 0 = some (0, 2) := by kernel_rfl
theorem fieldT_8_1 : fieldT Go.Proofs.Tryd.prog 8 1 = some (1, 3) := by kernel_rfl
theorem fieldT_8_2 : fieldT Go.Proofs.Tryd.prog 8 2 = some (2, 4) := by kernel_rfl
theorem fieldT_8_3 : fieldT Go.Proofs.Tryd.prog 8 3 = some (3, 6) := by kernel_rfl
theorem placesT_8 : placesT Go.Proofs.Tryd.prog 8 = some [(0, 1), (1, 1), (2, 1), (3, 1)] := by kernel_rfl
theorem zeroT_8 : zeroT Go.Proofs.Tryd.prog 8 = some [.d (.v (.int .i64 0)), .d (.v (.int .i64 0)), .d (.v (.bool false)), .d (.v (.int .u8 0))] := by kernel_rfl
theorem aggT_9 : aggT Go.Proofs.Tryd.prog 9 = some false := by kernel_rfl
theorem sizeT_9 : sizeT Go.Proofs.Tryd.prog 9 = some 1 := by kernel_rfl
theorem bytesT_9 : bytesT Go.Proofs.Tryd.prog 9 = some 16 := by kernel_rfl
theorem und_9 : Go.Proofs.Tryd.prog.underlying 9 = some .string := by kernel_rfl
theorem zero1_9 : zero1 Go.Proofs.Tryd.prog 9 = some (.string ⟨#[]⟩) := by kernel_rfl
theorem zeroT_9 : zeroT Go.Proofs.Tryd.prog 9 = some [.d (.v (.string ⟨#[]⟩))] := by kernel_rfl
theorem aggT_10 : aggT Go.Proofs.Tryd.prog 10 = some false := by kernel_rfl
theorem sizeT_10 : sizeT Go.Proofs.Tryd.prog 10 = some 1 := by kernel_rfl
theorem bytesT_10 : bytesT Go.Proofs.Tryd.prog 10 = some 16 := by kernel_rfl
theorem und_10 : Go.Proofs.Tryd.prog.underlying 10 = some .string := by kernel_rfl
theorem zero1_10 : zero1 Go.Proofs.Tryd.prog 10 = some (.string ⟨#[]⟩) := by kernel_rfl
theorem zeroT_10 : zeroT Go.Proofs.Tryd.prog 10 = some [.d (.v (.string ⟨#[]⟩))] := by kernel_rfl
theorem aggT_11 : aggT Go.Proofs.Tryd.prog 11 = some false := by kernel_rfl
theorem sizeT_11 : sizeT Go.Proofs.Tryd.prog 11 = some 1 := by kernel_rfl
theorem bytesT_11 : bytesT Go.Proofs.Tryd.prog 11 = some 16 := by kernel_rfl
theorem und_11 : Go.Proofs.Tryd.prog.underlying 11 = some .string := by kernel_rfl
theorem zero1_11 : zero1 Go.Proofs.Tryd.prog 11 = some (.string ⟨#[]⟩) := by kernel_rfl
theorem zeroT_11 : zeroT Go.Proofs.Tryd.prog 11 = some [.d (.v (.string ⟨#[]⟩))] := by kernel_rfl
theorem aggT_12 : aggT Go.Proofs.Tryd.prog 12 = some false := by kernel_rfl
theorem sizeT_12 : sizeT Go.Proofs.Tryd.prog 12 = some 1 := by kernel_rfl
theorem bytesT_12 : bytesT Go.Proofs.Tryd.prog 12 = some 8 := by kernel_rfl
theorem und_12 : Go.Proofs.Tryd.prog.underlying 12 = some (.int .u64) := by kernel_rfl
theorem zero1_12 : zero1 Go.Proofs.Tryd.prog 12 = some (.int .u64 0) := by kernel_rfl
theorem zeroT_12 : zeroT Go.Proofs.Tryd.prog 12 = some [.d (.v (.int .u64 0))] := by kernel_rfl
theorem aggT_13 : aggT Go.Proofs.Tryd.prog 13 = some true := by kernel_rfl
theorem sizeT_13 : sizeT Go.Proofs.Tryd.prog 13 = some 2 := by kernel_rfl
theorem bytesT_13 : bytesT Go.Proofs.Tryd.prog 13 = some 24 := by kernel_rfl
theorem fieldT_13_0 : fieldT Go.Proofs.Tryd.prog 13 0 = some (0, 9) := by kernel_rfl
theorem fieldT_13_1 : fieldT Go.Proofs.Tryd.prog 13 1 = some (1, 12) := by kernel_rfl
theorem placesT_13 : placesT Go.Proofs.Tryd.prog 13 = some [(0, 1), (1, 1)] := by kernel_rfl
theorem zeroT_13 : zeroT Go.Proofs.Tryd.prog 13 = some [.d (.v (.string ⟨#[]⟩)), .d (.v (.int .u64 0))] := by kernel_rfl
theorem aggT_14 : aggT Go.Proofs.Tryd.prog 14 = some true := by kernel_rfl
theorem sizeT_14 : sizeT Go.Proofs.Tryd.prog 14 = some 2 := by kernel_rfl
theorem bytesT_14 : bytesT Go.Proofs.Tryd.prog 14 = some 24 := by kernel_rfl
theorem fieldT_14_0 : fieldT Go.Proofs.Tryd.prog 14 0 = some (0, 9) := by kernel_rfl
theorem fieldT_14_1 : fieldT Go.Proofs.Tryd.prog 14 1 = some (1, 12) := by kernel_rfl
theorem placesT_14 : placesT Go.Proofs.Tryd.prog 14 = some [(0, 1), (1, 1)] := by kernel_rfl
theorem zeroT_14 : zeroT Go.Proofs.Tryd.prog 14 = some [.d (.v (.string ⟨#[]⟩)), .d (.v (.int .u64 0))] := by kernel_rfl
theorem aggT_15 : aggT Go.Proofs.Tryd.prog 15 = some false := by kernel_rfl
theorem sizeT_15 : sizeT Go.Proofs.Tryd.prog 15 = some 1 := by kernel_rfl
theorem bytesT_15 : bytesT Go.Proofs.Tryd.prog 15 = some 8 := by kernel_rfl
theorem zero1_15 : zero1 Go.Proofs.Tryd.prog 15 = some (.pointer none) := by kernel_rfl
theorem und_15 : Go.Proofs.Tryd.prog.underlying 15 = some (.pointer 105) := by kernel_rfl
theorem zeroT_15 : zeroT Go.Proofs.Tryd.prog 15 = some [.d (.v (.pointer none))] := by kernel_rfl
theorem aggT_16 : aggT Go.Proofs.Tryd.prog 16 = some false := by kernel_rfl
theorem sizeT_16 : sizeT Go.Proofs.Tryd.prog 16 = some 1 := by kernel_rfl
theorem bytesT_16 : bytesT Go.Proofs.Tryd.prog 16 = some 8 := by kernel_rfl
theorem zero1_16 : zero1 Go.Proofs.Tryd.prog 16 = some (.pointer none) := by kernel_rfl
theorem und_16 : Go.Proofs.Tryd.prog.underlying 16 = some (.pointer 108) := by kernel_rfl
theorem zeroT_16 : zeroT Go.Proofs.Tryd.prog 16 = some [.d (.v (.pointer none))] := by kernel_rfl
theorem aggT_17 : aggT Go.Proofs.Tryd.prog 17 = some false := by kernel_rfl
theorem sizeT_17 : sizeT Go.Proofs.Tryd.prog 17 = some 1 := by kernel_rfl
theorem bytesT_17 : bytesT Go.Proofs.Tryd.prog 17 = some 8 := by kernel_rfl
theorem zero1_17 : zero1 Go.Proofs.Tryd.prog 17 = some (.pointer none) := by kernel_rfl
theorem und_17 : Go.Proofs.Tryd.prog.underlying 17 = some (.pointer 117) := by kernel_rfl
theorem zeroT_17 : zeroT Go.Proofs.Tryd.prog 17 = some [.d (.v (.pointer none))] := by kernel_rfl
theorem aggT_18 : aggT Go.Proofs.Tryd.prog 18 = some true := by kernel_rfl
theorem sizeT_18 : sizeT Go.Proofs.Tryd.prog 18 = some 1 := by kernel_rfl
theorem bytesT_18 : bytesT Go.Proofs.Tryd.prog 18 = some 8 := by kernel_rfl
theorem fieldT_18_0 : fieldT Go.Proofs.Tryd.prog 18 0 = some (0, 17) := by kernel_rfl
theorem placesT_18 : placesT Go.Proofs.Tryd.prog 18 = some [(0, 1)] := by kernel_rfl
theorem zeroT_18 : zeroT Go.Proofs.Tryd.prog 18 = some [.d (.v (.pointer none))] := by kernel_rfl
theorem aggT_19 : aggT Go.Proofs.Tryd.prog 19 = some true := by kernel_rfl
theorem sizeT_19 : sizeT Go.Proofs.Tryd.prog 19 = some 1 := by kernel_rfl
theorem bytesT_19 : bytesT Go.Proofs.Tryd.prog 19 = some 8 := by kernel_rfl
theorem fieldT_19_0 : fieldT Go.Proofs.Tryd.prog 19 0 = some (0, 17) := by kernel_rfl
theorem placesT_19 : placesT Go.Proofs.Tryd.prog 19 = some [(0, 1)] := by kernel_rfl
theorem zeroT_19 : zeroT Go.Proofs.Tryd.prog 19 = some [.d (.v (.pointer none))] := by kernel_rfl
theorem aggT_20 : aggT Go.Proofs.Tryd.prog 20 = some false := by kernel_rfl
theorem sizeT_20 : sizeT Go.Proofs.Tryd.prog 20 = some 1 := by kernel_rfl
theorem bytesT_20 : bytesT Go.Proofs.Tryd.prog 20 = some 16 := by kernel_rfl
theorem zero1_20 : zero1 Go.Proofs.Tryd.prog 20 = some (.nilIface) := by kernel_rfl
theorem zeroT_20 : zeroT Go.Proofs.Tryd.prog 20 = some [.d (.v (.nilIface))] := by kernel_rfl
theorem aggT_21 : aggT Go.Proofs.Tryd.prog 21 = some false := by kernel_rfl
theorem sizeT_21 : sizeT Go.Proofs.Tryd.prog 21 = some 1 := by kernel_rfl
theorem bytesT_21 : bytesT Go.Proofs.Tryd.prog 21 = some 4 := by kernel_rfl
theorem und_21 : Go.Proofs.Tryd.prog.underlying 21 = some (.int .i32) := by kernel_rfl
theorem zero1_21 : zero1 Go.Proofs.Tryd.prog 21 = some (.int .i32 0) := by kernel_rfl
theorem zeroT_21 : zeroT Go.Proofs.Tryd.prog 21 = some [.d (.v (.int .i32 0))] := by kernel_rfl
theorem aggT_22 : aggT Go.Proofs.Tryd.prog 22 = some false := by kernel_rfl
theorem sizeT_22 : sizeT Go.Proofs.Tryd.prog 22 = some 1 := by kernel_rfl
theorem bytesT_22 : bytesT Go.Proofs.Tryd.prog 22 = some 24 := by kernel_rfl
theorem und_22 : Go.Proofs.Tryd.prog.underlying 22 = some (.slice 9) := by kernel_rfl
theorem elemT_22 : elemT Go.Proofs.Tryd.prog 22 = some 9 := by kernel_rfl
theorem zero1_22 : zero1 Go.Proofs.Tryd.prog 22 = some (.slice none 0 0) := by kernel_rfl
theorem zeroT_22 : zeroT Go.Proofs.Tryd.prog 22 = some [.d (.v (.slice none 0 0))] := by kernel_rfl
theorem aggT_23 : aggT Go.Proofs.Tryd.prog 23 = some false := by kernel_rfl
theorem sizeT_23 : sizeT Go.Proofs.Tryd.prog 23 = some 1 := by kernel_rfl
theorem bytesT_23 : bytesT Go.Proofs.Tryd.prog 23 = some 24 := by kernel_rfl
theorem und_23 : Go.Proofs.Tryd.prog.underlying 23 = some (.slice 25) := by kernel_rfl
theorem elemT_23 : elemT Go.Proofs.Tryd.prog 23 = some 25 := by kernel_rfl
theorem zero1_23 : zero1 Go.Proofs.Tryd.prog 23 = some (.slice none 0 0) := by kernel_rfl
theorem zeroT_23 : zeroT Go.Proofs.Tryd.prog 23 = some [.d (.v (.slice none 0 0))] := by kernel_rfl
theorem aggT_24 : aggT Go.Proofs.Tryd.prog 24 = some true := by kernel_rfl
theorem sizeT_24 : sizeT Go.Proofs.Tryd.prog 24 = some 4 := by kernel_rfl
theorem bytesT_24 : bytesT Go.Proofs.Tryd.prog 24 = some 56 := by kernel_rfl
theorem fieldT_24_0 : fieldT Go.Proofs.Tryd.prog 24 0 = some (0, 3) := by kernel_rfl
theorem fieldT_24_1 : fieldT Go.Proofs.Tryd.prog 24 1 = some (1, 3) := by kernel_rfl
theorem fieldT_24_2 : fieldT Go.Proofs.Tryd.prog 24 2 = some (2, 9) := by kernel_rfl
theorem fieldT_24_3 : fieldT Go.Proofs.Tryd.prog 24 3 = some (3, 23) := by kernel_rfl
theorem placesT_24 : placesT Go.Proofs.Tryd.prog 24 = some [(0, 1), (1, 1), (2, 1), (3, 1)] := by kernel_rfl
theorem zeroT_24 : zeroT Go.Proofs.Tryd.prog 24 = some [.d (.v (.int .i64 0)), .d (.v (.int .i64 0)), .d (.v (.string ⟨#[]⟩)), .d (.v (.slice none 0 0))] := by kernel_rfl
theorem aggT_25 : aggT Go.Proofs.Tryd.prog 25 = some true := by kernel_rfl
theorem sizeT_25 : sizeT Go.Proofs.Tryd.prog 25 = some 4 := by kernel_rfl
theorem bytesT_25 : bytesT Go.Proofs.Tryd.prog 25 = some 56 := by kernel_rfl
theorem fieldT_25_0 : fieldT Go.Proofs.Tryd.prog 25 0 = some (0, 3) := by kernel_rfl
theorem fieldT_25_1 : fieldT Go.Proofs.Tryd.prog 25 1 = some (1, 3) := by kernel_rfl
theorem fieldT_25_2 : fieldT Go.Proofs.Tryd.prog 25 2 = some (2, 9) := by kernel_rfl
theorem fieldT_25_3 : fieldT Go.Proofs.Tryd.prog 25 3 = some (3, 23) := by kernel_rfl
theorem placesT_25 : placesT Go.Proofs.Tryd.prog 25 = some [(0, 1), (1, 1), (2, 1), (3, 1)] := by kernel_rfl
theorem zeroT_25 : zeroT Go.Proofs.Tryd.prog 25 = some [.d (.v (.int .i64 0)), .d (.v (.int .i64 0)), .d (.v (.string ⟨#[]⟩)), .d (.v (.slice none 0 0))] := by kernel_rfl
theorem aggT_26 : aggT Go.Proofs.Tryd.prog 26 = some true := by kernel_rfl
theorem sizeT_26 : sizeT Go.Proofs.Tryd.prog 26 = some 6 := by kernel_rfl
theorem bytesT_26 : bytesT Go.Proofs.Tryd.prog 26 = some 104 := by kernel_rfl
theorem fieldT_26_0 : fieldT Go.Proofs.Tryd.prog 26 0 = some (0, 22) := by kernel_rfl
theorem fieldT_26_1 : fieldT Go.Proofs.Tryd.prog 26 1 = some (1, 23) := by kernel_rfl
theorem fieldT_26_2 : fieldT Go.Proofs.Tryd.prog 26 2 = some (2, 25) := by kernel_rfl
theorem placesT_26 : placesT Go.Proofs.Tryd.prog 26 = some [(0, 1), (1, 1), (2, 4)] := by kernel_rfl
theorem zeroT_26 : zeroT Go.Proofs.Tryd.prog 26 = some [.d (.v (.slice none 0 0)), .d (.v (.slice none 0 0)), .d (.v (.int .i64 0)), .d (.v (.int .i64 0)), .d (.v (.string ⟨#[]⟩)), .d (.v (.slice none 0 0))] := by kernel_rfl
theorem aggT_27 : aggT Go.Proofs.Tryd.prog 27 = some true := by kernel_rfl
theorem sizeT_27 : sizeT Go.Proofs.Tryd.prog 27 = some 6 := by kernel_rfl
theorem bytesT_27 : bytesT Go.Proofs.Tryd.prog 27 = some 104 := by kernel_rfl
theorem fieldT_27_0 : fieldT Go.Proofs.Tryd.prog 27 0 = some (0, 22) := by kernel_rfl
theorem fieldT_27_1 : fieldT Go.Proofs.Tryd.prog 27 1 = some (1, 23) := by kernel_rfl
theorem fieldT_27_2 : fieldT Go.Proofs.Tryd.prog 27 2 = some (2, 25) := by kernel_rfl
theorem placesT_27 : placesT Go.Proofs.Tryd.prog 27 = some [(0, 1), (1, 1), (2, 4)] := by kernel_rfl
theorem zeroT_27 : zeroT Go.Proofs.Tryd.prog 27 = some [.d (.v (.slice none 0 0)), .d (.v (.slice none 0 0)), .d (.v (.int .i64 0)), .d (.v (.int .i64 0)), .d (.v (.string ⟨#[]⟩)), .d (.v (.slice none 0 0))] := by kernel_rfl
theorem aggT_28 : aggT Go.Proofs.Tryd.prog 28 = some false := by kernel_rfl
theorem sizeT_28 : sizeT Go.Proofs.Tryd.prog 28 = some 1 := by kernel_rfl
theorem bytesT_28 : bytesT Go.Proofs.Tryd.prog 28 = some 8 := by kernel_rfl
theorem zero1_28 : zero1 Go.Proofs.Tryd.prog 28 = some (.nilFunc) := by kernel_rfl
theorem zeroT_28 : zeroT Go.Proofs.Tryd.prog 28 = some [.d (.v (.nilFunc))] := by kernel_rfl
theorem aggT_29 : aggT Go.Proofs.Tryd.prog 29 = some false := by kernel_rfl
theorem sizeT_29 : sizeT Go.Proofs.Tryd.prog 29 = some 1 := by kernel_rfl
theorem bytesT_29 : bytesT Go.Proofs.Tryd.prog 29 = some 8 := by kernel_rfl
theorem und_29 : Go.Proofs.Tryd.prog.underlying 29 = some (.int .i64) := by kernel_rfl
theorem zero1_29 : zero1 Go.Proofs.Tryd.prog 29 = some (.int .i64 0) := by kernel_rfl
theorem zeroT_29 : zeroT Go.Proofs.Tryd.prog 29 = some [.d (.v (.int .i64 0))] := by kernel_rfl
theorem aggT_31 : aggT Go.Proofs.Tryd.prog 31 = some false := by kernel_rfl
theorem sizeT_31 : sizeT Go.Proofs.Tryd.prog 31 = some 1 := by kernel_rfl
theorem bytesT_31 : bytesT Go.Proofs.Tryd.prog 31 = some 8 := by kernel_rfl
theorem zero1_31 : zero1 Go.Proofs.Tryd.prog 31 = some (.nilFunc) := by kernel_rfl
theorem zeroT_31 : zeroT Go.Proofs.Tryd.prog 31 = some [.d (.v (.nilFunc))] := by kernel_rfl
theorem aggT_32 : aggT Go.Proofs.Tryd.prog 32 = some false := by kernel_rfl
theorem sizeT_32 : sizeT Go.Proofs.Tryd.prog 32 = some 1 := by kernel_rfl
theorem bytesT_32 : bytesT Go.Proofs.Tryd.prog 32 = some 8 := by kernel_rfl
theorem zero1_32 : zero1 Go.Proofs.Tryd.prog 32 = some (.nilFunc) := by kernel_rfl
theorem zeroT_32 : zeroT Go.Proofs.Tryd.prog 32 = some [.d (.v (.nilFunc))] := by kernel_rfl
theorem aggT_34 : aggT Go.Proofs.Tryd.prog 34 = some false := by kernel_rfl
theorem sizeT_34 : sizeT Go.Proofs.Tryd.prog 34 = some 1 := by kernel_rfl
theorem bytesT_34 : bytesT Go.Proofs.Tryd.prog 34 = some 8 := by kernel_rfl
theorem zero1_34 : zero1 Go.Proofs.Tryd.prog 34 = some (.nilFunc) := by kernel_rfl
theorem zeroT_34 : zeroT Go.Proofs.Tryd.prog 34 = some [.d (.v (.nilFunc))] := by kernel_rfl
theorem aggT_35 : aggT Go.Proofs.Tryd.prog 35 = some false := by kernel_rfl
theorem sizeT_35 : sizeT Go.Proofs.Tryd.prog 35 = some 1 := by kernel_rfl
theorem bytesT_35 : bytesT Go.Proofs.Tryd.prog 35 = some 8 := by kernel_rfl
theorem zero1_35 : zero1 Go.Proofs.Tryd.prog 35 = some (.nilFunc) := by kernel_rfl
theorem zeroT_35 : zeroT Go.Proofs.Tryd.prog 35 = some [.d (.v (.nilFunc))] := by kernel_rfl
theorem aggT_36 : aggT Go.Proofs.Tryd.prog 36 = some false := by kernel_rfl
theorem sizeT_36 : sizeT Go.Proofs.Tryd.prog 36 = some 1 := by kernel_rfl
theorem bytesT_36 : bytesT Go.Proofs.Tryd.prog 36 = some 8 := by kernel_rfl
theorem zero1_36 : zero1 Go.Proofs.Tryd.prog 36 = some (.nilFunc) := by kernel_rfl
theorem zeroT_36 : zeroT Go.Proofs.Tryd.prog 36 = some [.d (.v (.nilFunc))] := by kernel_rfl
theorem aggT_37 : aggT Go.Proofs.Tryd.prog 37 = some false := by kernel_rfl
theorem sizeT_37 : sizeT Go.Proofs.Tryd.prog 37 = some 1 := by kernel_rfl
theorem bytesT_37 : bytesT Go.Proofs.Tryd.prog 37 = some 2 := by kernel_rfl
theorem und_37 : Go.Proofs.Tryd.prog.underlying 37 = some (.int .u16) := by kernel_rfl
theorem zero1_37 : zero1 Go.Proofs.Tryd.prog 37 = some (.int .u16 0) := by kernel_rfl
theorem zeroT_37 : zeroT Go.Proofs.Tryd.prog 37 = some [.d (.v (.int .u16 0))] := by kernel_rfl
theorem aggT_38 : aggT Go.Proofs.Tryd.prog 38 = some false := by kernel_rfl
theorem sizeT_38 : sizeT Go.Proofs.Tryd.prog 38 = some 1 := by kernel_rfl
theorem bytesT_38 : bytesT Go.Proofs.Tryd.prog 38 = some 8 := by kernel_rfl
theorem zero1_38 : zero1 Go.Proofs.Tryd.prog 38 = some (.nilFunc) := by kernel_rfl
theorem zeroT_38 : zeroT Go.Proofs.Tryd.prog 38 = some [.d (.v (.nilFunc))] := by kernel_rfl
theorem aggT_39 : aggT Go.Proofs.Tryd.prog 39 = some false := by kernel_rfl
theorem sizeT_39 : sizeT Go.Proofs.Tryd.prog 39 = some 1 := by kernel_rfl
theorem bytesT_39 : bytesT Go.Proofs.Tryd.prog 39 = some 8 := by kernel_rfl
theorem zero1_39 : zero1 Go.Proofs.Tryd.prog 39 = some (.nilFunc) := by kernel_rfl
theorem zeroT_39 : zeroT Go.Proofs.Tryd.prog 39 = some [.d (.v (.nilFunc))] := by kernel_rfl
theorem aggT_40 : aggT Go.Proofs.Tryd.prog 40 = some false := by kernel_rfl
theorem sizeT_40 : sizeT Go.Proofs.Tryd.prog 40 = some 1 := by kernel_rfl
theorem bytesT_40 : bytesT Go.Proofs.Tryd.prog 40 = some 8 := by kernel_rfl
theorem zero1_40 : zero1 Go.Proofs.Tryd.prog 40 = some (.nilFunc) := by kernel_rfl
theorem zeroT_40 : zeroT Go.Proofs.Tryd.prog 40 = some [.d (.v (.nilFunc))] := by kernel_rfl
theorem aggT_41 : aggT Go.Proofs.Tryd.prog 41 = some false := by kernel_rfl
theorem sizeT_41 : sizeT Go.Proofs.Tryd.prog 41 = some 1 := by kernel_rfl
theorem bytesT_41 : bytesT Go.Proofs.Tryd.prog 41 = some 8 := by kernel_rfl
theorem zero1_41 : zero1 Go.Proofs.Tryd.prog 41 = some (.pointer none) := by kernel_rfl
theorem und_41 : Go.Proofs.Tryd.prog.underlying 41 = some (.pointer 44) := by kernel_rfl
theorem zeroT_41 : zeroT Go.Proofs.Tryd.prog 41 = some [.d (.v (.pointer none))] := by kernel_rfl
theorem aggT_42 : aggT Go.Proofs.Tryd.prog 42 = some false := by kernel_rfl
theorem sizeT_42 : sizeT Go.Proofs.Tryd.prog 42 = some 1 := by kernel_rfl
theorem bytesT_42 : bytesT Go.Proofs.Tryd.prog 42 = some 8 := by kernel_rfl
theorem zero1_42 : zero1 Go.Proofs.Tryd.prog 42 = some (.nilFunc) := by kernel_rfl
theorem zeroT_42 : zeroT Go.Proofs.Tryd.prog 42 = some [.d (.v (.nilFunc))] := by kernel_rfl
theorem aggT_43 : aggT Go.Proofs.Tryd.prog 43 = some true := by kernel_rfl
theorem sizeT_43 : sizeT Go.Proofs.Tryd.prog 43 = some 5 := by kernel_rfl
theorem bytesT_43 : bytesT Go.Proofs.Tryd.prog 43 = some 72 := by kernel_rfl
theorem fieldT_43_0 : fieldT Go.Proofs.Tryd.prog 43 0 = some (0, 22) := by kernel_rfl
theorem fieldT_43_1 : fieldT Go.Proofs.Tryd.prog 43 1 = some (1, 23) := by kernel_rfl
theorem fieldT_43_2 : fieldT Go.Proofs.Tryd.prog 43 2 = some (2, 3) := by kernel_rfl
theorem fieldT_43_3 : fieldT Go.Proofs.Tryd.prog 43 3 = some (3, 3) := by kernel_rfl
theorem fieldT_43_4 : fieldT Go.Proofs.Tryd.prog 43 4 = some (4, 3) := by kernel_rfl
theorem placesT_43 : placesT Go.Proofs.Tryd.prog 43 = some [(0, 1), (1, 1), (2, 1), (3, 1), (4, 1)] := by kernel_rfl
theorem zeroT_43 : zeroT Go.Proofs.Tryd.prog 43 = some [.d (.v (.slice none 0 0)), .d (.v (.slice none 0 0)), .d (.v (.int .i64 0)), .d (.v (.int .i64 0)), .d (.v (.int .i64 0))] := by kernel_rfl
theorem aggT_44 : aggT Go.Proofs.Tryd.prog 44 = some true := by kernel_rfl
theorem sizeT_44 : sizeT Go.Proofs.Tryd.prog 44 = some 5 := by kernel_rfl
theorem bytesT_44 : bytesT Go.Proofs.Tryd.prog 44 = some 72 := by kernel_rfl
theorem fieldT_44_0 : fieldT Go.Proofs.Tryd.prog 44 0 = some (0, 22) := by kernel_rfl
theorem fieldT_44_1 : fieldT Go.Proofs.Tryd.prog 44 1 = some (1, 23) := by kernel_rfl
theorem fieldT_44_2 : fieldT Go.Proofs.Tryd.prog 44 2 = some (2, 3) := by kernel_rfl
theorem fieldT_44_3 : fieldT Go.Proofs.Tryd.prog 44 3 = some (3, 3) := by kernel_rfl
theorem fieldT_44_4 : fieldT Go.Proofs.Tryd.prog 44 4 = some (4, 3) := by kernel_rfl
theorem placesT_44 : placesT Go.Proofs.Tryd.prog 44 = some [(0, 1), (1, 1), (2, 1), (3, 1), (4, 1)] := by kernel_rfl
theorem zeroT_44 : zeroT Go.Proofs.Tryd.prog 44 = some [.d (.v (.slice none 0 0)), .d (.v (.slice none 0 0)), .d (.v (.int .i64 0)), .d (.v (.int .i64 0)), .d (.v (.int .i64 0))] := by kernel_rfl
theorem aggT_45 : aggT Go.Proofs.Tryd.prog 45 = some false := by kernel_rfl
theorem sizeT_45 : sizeT Go.Proofs.Tryd.prog 45 = some 1 := by kernel_rfl
theorem bytesT_45 : bytesT Go.Proofs.Tryd.prog 45 = some 8 := by kernel_rfl
theorem zero1_45 : zero1 Go.Proofs.Tryd.prog 45 = some (.nilFunc) := by kernel_rfl
theorem zeroT_45 : zeroT Go.Proofs.Tryd.prog 45 = some [.d (.v (.nilFunc))] := by kernel_rfl
theorem aggT_46 : aggT Go.Proofs.Tryd.prog 46 = some false := by kernel_rfl
theorem sizeT_46 : sizeT Go.Proofs.Tryd.prog 46 = some 1 := by kernel_rfl
theorem bytesT_46 : bytesT Go.Proofs.Tryd.prog 46 = some 8 := by kernel_rfl
theorem zero1_46 : zero1 Go.Proofs.Tryd.prog 46 = some (.nilFunc) := by kernel_rfl
theorem zeroT_46 : zeroT Go.Proofs.Tryd.prog 46 = some [.d (.v (.nilFunc))] := by kernel_rfl
theorem aggT_47 : aggT Go.Proofs.Tryd.prog 47 = some false := by kernel_rfl
theorem sizeT_47 : sizeT Go.Proofs.Tryd.prog 47 = some 1 := by kernel_rfl
theorem bytesT_47 : bytesT Go.Proofs.Tryd.prog 47 = some 8 := by kernel_rfl
theorem zero1_47 : zero1 Go.Proofs.Tryd.prog 47 = some (.pointer none) := by kernel_rfl
theorem und_47 : Go.Proofs.Tryd.prog.underlying 47 = some (.pointer 50) := by kernel_rfl
theorem zeroT_47 : zeroT Go.Proofs.Tryd.prog 47 = some [.d (.v (.pointer none))] := by kernel_rfl
theorem aggT_48 : aggT Go.Proofs.Tryd.prog 48 = some false := by kernel_rfl
theorem sizeT_48 : sizeT Go.Proofs.Tryd.prog 48 = some 1 := by kernel_rfl
theorem bytesT_48 : bytesT Go.Proofs.Tryd.prog 48 = some 8 := by kernel_rfl
theorem zero1_48 : zero1 Go.Proofs.Tryd.prog 48 = some (.nilFunc) := by kernel_rfl
theorem zeroT_48 : zeroT Go.Proofs.Tryd.prog 48 = some [.d (.v (.nilFunc))] := by kernel_rfl
theorem aggT_49 : aggT Go.Proofs.Tryd.prog 49 = some true := by kernel_rfl
theorem sizeT_49 : sizeT Go.Proofs.Tryd.prog 49 = some 5 := by kernel_rfl
theorem bytesT_49 : bytesT Go.Proofs.Tryd.prog 49 = some 72 := by kernel_rfl
theorem fieldT_49_0 : fieldT Go.Proofs.Tryd.prog 49 0 = some (0, 22) := by kernel_rfl
theorem fieldT_49_1 : fieldT Go.Proofs.Tryd.prog 49 1 = some (1, 23) := by kernel_rfl
theorem fieldT_49_2 : fieldT Go.Proofs.Tryd.prog 49 2 = some (2, 3) := by kernel_rfl
theorem fieldT_49_3 : fieldT Go.Proofs.Tryd.prog 49 3 = some (3, 3) := by kernel_rfl
theorem fieldT_49_4 : fieldT Go.Proofs.Tryd.prog 49 4 = some (4, 29) := by kernel_rfl
theorem placesT_49 : placesT Go.Proofs.Tryd.prog 49 = some [(0, 1), (1, 1), (2, 1), (3, 1), (4, 1)] := by kernel_rfl
theorem zeroT_49 : zeroT Go.Proofs.Tryd.prog 49 = some [.d (.v (.slice none 0 0)), .d (.v (.slice none 0 0)), .d (.v (.int .i64 0)), .d (.v (.int .i64 0)), .d (.v (.int .i64 0))] := by kernel_rfl
theorem aggT_50 : aggT Go.Proofs.Tryd.prog 50 = some true := by kernel_rfl
theorem sizeT_50 : sizeT Go.Proofs.Tryd.prog 50 = some 5 := by kernel_rfl
theorem bytesT_50 : bytesT Go.Proofs.Tryd.prog 50 = some 72 := by kernel_rfl
theorem fieldT_50_0 : fieldT Go.Proofs.Tryd.prog 50 0 = some (0, 22) := by kernel_rfl
theorem fieldT_50_1 : fieldT Go.Proofs.Tryd.prog 50 1 = some (1, 23) := by kernel_rfl
theorem fieldT_50_2 : fieldT Go.Proofs.Tryd.prog 50 2 = some (2, 3) := by kernel_rfl
theorem fieldT_50_3 : fieldT Go.Proofs.Tryd.prog 50 3 = some (3, 3) := by kernel_rfl
theorem fieldT_50_4 : fieldT Go.Proofs.Tryd.prog 50 4 = some (4, 29) := by kernel_rfl
theorem placesT_50 : placesT Go.Proofs.Tryd.prog 50 = some [(0, 1), (1, 1), (2, 1), (3, 1), (4, 1)] := by kernel_rfl
theorem zeroT_50 : zeroT Go.Proofs.Tryd.prog 50 = some [.d (.v (.slice none 0 0)), .d (.v (.slice none 0 0)), .d (.v (.int .i64 0)), .d (.v (.int .i64 0)), .d (.v (.int .i64 0))] := by kernel_rfl
theorem aggT_51 : aggT Go.Proofs.Tryd.prog 51 = some false := by kernel_rfl
theorem sizeT_51 : sizeT Go.Proofs.Tryd.prog 51 = some 1 := by kernel_rfl
theorem bytesT_51 : bytesT Go.Proofs.Tryd.prog 51 = some 8 := by kernel_rfl
theorem zero1_51 : zero1 Go.Proofs.Tryd.prog 51 = some (.nilFunc) := by kernel_rfl
theorem zeroT_51 : zeroT Go.Proofs.Tryd.prog 51 = some [.d (.v (.nilFunc))] := by kernel_rfl
theorem aggT_52 : aggT Go.Proofs.Tryd.prog 52 = some true := by kernel_rfl
theorem sizeT_52 : sizeT Go.Proofs.Tryd.prog 52 = some 1 := by kernel_rfl
theorem bytesT_52 : bytesT Go.Proofs.Tryd.prog 52 = some 8 := by kernel_rfl
theorem fieldT_52_0 : fieldT Go.Proofs.Tryd.prog 52 0 = some (0, 29) := by kernel_rfl
theorem placesT_52 : placesT Go.Proofs.Tryd.prog 52 = some [(0, 1)] := by kernel_rfl
theorem zeroT_52 : zeroT Go.Proofs.Tryd.prog 52 = some [.d (.v (.int .i64 0))] := by kernel_rfl
theorem aggT_53 : aggT Go.Proofs.Tryd.prog 53 = some true := by kernel_rfl
theorem sizeT_53 : sizeT Go.Proofs.Tryd.prog 53 = some 1 := by kernel_rfl
theorem bytesT_53 : bytesT Go.Proofs.Tryd.prog 53 = some 8 := by kernel_rfl
theorem fieldT_53_0 : fieldT Go.Proofs.Tryd.prog 53 0 = some (0, 29) := by kernel_rfl
theorem placesT_53 : placesT Go.Proofs.Tryd.prog 53 = some [(0, 1)] := by kernel_rfl
theorem zeroT_53 : zeroT Go.Proofs.Tryd.prog 53 = some [.d (.v (.int .i64 0))] := by kernel_rfl
theorem aggT_54 : aggT Go.Proofs.Tryd.prog 54 = some false := by kernel_rfl
theorem sizeT_54 : sizeT Go.Proofs.Tryd.prog 54 = some 1 := by kernel_rfl
theorem bytesT_54 : bytesT Go.Proofs.Tryd.prog 54 = some 8 := by kernel_rfl
theorem zero1_54 : zero1 Go.Proofs.Tryd.prog 54 = some (.nilFunc) := by kernel_rfl
theorem zeroT_54 : zeroT Go.Proofs.Tryd.prog 54 = some [.d (.v (.nilFunc))] := by kernel_rfl
theorem aggT_56 : aggT Go.Proofs.Tryd.prog 56 = some false := by kernel_rfl
theorem sizeT_56 : sizeT Go.Proofs.Tryd.prog 56 = some 1 := by kernel_rfl
theorem bytesT_56 : bytesT Go.Proofs.Tryd.prog 56 = some 8 := by kernel_rfl
theorem zero1_56 : zero1 Go.Proofs.Tryd.prog 56 = some (.nilFunc) := by kernel_rfl
theorem zeroT_56 : zeroT Go.Proofs.Tryd.prog 56 = some [.d (.v (.nilFunc))] := by kernel_rfl
theorem aggT_57 : aggT Go.Proofs.Tryd.prog 57 = some false := by kernel_rfl
theorem sizeT_57 : sizeT Go.Proofs.Tryd.prog 57 = some 1 := by kernel_rfl
theorem bytesT_57 : bytesT Go.Proofs.Tryd.prog 57 = some 8 := by kernel_rfl
theorem zero1_57 : zero1 Go.Proofs.Tryd.prog 57 = some (.nilFunc) := by kernel_rfl
theorem zeroT_57 : zeroT Go.Proofs.Tryd.prog 57 = some [.d (.v (.nilFunc))] := by kernel_rfl
theorem aggT_58 : aggT Go.Proofs.Tryd.prog 58 = some false := by kernel_rfl
theorem sizeT_58 : sizeT Go.Proofs.Tryd.prog 58 = some 1 := by kernel_rfl
theorem bytesT_58 : bytesT Go.Proofs.Tryd.prog 58 = some 8 := by kernel_rfl
theorem zero1_58 : zero1 Go.Proofs.Tryd.prog 58 = some (.nilFunc) := by kernel_rfl
theorem zeroT_58 : zeroT Go.Proofs.Tryd.prog 58 = some [.d (.v (.nilFunc))] := by kernel_rfl
theorem aggT_59 : aggT Go.Proofs.Tryd.prog 59 = some false := by kernel_rfl
theorem sizeT_59 : sizeT Go.Proofs.Tryd.prog 59 = some 1 := by kernel_rfl
theorem bytesT_59 : bytesT Go.Proofs.Tryd.prog 59 = some 8 := by kernel_rfl
theorem zero1_59 : zero1 Go.Proofs.Tryd.prog 59 = some (.nilFunc) := by kernel_rfl
theorem zeroT_59 : zeroT Go.Proofs.Tryd.prog 59 = some [.d (.v (.nilFunc))] := by kernel_rfl
theorem aggT_60 : aggT Go.Proofs.Tryd.prog 60 = some false := by kernel_rfl
theorem sizeT_60 : sizeT Go.Proofs.Tryd.prog 60 = some 1 := by kernel_rfl
theorem bytesT_60 : bytesT Go.Proofs.Tryd.prog 60 = some 8 := by kernel_rfl
theorem zero1_60 : zero1 Go.Proofs.Tryd.prog 60 = some (.nilFunc) := by kernel_rfl
theorem zeroT_60 : zeroT Go.Proofs.Tryd.prog 60 = some [.d (.v (.nilFunc))] := by kernel_rfl
theorem aggT_61 : aggT Go.Proofs.Tryd.prog 61 = some false := by kernel_rfl
theorem sizeT_61 : sizeT Go.Proofs.Tryd.prog 61 = some 1 := by kernel_rfl
theorem bytesT_61 : bytesT Go.Proofs.Tryd.prog 61 = some 8 := by kernel_rfl
theorem zero1_61 : zero1 Go.Proofs.Tryd.prog 61 = some (.nilFunc) := by kernel_rfl
theorem zeroT_61 : zeroT Go.Proofs.Tryd.prog 61 = some [.d (.v (.nilFunc))] := by kernel_rfl
theorem aggT_62 : aggT Go.Proofs.Tryd.prog 62 = some false := by kernel_rfl
theorem sizeT_62 : sizeT Go.Proofs.Tryd.prog 62 = some 1 := by kernel_rfl
theorem bytesT_62 : bytesT Go.Proofs.Tryd.prog 62 = some 8 := by kernel_rfl
theorem zero1_62 : zero1 Go.Proofs.Tryd.prog 62 = some (.nilFunc) := by kernel_rfl
theorem zeroT_62 : zeroT Go.Proofs.Tryd.prog 62 = some [.d (.v (.nilFunc))] := by kernel_rfl
theorem aggT_64 : aggT Go.Proofs.Tryd.prog 64 = some false := by kernel_rfl
theorem sizeT_64 : sizeT Go.Proofs.Tryd.prog 64 = some 1 := by kernel_rfl
theorem bytesT_64 : bytesT Go.Proofs.Tryd.prog 64 = some 8 := by kernel_rfl
theorem zero1_64 : zero1 Go.Proofs.Tryd.prog 64 = some (.nilFunc) := by kernel_rfl
theorem zeroT_64 : zeroT Go.Proofs.Tryd.prog 64 = some [.d (.v (.nilFunc))] := by kernel_rfl
theorem aggT_65 : aggT Go.Proofs.Tryd.prog 65 = some false := by kernel_rfl
theorem sizeT_65 : sizeT Go.Proofs.Tryd.prog 65 = some 1 := by kernel_rfl
theorem bytesT_65 : bytesT Go.Proofs.Tryd.prog 65 = some 8 := by kernel_rfl
theorem zero1_65 : zero1 Go.Proofs.Tryd.prog 65 = some (.nilFunc) := by kernel_rfl
theorem zeroT_65 : zeroT Go.Proofs.Tryd.prog 65 = some [.d (.v (.nilFunc))] := by kernel_rfl
theorem aggT_66 : aggT Go.Proofs.Tryd.prog 66 = some false := by kernel_rfl
theorem sizeT_66 : sizeT Go.Proofs.Tryd.prog 66 = some 1 := by kernel_rfl
theorem bytesT_66 : bytesT Go.Proofs.Tryd.prog 66 = some 8 := by kernel_rfl
theorem zero1_66 : zero1 Go.Proofs.Tryd.prog 66 = some (.nilFunc) := by kernel_rfl
theorem zeroT_66 : zeroT Go.Proofs.Tryd.prog 66 = some [.d (.v (.nilFunc))] := by kernel_rfl
theorem aggT_67 : aggT Go.Proofs.Tryd.prog 67 = some false := by kernel_rfl
theorem sizeT_67 : sizeT Go.Proofs.Tryd.prog 67 = some 1 := by kernel_rfl
theorem bytesT_67 : bytesT Go.Proofs.Tryd.prog 67 = some 8 := by kernel_rfl
theorem zero1_67 : zero1 Go.Proofs.Tryd.prog 67 = some (.nilFunc) := by kernel_rfl
theorem zeroT_67 : zeroT Go.Proofs.Tryd.prog 67 = some [.d (.v (.nilFunc))] := by kernel_rfl
theorem aggT_68 : aggT Go.Proofs.Tryd.prog 68 = some false := by kernel_rfl
theorem sizeT_68 : sizeT Go.Proofs.Tryd.prog 68 = some 1 := by kernel_rfl
theorem bytesT_68 : bytesT Go.Proofs.Tryd.prog 68 = some 8 := by kernel_rfl
theorem zero1_68 : zero1 Go.Proofs.Tryd.prog 68 = some (.nilFunc) := by kernel_rfl
theorem zeroT_68 : zeroT Go.Proofs.Tryd.prog 68 = some [.d (.v (.nilFunc))] := by kernel_rfl
theorem aggT_70 : aggT Go.Proofs.Tryd.prog 70 = some false := by kernel_rfl
theorem sizeT_70 : sizeT Go.Proofs.Tryd.prog 70 = some 1 := by kernel_rfl
theorem bytesT_70 : bytesT Go.Proofs.Tryd.prog 70 = some 8 := by kernel_rfl
theorem zero1_70 : zero1 Go.Proofs.Tryd.prog 70 = some (.nilFunc) := by kernel_rfl
theorem zeroT_70 : zeroT Go.Proofs.Tryd.prog 70 = some [.d (.v (.nilFunc))] := by kernel_rfl
theorem aggT_71 : aggT Go.Proofs.Tryd.prog 71 = some false := by kernel_rfl
theorem sizeT_71 : sizeT Go.Proofs.Tryd.prog 71 = some 1 := by kernel_rfl
theorem bytesT_71 : bytesT Go.Proofs.Tryd.prog 71 = some 8 := by kernel_rfl
theorem und_71 : Go.Proofs.Tryd.prog.underlying 71 = some (.map 3 3) := by kernel_rfl
theorem zero1_71 : zero1 Go.Proofs.Tryd.prog 71 = some (.map none) := by kernel_rfl
theorem zeroT_71 : zeroT Go.Proofs.Tryd.prog 71 = some [.d (.v (.map none))] := by kernel_rfl
theorem aggT_73 : aggT Go.Proofs.Tryd.prog 73 = some false := by kernel_rfl
theorem sizeT_73 : sizeT Go.Proofs.Tryd.prog 73 = some 1 := by kernel_rfl
theorem bytesT_73 : bytesT Go.Proofs.Tryd.prog 73 = some 8 := by kernel_rfl
theorem zero1_73 : zero1 Go.Proofs.Tryd.prog 73 = some (.nilFunc) := by kernel_rfl
theorem zeroT_73 : zeroT Go.Proofs.Tryd.prog 73 = some [.d (.v (.nilFunc))] := by kernel_rfl
theorem aggT_74 : aggT Go.Proofs.Tryd.prog 74 = some false := by kernel_rfl
theorem sizeT_74 : sizeT Go.Proofs.Tryd.prog 74 = some 1 := by kernel_rfl
theorem bytesT_74 : bytesT Go.Proofs.Tryd.prog 74 = some 8 := by kernel_rfl
theorem zero1_74 : zero1 Go.Proofs.Tryd.prog 74 = some (.nilFunc) := by kernel_rfl
theorem zeroT_74 : zeroT Go.Proofs.Tryd.prog 74 = some [.d (.v (.nilFunc))] := by kernel_rfl
theorem aggT_75 : aggT Go.Proofs.Tryd.prog 75 = some false := by kernel_rfl
theorem sizeT_75 : sizeT Go.Proofs.Tryd.prog 75 = some 1 := by kernel_rfl
theorem bytesT_75 : bytesT Go.Proofs.Tryd.prog 75 = some 8 := by kernel_rfl
theorem zero1_75 : zero1 Go.Proofs.Tryd.prog 75 = some (.nilFunc) := by kernel_rfl
theorem zeroT_75 : zeroT Go.Proofs.Tryd.prog 75 = some [.d (.v (.nilFunc))] := by kernel_rfl
theorem aggT_76 : aggT Go.Proofs.Tryd.prog 76 = some false := by kernel_rfl
theorem sizeT_76 : sizeT Go.Proofs.Tryd.prog 76 = some 1 := by kernel_rfl
theorem bytesT_76 : bytesT Go.Proofs.Tryd.prog 76 = some 8 := by kernel_rfl
theorem zero1_76 : zero1 Go.Proofs.Tryd.prog 76 = some (.nilFunc) := by kernel_rfl
theorem zeroT_76 : zeroT Go.Proofs.Tryd.prog 76 = some [.d (.v (.nilFunc))] := by kernel_rfl
theorem aggT_77 : aggT Go.Proofs.Tryd.prog 77 = some false := by kernel_rfl
theorem sizeT_77 : sizeT Go.Proofs.Tryd.prog 77 = some 1 := by kernel_rfl
theorem bytesT_77 : bytesT Go.Proofs.Tryd.prog 77 = some 8 := by kernel_rfl
theorem zero1_77 : zero1 Go.Proofs.Tryd.prog 77 = some (.nilFunc) := by kernel_rfl
theorem zeroT_77 : zeroT Go.Proofs.Tryd.prog 77 = some [.d (.v (.nilFunc))] := by kernel_rfl
theorem aggT_78 : aggT Go.Proofs.Tryd.prog 78 = some false := by kernel_rfl
theorem sizeT_78 : sizeT Go.Proofs.Tryd.prog 78 = some 1 := by kernel_rfl
theorem bytesT_78 : bytesT Go.Proofs.Tryd.prog 78 = some 8 := by kernel_rfl
theorem zero1_78 : zero1 Go.Proofs.Tryd.prog 78 = some (.nilFunc) := by kernel_rfl
theorem zeroT_78 : zeroT Go.Proofs.Tryd.prog 78 = some [.d (.v (.nilFunc))] := by kernel_rfl
theorem aggT_79 : aggT Go.Proofs.Tryd.prog 79 = some false := by kernel_rfl
theorem sizeT_79 : sizeT Go.Proofs.Tryd.prog 79 = some 1 := by kernel_rfl
theorem bytesT_79 : bytesT Go.Proofs.Tryd.prog 79 = some 8 := by kernel_rfl
theorem zero1_79 : zero1 Go.Proofs.Tryd.prog 79 = some (.nilFunc) := by kernel_rfl
theorem zeroT_79 : zeroT Go.Proofs.Tryd.prog 79 = some [.d (.v (.nilFunc))] := by kernel_rfl
theorem aggT_80 : aggT Go.Proofs.Tryd.prog 80 = some false := by kernel_rfl
theorem sizeT_80 : sizeT Go.Proofs.Tryd.prog 80 = some 1 := by kernel_rfl
theorem bytesT_80 : bytesT Go.Proofs.Tryd.prog 80 = some 8 := by kernel_rfl
theorem zero1_80 : zero1 Go.Proofs.Tryd.prog 80 = some (.nilFunc) := by kernel_rfl
theorem zeroT_80 : zeroT Go.Proofs.Tryd.prog 80 = some [.d (.v (.nilFunc))] := by kernel_rfl
theorem aggT_81 : aggT Go.Proofs.Tryd.prog 81 = some false := by kernel_rfl
theorem sizeT_81 : sizeT Go.Proofs.Tryd.prog 81 = some 1 := by kernel_rfl
theorem bytesT_81 : bytesT Go.Proofs.Tryd.prog 81 = some 8 := by kernel_rfl
theorem zero1_81 : zero1 Go.Proofs.Tryd.prog 81 = some (.nilFunc) := by kernel_rfl
theorem zeroT_81 : zeroT Go.Proofs.Tryd.prog 81 = some [.d (.v (.nilFunc))] := by kernel_rfl
theorem aggT_82 : aggT Go.Proofs.Tryd.prog 82 = some false := by kernel_rfl
theorem sizeT_82 : sizeT Go.Proofs.Tryd.prog 82 = some 1 := by kernel_rfl
theorem bytesT_82 : bytesT Go.Proofs.Tryd.prog 82 = some 8 := by kernel_rfl
theorem zero1_82 : zero1 Go.Proofs.Tryd.prog 82 = some (.nilFunc) := by kernel_rfl
theorem zeroT_82 : zeroT Go.Proofs.Tryd.prog 82 = some [.d (.v (.nilFunc))] := by kernel_rfl
theorem aggT_83 : aggT Go.Proofs.Tryd.prog 83 = some false := by kernel_rfl
theorem sizeT_83 : sizeT Go.Proofs.Tryd.prog 83 = some 1 := by kernel_rfl
theorem bytesT_83 : bytesT Go.Proofs.Tryd.prog 83 = some 8 := by kernel_rfl
theorem zero1_83 : zero1 Go.Proofs.Tryd.prog 83 = some (.nilFunc) := by kernel_rfl
theorem zeroT_83 : zeroT Go.Proofs.Tryd.prog 83 = some [.d (.v (.nilFunc))] := by kernel_rfl
theorem aggT_85 : aggT Go.Proofs.Tryd.prog 85 = some false := by kernel_rfl
theorem sizeT_85 : sizeT Go.Proofs.Tryd.prog 85 = some 1 := by kernel_rfl
theorem bytesT_85 : bytesT Go.Proofs.Tryd.prog 85 = some 8 := by kernel_rfl
theorem zero1_85 : zero1 Go.Proofs.Tryd.prog 85 = some (.nilFunc) := by kernel_rfl
theorem zeroT_85 : zeroT Go.Proofs.Tryd.prog 85 = some [.d (.v (.nilFunc))] := by kernel_rfl
theorem aggT_86 : aggT Go.Proofs.Tryd.prog 86 = some false := by kernel_rfl
theorem sizeT_86 : sizeT Go.Proofs.Tryd.prog 86 = some 1 := by kernel_rfl
theorem bytesT_86 : bytesT Go.Proofs.Tryd.prog 86 = some 8 := by kernel_rfl
theorem zero1_86 : zero1 Go.Proofs.Tryd.prog 86 = some (.nilFunc) := by kernel_rfl
theorem zeroT_86 : zeroT Go.Proofs.Tryd.prog 86 = some [.d (.v (.nilFunc))] := by kernel_rfl
theorem aggT_87 : aggT Go.Proofs.Tryd.prog 87 = some false := by kernel_rfl
theorem sizeT_87 : sizeT Go.Proofs.Tryd.prog 87 = some 1 := by kernel_rfl
theorem bytesT_87 : bytesT Go.Proofs.Tryd.prog 87 = some 8 := by kernel_rfl
theorem zero1_87 : zero1 Go.Proofs.Tryd.prog 87 = some (.nilFunc) := by kernel_rfl
theorem zeroT_87 : zeroT Go.Proofs.Tryd.prog 87 = some [.d (.v (.nilFunc))] := by kernel_rfl
theorem aggT_88 : aggT Go.Proofs.Tryd.prog 88 = some false := by kernel_rfl
theorem sizeT_88 : sizeT Go.Proofs.Tryd.prog 88 = some 1 := by kernel_rfl
theorem bytesT_88 : bytesT Go.Proofs.Tryd.prog 88 = some 8 := by kernel_rfl
theorem zero1_88 : zero1 Go.Proofs.Tryd.prog 88 = some (.nilFunc) := by kernel_rfl
theorem zeroT_88 : zeroT Go.Proofs.Tryd.prog 88 = some [.d (.v (.nilFunc))] := by kernel_rfl
theorem aggT_89 : aggT Go.Proofs.Tryd.prog 89 = some false := by kernel_rfl
theorem sizeT_89 : sizeT Go.Proofs.Tryd.prog 89 = some 1 := by kernel_rfl
theorem bytesT_89 : bytesT Go.Proofs.Tryd.prog 89 = some 8 := by kernel_rfl
theorem zero1_89 : zero1 Go.Proofs.Tryd.prog 89 = some (.nilFunc) := by kernel_rfl
theorem zeroT_89 : zeroT Go.Proofs.Tryd.prog 89 = some [.d (.v (.nilFunc))] := by kernel_rfl
theorem aggT_90 : aggT Go.Proofs.Tryd.prog 90 = some false := by kernel_rfl
theorem sizeT_90 : sizeT Go.Proofs.Tryd.prog 90 = some 1 := by kernel_rfl
theorem bytesT_90 : bytesT Go.Proofs.Tryd.prog 90 = some 8 := by kernel_rfl
theorem zero1_90 : zero1 Go.Proofs.Tryd.prog 90 = some (.nilFunc) := by kernel_rfl
theorem zeroT_90 : zeroT Go.Proofs.Tryd.prog 90 = some [.d (.v (.nilFunc))] := by kernel_rfl
theorem aggT_91 : aggT Go.Proofs.Tryd.prog 91 = some false := by kernel_rfl
theorem sizeT_91 : sizeT Go.Proofs.Tryd.prog 91 = some 1 := by kernel_rfl
theorem bytesT_91 : bytesT Go.Proofs.Tryd.prog 91 = some 8 := by kernel_rfl
theorem zero1_91 : zero1 Go.Proofs.Tryd.prog 91 = some (.nilFunc) := by kernel_rfl
theorem zeroT_91 : zeroT Go.Proofs.Tryd.prog 91 = some [.d (.v (.nilFunc))] := by kernel_rfl
theorem aggT_93 : aggT Go.Proofs.Tryd.prog 93 = some false := by kernel_rfl
theorem sizeT_93 : sizeT Go.Proofs.Tryd.prog 93 = some 1 := by kernel_rfl
theorem bytesT_93 : bytesT Go.Proofs.Tryd.prog 93 = some 8 := by kernel_rfl
theorem zero1_93 : zero1 Go.Proofs.Tryd.prog 93 = some (.nilFunc) := by kernel_rfl
theorem zeroT_93 : zeroT Go.Proofs.Tryd.prog 93 = some [.d (.v (.nilFunc))] := by kernel_rfl
theorem aggT_94 : aggT Go.Proofs.Tryd.prog 94 = some false := by kernel_rfl
theorem sizeT_94 : sizeT Go.Proofs.Tryd.prog 94 = some 1 := by kernel_rfl
theorem bytesT_94 : bytesT Go.Proofs.Tryd.prog 94 = some 8 := by kernel_rfl
theorem zero1_94 : zero1 Go.Proofs.Tryd.prog 94 = some (.nilFunc) := by kernel_rfl
theorem zeroT_94 : zeroT Go.Proofs.Tryd.prog 94 = some [.d (.v (.nilFunc))] := by kernel_rfl
theorem aggT_95 : aggT Go.Proofs.Tryd.prog 95 = some false := by kernel_rfl
theorem sizeT_95 : sizeT Go.Proofs.Tryd.prog 95 = some 1 := by kernel_rfl
theorem bytesT_95 : bytesT Go.Proofs.Tryd.prog 95 = some 8 := by kernel_rfl
theorem und_95 : Go.Proofs.Tryd.prog.underlying 95 = some (.int .u64) := by kernel_rfl
theorem zero1_95 : zero1 Go.Proofs.Tryd.prog 95 = some (.int .u64 0) := by kernel_rfl
theorem zeroT_95 : zeroT Go.Proofs.Tryd.prog 95 = some [.d (.v (.int .u64 0))] := by kernel_rfl
theorem aggT_96 : aggT Go.Proofs.Tryd.prog 96 = some true := by kernel_rfl
theorem sizeT_96 : sizeT Go.Proofs.Tryd.prog 96 = some 256 := by kernel_rfl
theorem bytesT_96 : bytesT Go.Proofs.Tryd.prog 96 = some 256 := by kernel_rfl
theorem und_96 : Go.Proofs.Tryd.prog.underlying 96 = some (.array 256 5) := by kernel_rfl
theorem zeroT_96 : zeroT Go.Proofs.Tryd.prog 96 = some [.d (.v (.int .u8 0)), .d (.v (.int .u8 0)), .d (.v (.int .u8 0)), .d (.v (.int .u8 0)), .d (.v (.int .u8 0)), .d (.v (.int .u8 0)), .d (.v (.int .u8 0)), .d (.v (.int .u8 0)), .d (.v (.int .u8 0)), .d (.v (.int .u8 0)), .d (.v (.int .u8 0)), .d (.v (.int .u8 0)), .d (.v (.int .u8 0)), .d (.v (.int .u8 0)), .d (.v (.int .u8 0)), .d (.v (.int .u8 0)), .d (.v (.int .u8 0)), .d (.v (.int .u8 0)), .d (.v (.int .u8 0)), .d (.v (.int .u8 0)), .d (.v (.int .u8 0)), .d (.v (.int .u8 0)), .d (.v (.int .u8 0)), .d (.v (.int .u8 0)), .d (.v (.int .u8 0)), .d (.v (.int .u8 0)), .d (.v (.int .u8 0)), .d (.v (.int .u8 0)), .d (.v (.int .u8 0)), .d (.v (.int .u8 0)), .d (.v (.int .u8 0)), .d (.v (.int .u8 0)), .d (.v (.int .u8 0)), .d (.v (.int .u8 0)), .d (.v (.int .u8 0)), .d (.v (.int .u8 0)), .d (.v (.int .u8 0)), .d (.v (.int .u8 0)), .d (.v (.int .u8 0)), .d (.v (.int .u8 0)), .d (.v (.int .u8 0)), .d (.v (.int .u8 0)), .d (.v (.int .u8 0)), .d (.v (.int .u8 0)), .d (.v (.int .u8 0)), .d (.v (.int .u8 0)), .d (.v (.int .u8 0)), .d (.v (.int .u8 0)), .d (.v (.int .u8 0)), .d (.v (.int .u8 0)), .d (.v (.int .u8 0)), .d (.v (.int .u8 0)), .d (.v (.int .u8 0)), .d (.v (.int .u8 0)), .d (.v (.int .u8 0)), .d (.v (.int .u8 0)), .d (.v (.int .u8 0)), .d (.v (.int .u8 0)), .d (.v (.int .u8 0)), .d (.v (.int .u8 0)), .d (.v (.int .u8 0)), .d (.v (.int .u8 0)), .d (.v (.int .u8 0)), .d (.v (.int .u8 0)), .d (.v (.int .u8 0)), .d (.v (.int .u8 0)), .d (.v (.int .u8 0)), .d (.v (.int .u8 0)), .d (.v (.int .u8 0)), .d (.v (.int .u8 0)), .d (.v (.int .u8 0)), .d (.v (.int .u8 0)), .d (.v (.int .u8 0)), .d (.v (.int .u8 0)), .d (.v (.int .u8 0)), .d (.v (.int .u8 0)), .d (.v (.int .u8 0)), .d (.v (.int .u8 0)), .d (.v (.int .u8 0)), .d (.v (.int .u8 0)), .d (.v (.int .u8 0)), .d (.v (.int .u8 0)), .d (.v (.int .u8 0)), .d (.v (.int .u8 0)), .d (.v (.int .u8 0)), .d (.v (.int .u8 0)), .d (.v (.int .u8 0)), .d (.v (.int .u8 0)), .d (.v (.int .u8 0)), .d (.v (.int .u8 0)), .d (.v (.int .u8 0)), .d (.v (.int .u8 0)), .d (.v (.int .u8 0)), .d (.v (.int .u8 0)), .d (.v (.int .u8 0)), .d (.v (.int .u8 0)), .d (.v (.int .u8 0)), .d (.v (.int .u8 0)), .d (.v (.int .u8 0)), .d (.v (.int .u8 0)), .d (.v (.int .u8 0)), .d (.v (.int .u8 0)), .d (.v (.int .u8 0)), .d (.v (.int .u8 0)), .d (.v (.int .u8 0)), .d (.v (.int .u8 0)), .d (.v (.int .u8 0)), .d (.v (.int .u8 0)), .d (.v (.int .u8 0)), .d (.v (.int .u8 0)), .d (.v (.int .u8 0)), .d (.v (.int .u8 0)), .d (.v (.int .u8 0)), .d (.v (.int .u8 0)), .d (.v (.int .u8 0)), .d (.v (.int .u8 0)), .d (.v (.int .u8 0)), .d (.v (.int .u8 0)), .d (.v (.int .u8 0)), .d (.v (.int .u8 0)), .d (.v (.int .u8 0)), .d (.v (.int .u8 0)), .d (.v (.int .u8 0)), .d (.v (.int .u8 0)), .d (.v (.int .u8 0)), .d (.v (.int .u8 0)), .d (.v (.int .u8 0)), .d (.v (.int .u8 0)), .d (.v (.int .u8 0)), .d (.v (.int .u8 0)), .d (.v (.int .u8 0)), .d (.v (.int .u8 0)), .d (.v (.int .u8 0)), .d (.v (.int .u8 0)), .d (.v (.int .u8 0)), .d (.v (.int .u8 0)), .d (.v (.int .u8 0)), .d (.v (.int .u8 0)), .d (.v (.int .u8 0)), .d (.v (.int .u8 0)), .d (.v (.int .u8 0)), .d (.v (.int .u8 0)), .d (.v (.int .u8 0)), .d (.v (.int .u8 0)), .d (.v (.int .u8 0)), .d (.v (.int .u8 0)), .d (.v (.int .u8 0)), .d (.v (.int .u8 0)), .d (.v (.int .u8 0)), .d (.v (.int .u8 0)), .d (.v (.int .u8 0)), .d (.v (.int .u8 0)), .d (.v (.int .u8 0)), .d (.v (.int .u8 0)), .d (.v (.int .u8 0)), .d (.v (.int .u8 0)), .d (.v (.int .u8 0)), .d (.v (.int .u8 0)), .d (.v (.int .u8 0)), .d (.v (.int .u8 0)), .d (.v (.int .u8 0)), .d (.v (.int .u8 0)), .d (.v (.int .u8 0)), .d (.v (.int .u8 0)), .d (.v (.int .u8 0)), .d (.v (.int .u8 0)), .d (.v (.int .u8 0)), .d (.v (.int .u8 0)), .d (.v (.int .u8 0)), .d (.v (.int .u8 0)), .d (.v (.int .u8 0)), .d (.v (.int .u8 0)), .d (.v (.int .u8 0)), .d (.v (.int .u8 0)), .d (.v (.int .u8 0)), .d (.v (.int .u8 0)), .d (.v (.int .u8 0)), .d (.v (.int .u8 0)), .d (.v (.int .u8 0)), .d (.v (.int .u8 0)), .d (.v (.int .u8 0)), .d (.v (.int .u8 0)), .d (.v (.int .u8 0)), .d (.v (.int .u8 0)), .d (.v (.int .u8 0)), .d (.v (.int .u8 0)), .d (.v (.int .u8 0)), .d (.v (.int .u8 0)), .d (.v (.int .u8 0)), .d (.v (.int .u8 0)), .d (.v (.int .u8 0)), .d (.v (.int .u8 0)), .d (.v (.int .u8 0)), .d (.v (.int .u8 0)), .d (.v (.int .u8 0)), .d (.v (.int .u8 0)), .d (.v (.int .u8 0)), .d (.v (.int .u8 0)), .d (.v (.int .u8 0)), .d (.v (.int .u8 0)), .d (.v (.int .u8 0)), .d (.v (.int .u8 0)), .d (.v (.int .u8 0)), .d (.v (.int .u8 0)), .d (.v (.int .u8 0)), .d (.v (.int .u8 0)), .d (.v (.int .u8 0)), .d (.v (.int .u8 0)), .d (.v (.int .u8 0)), .d (.v (.int .u8 0)), .d (.v (.int .u8 0)), .d (.v (.int .u8 0)), .d (.v (.int .u8 0)), .d (.v (.int .u8 0)), .d (.v (.int .u8 0)), .d (.v (.int .u8 0)), .d (.v (.int .u8 0)), .d (.v (.int .u8 0)), .d (.v (.int .u8 0)), .d (.v (.int .u8 0)), .d (.v (.int .u8 0)), .d (.v (.int .u8 0)), .d (.v (.int .u8 0)), .d (.v (.int .u8 0)), .d (.v (.int .u8 0)), .d (.v (.int .u8 0)), .d (.v (.int .u8 0)), .d (.v (.int .u8 0)), .d (.v (.int .u8 0)), .d (.v (.int .u8 0)), .d (.v (.int .u8 0)), .d (.v (.int .u8 0)), .d (.v (.int .u8 0)), .d (.v (.int .u8 0)), .d (.v (.int .u8 0)), .d (.v (.int .u8 0)), .d (.v (.int .u8 0)), .d (.v (.int .u8 0)), .d (.v (.int .u8 0)), .d (.v (.int .u8 0)), .d (.v (.int .u8 0)), .d (.v (.int .u8 0)), .d (.v (.int .u8 0)), .d (.v (.int .u8 0)), .d (.v (.int .u8 0)), .d (.v (.int .u8 0)), .d (.v (.int .u8 0)), .d (.v (.int .u8 0)), .d (.v (.int .u8 0)), .d (.v (.int .u8 0)), .d (.v (.int .u8 0)), .d (.v (.int .u8 0)), .d (.v (.int .u8 0)), .d (.v (.int .u8 0)), .d (.v (.int .u8 0)), .d (.v (.int .u8 0))] := by kernel_rfl
theorem aggT_97 : aggT Go.Proofs.Tryd.prog 97 = some true := by kernel_rfl
theorem sizeT_97 : sizeT Go.Proofs.Tryd.prog 97 = some 2 := by kernel_rfl
theorem bytesT_97 : bytesT Go.Proofs.Tryd.prog 97 = some 2 := by kernel_rfl
theorem fieldT_97_0 : fieldT Go.Proofs.Tryd.prog 97 0 = some (0, 5) := by kernel_rfl
theorem fieldT_97_1 : fieldT Go.Proofs.Tryd.prog 97 1 = some (1, 5) := by kernel_rfl
theorem placesT_97 : placesT Go.Proofs.Tryd.prog 97 = some [(0, 1), (1, 1)] := by kernel_rfl
theorem zeroT_97 : zeroT Go.Proofs.Tryd.prog 97 = some [.d (.v (.int .u8 0)), .d (.v (.int .u8 0))] := by kernel_rfl
theorem aggT_98 : aggT Go.Proofs.Tryd.prog 98 = some true := by kernel_rfl
theorem sizeT_98 : sizeT Go.Proofs.Tryd.prog 98 = some 2 := by kernel_rfl
theorem bytesT_98 : bytesT Go.Proofs.Tryd.prog 98 = some 2 := by kernel_rfl
theorem fieldT_98_0 : fieldT Go.Proofs.Tryd.prog 98 0 = some (0, 5) := by kernel_rfl
theorem fieldT_98_1 : fieldT Go.Proofs.Tryd.prog 98 1 = some (1, 5) := by kernel_rfl
theorem placesT_98 : placesT Go.Proofs.Tryd.prog 98 = some [(0, 1), (1, 1)] := by kernel_rfl
theorem zeroT_98 : zeroT Go.Proofs.Tryd.prog 98 = some [.d (.v (.int .u8 0)), .d (.v (.int .u8 0))] := by kernel_rfl
theorem aggT_99 : aggT Go.Proofs.Tryd.prog 99 = some true := by kernel_rfl
theorem sizeT_99 : sizeT Go.Proofs.Tryd.prog 99 = some 32 := by kernel_rfl
theorem bytesT_99 : bytesT Go.Proofs.Tryd.prog 99 = some 32 := by kernel_rfl
theorem und_99 : Go.Proofs.Tryd.prog.underlying 99 = some (.array 16 98) := by kernel_rfl
theorem zeroT_99 : zeroT Go.Proofs.Tryd.prog 99 = some [.d (.v (.int .u8 0)), .d (.v (.int .u8 0)), .d (.v (.int .u8 0)), .d (.v (.int .u8 0)), .d (.v (.int .u8 0)), .d (.v (.int .u8 0)), .d (.v (.int .u8 0)), .d (.v (.int .u8 0)), .d (.v (.int .u8 0)), .d (.v (.int .u8 0)), .d (.v (.int .u8 0)), .d (.v (.int .u8 0)), .d (.v (.int .u8 0)), .d (.v (.int .u8 0)), .d (.v (.int .u8 0)), .d (.v (.int .u8 0)), .d (.v (.int .u8 0)), .d (.v (.int .u8 0)), .d (.v (.int .u8 0)), .d (.v (.int .u8 0)), .d (.v (.int .u8 0)), .d (.v (.int .u8 0)), .d (.v (.int .u8 0)), .d (.v (.int .u8 0)), .d (.v (.int .u8 0)), .d (.v (.int .u8 0)), .d (.v (.int .u8 0)), .d (.v (.int .u8 0)), .d (.v (.int .u8 0)), .d (.v (.int .u8 0)), .d (.v (.int .u8 0)), .d (.v (.int .u8 0))] := by kernel_rfl
theorem aggT_100 : aggT Go.Proofs.Tryd.prog 100 = some false := by kernel_rfl
theorem sizeT_100 : sizeT Go.Proofs.Tryd.prog 100 = some 1 := by kernel_rfl
theorem bytesT_100 : bytesT Go.Proofs.Tryd.prog 100 = some 4 := by kernel_rfl
theorem und_100 : Go.Proofs.Tryd.prog.underlying 100 = some (.int .u32) := by kernel_rfl
theorem zero1_100 : zero1 Go.Proofs.Tryd.prog 100 = some (.int .u32 0) := by kernel_rfl
theorem zeroT_100 : zeroT Go.Proofs.Tryd.prog 100 = some [.d (.v (.int .u32 0))] := by kernel_rfl
theorem aggT_102 : aggT Go.Proofs.Tryd.prog 102 = some false := by kernel_rfl
theorem sizeT_102 : sizeT Go.Proofs.Tryd.prog 102 = some 1 := by kernel_rfl
theorem bytesT_102 : bytesT Go.Proofs.Tryd.prog 102 = some 8 := by kernel_rfl
theorem zero1_102 : zero1 Go.Proofs.Tryd.prog 102 = some (.nilFunc) := by kernel_rfl
theorem zeroT_102 : zeroT Go.Proofs.Tryd.prog 102 = some [.d (.v (.nilFunc))] := by kernel_rfl
theorem aggT_103 : aggT Go.Proofs.Tryd.prog 103 = some false := by kernel_rfl
theorem sizeT_103 : sizeT Go.Proofs.Tryd.prog 103 = some 1 := by kernel_rfl
theorem bytesT_103 : bytesT Go.Proofs.Tryd.prog 103 = some 8 := by kernel_rfl
theorem zero1_103 : zero1 Go.Proofs.Tryd.prog 103 = some (.nilFunc) := by kernel_rfl
theorem zeroT_103 : zeroT Go.Proofs.Tryd.prog 103 = some [.d (.v (.nilFunc))] := by kernel_rfl
theorem aggT_104 : aggT Go.Proofs.Tryd.prog 104 = some true := by kernel_rfl
theorem sizeT_104 : sizeT Go.Proofs.Tryd.prog 104 = some 4 := by kernel_rfl
theorem bytesT_104 : bytesT Go.Proofs.Tryd.prog 104 = some 40 := by kernel_rfl
theorem fieldT_104_0 : fieldT Go.Proofs.Tryd.prog 104 0 = some (0, 17) := by kernel_rfl
theorem fieldT_104_1 : fieldT Go.Proofs.Tryd.prog 104 1 = some (1, 17) := by kernel_rfl
theorem fieldT_104_2 : fieldT Go.Proofs.Tryd.prog 104 2 = some (2, 17) := by kernel_rfl
theorem fieldT_104_3 : fieldT Go.Proofs.Tryd.prog 104 3 = some (3, 9) := by kernel_rfl
theorem placesT_104 : placesT Go.Proofs.Tryd.prog 104 = some [(0, 1), (1, 1), (2, 1), (3, 1)] := by kernel_rfl
theorem zeroT_104 : zeroT Go.Proofs.Tryd.prog 104 = some [.d (.v (.pointer none)), .d (.v (.pointer none)), .d (.v (.pointer none)), .d (.v (.string ⟨#[]⟩))] := by kernel_rfl
theorem aggT_105 : aggT Go.Proofs.Tryd.prog 105 = some true := by kernel_rfl
theorem sizeT_105 : sizeT Go.Proofs.Tryd.prog 105 = some 4 := by kernel_rfl
theorem bytesT_105 : bytesT Go.Proofs.Tryd.prog 105 = some 40 := by kernel_rfl
theorem fieldT_105_0 : fieldT Go.Proofs.Tryd.prog 105 0 = some (0, 17) := by kernel_rfl
theorem fieldT_105_1 : fieldT Go.Proofs.Tryd.prog 105 1 = some (1, 17) := by kernel_rfl
theorem fieldT_105_2 : fieldT Go.Proofs.Tryd.prog 105 2 = some (2, 17) := by kernel_rfl
theorem fieldT_105_3 : fieldT Go.Proofs.Tryd.prog 105 3 = some (3, 9) := by kernel_rfl
theorem placesT_105 : placesT Go.Proofs.Tryd.prog 105 = some [(0, 1), (1, 1), (2, 1), (3, 1)] := by kernel_rfl
theorem zeroT_105 : zeroT Go.Proofs.Tryd.prog 105 = some [.d (.v (.pointer none)), .d (.v (.pointer none)), .d (.v (.pointer none)), .d (.v (.string ⟨#[]⟩))] := by kernel_rfl
theorem aggT_106 : aggT Go.Proofs.Tryd.prog 106 = some true := by kernel_rfl
theorem sizeT_106 : sizeT Go.Proofs.Tryd.prog 106 = some 0 := by kernel_rfl
theorem bytesT_106 : bytesT Go.Proofs.Tryd.prog 106 = some 0 := by kernel_rfl
theorem und_106 : Go.Proofs.Tryd.prog.underlying 106 = some (.array 0 16) := by kernel_rfl
theorem zeroT_106 : zeroT Go.Proofs.Tryd.prog 106 = some [] := by kernel_rfl
theorem aggT_107 : aggT Go.Proofs.Tryd.prog 107 = some true := by kernel_rfl
theorem sizeT_107 : sizeT Go.Proofs.Tryd.prog 107 = some 0 := by kernel_rfl
theorem bytesT_107 : bytesT Go.Proofs.Tryd.prog 107 = some 0 := by kernel_rfl
theorem fieldT_107_0 : fieldT Go.Proofs.Tryd.prog 107 0 = some (0, 106) := by kernel_rfl
theorem placesT_107 : placesT Go.Proofs.Tryd.prog 107 = some [(0, 0)] := by kernel_rfl
theorem zeroT_107 : zeroT Go.Proofs.Tryd.prog 107 = some [] := by kernel_rfl
theorem aggT_108 : aggT Go.Proofs.Tryd.prog 108 = some true := by kernel_rfl
theorem sizeT_108 : sizeT Go.Proofs.Tryd.prog 108 = some 0 := by kernel_rfl
theorem bytesT_108 : bytesT Go.Proofs.Tryd.prog 108 = some 0 := by kernel_rfl
theorem fieldT_108_0 : fieldT Go.Proofs.Tryd.prog 108 0 = some (0, 106) := by kernel_rfl
theorem placesT_108 : placesT Go.Proofs.Tryd.prog 108 = some [(0, 0)] := by kernel_rfl
theorem zeroT_108 : zeroT Go.Proofs.Tryd.prog 108 = some [] := by kernel_rfl
theorem aggT_109 : aggT Go.Proofs.Tryd.prog 109 = some false := by kernel_rfl
theorem sizeT_109 : sizeT Go.Proofs.Tryd.prog 109 = some 1 := by kernel_rfl
theorem bytesT_109 : bytesT Go.Proofs.Tryd.prog 109 = some 8 := by kernel_rfl
theorem zero1_109 : zero1 Go.Proofs.Tryd.prog 109 = some (.nilFunc) := by kernel_rfl
theorem zeroT_109 : zeroT Go.Proofs.Tryd.prog 109 = some [.d (.v (.nilFunc))] := by kernel_rfl
theorem aggT_110 : aggT Go.Proofs.Tryd.prog 110 = some false := by kernel_rfl
theorem sizeT_110 : sizeT Go.Proofs.Tryd.prog 110 = some 1 := by kernel_rfl
theorem bytesT_110 : bytesT Go.Proofs.Tryd.prog 110 = some 1 := by kernel_rfl
theorem und_110 : Go.Proofs.Tryd.prog.underlying 110 = some (.int .u8) := by kernel_rfl
theorem zero1_110 : zero1 Go.Proofs.Tryd.prog 110 = some (.int .u8 0) := by kernel_rfl
theorem zeroT_110 : zeroT Go.Proofs.Tryd.prog 110 = some [.d (.v (.int .u8 0))] := by kernel_rfl
theorem aggT_111 : aggT Go.Proofs.Tryd.prog 111 = some false := by kernel_rfl
theorem sizeT_111 : sizeT Go.Proofs.Tryd.prog 111 = some 1 := by kernel_rfl
theorem bytesT_111 : bytesT Go.Proofs.Tryd.prog 111 = some 1 := by kernel_rfl
theorem und_111 : Go.Proofs.Tryd.prog.underlying 111 = some (.int .u8) := by kernel_rfl
theorem zero1_111 : zero1 Go.Proofs.Tryd.prog 111 = some (.int .u8 0) := by kernel_rfl
theorem zeroT_111 : zeroT Go.Proofs.Tryd.prog 111 = some [.d (.v (.int .u8 0))] := by kernel_rfl
theorem aggT_112 : aggT Go.Proofs.Tryd.prog 112 = some false := by kernel_rfl
theorem sizeT_112 : sizeT Go.Proofs.Tryd.prog 112 = some 1 := by kernel_rfl
theorem bytesT_112 : bytesT Go.Proofs.Tryd.prog 112 = some 8 := by kernel_rfl
theorem zero1_112 : zero1 Go.Proofs.Tryd.prog 112 = some (.nilFunc) := by kernel_rfl
theorem zeroT_112 : zeroT Go.Proofs.Tryd.prog 112 = some [.d (.v (.nilFunc))] := by kernel_rfl
theorem aggT_113 : aggT Go.Proofs.Tryd.prog 113 = some false := by kernel_rfl
theorem sizeT_113 : sizeT Go.Proofs.Tryd.prog 113 = some 1 := by kernel_rfl
theorem bytesT_113 : bytesT Go.Proofs.Tryd.prog 113 = some 8 := by kernel_rfl
theorem zero1_113 : zero1 Go.Proofs.Tryd.prog 113 = some (.pointer none) := by kernel_rfl
theorem und_113 : Go.Proofs.Tryd.prog.underlying 113 = some (.pointer 5) := by kernel_rfl
theorem zeroT_113 : zeroT Go.Proofs.Tryd.prog 113 = some [.d (.v (.pointer none))] := by kernel_rfl
theorem aggT_114 : aggT Go.Proofs.Tryd.prog 114 = some false := by kernel_rfl
theorem sizeT_114 : sizeT Go.Proofs.Tryd.prog 114 = some 1 := by kernel_rfl
theorem bytesT_114 : bytesT Go.Proofs.Tryd.prog 114 = some 4 := by kernel_rfl
theorem und_114 : Go.Proofs.Tryd.prog.underlying 114 = some (.int .i32) := by kernel_rfl
theorem zero1_114 : zero1 Go.Proofs.Tryd.prog 114 = some (.int .i32 0) := by kernel_rfl
theorem zeroT_114 : zeroT Go.Proofs.Tryd.prog 114 = some [.d (.v (.int .i32 0))] := by kernel_rfl
theorem aggT_115 : aggT Go.Proofs.Tryd.prog 115 = some false := by kernel_rfl
theorem sizeT_115 : sizeT Go.Proofs.Tryd.prog 115 = some 1 := by kernel_rfl
theorem bytesT_115 : bytesT Go.Proofs.Tryd.prog 115 = some 4 := by kernel_rfl
theorem und_115 : Go.Proofs.Tryd.prog.underlying 115 = some (.int .i32) := by kernel_rfl
theorem zero1_115 : zero1 Go.Proofs.Tryd.prog 115 = some (.int .i32 0) := by kernel_rfl
theorem zeroT_115 : zeroT Go.Proofs.Tryd.prog 115 = some [.d (.v (.int .i32 0))] := by kernel_rfl
theorem aggT_116 : aggT Go.Proofs.Tryd.prog 116 = some true := by kernel_rfl
theorem sizeT_116 : sizeT Go.Proofs.Tryd.prog 116 = some 11 := by kernel_rfl
theorem bytesT_116 : bytesT Go.Proofs.Tryd.prog 116 = some 48 := by kernel_rfl
theorem fieldT_116_0 : fieldT Go.Proofs.Tryd.prog 116 0 = some (0, 12) := by kernel_rfl
theorem fieldT_116_1 : fieldT Go.Proofs.Tryd.prog 116 1 = some (1, 12) := by kernel_rfl
theorem fieldT_116_2 : fieldT Go.Proofs.Tryd.prog 116 2 = some (2, 100) := by kernel_rfl
theorem fieldT_116_3 : fieldT Go.Proofs.Tryd.prog 116 3 = some (3, 110) := by kernel_rfl
theorem fieldT_116_4 : fieldT Go.Proofs.Tryd.prog 116 4 = some (4, 5) := by kernel_rfl
theorem fieldT_116_5 : fieldT Go.Proofs.Tryd.prog 116 5 = some (5, 5) := by kernel_rfl
theorem fieldT_116_6 : fieldT Go.Proofs.Tryd.prog 116 6 = some (6, 111) := by kernel_rfl
theorem fieldT_116_7 : fieldT Go.Proofs.Tryd.prog 116 7 = some (7, 112) := by kernel_rfl
theorem fieldT_116_8 : fieldT Go.Proofs.Tryd.prog 116 8 = some (8, 113) := by kernel_rfl
theorem fieldT_116_9 : fieldT Go.Proofs.Tryd.prog 116 9 = some (9, 114) := by kernel_rfl
theorem fieldT_116_10 : fieldT Go.Proofs.Tryd.prog 116 10 = some (10, 115) := by kernel_rfl
theorem placesT_116 : placesT Go.Proofs.Tryd.prog 116 = some [(0, 1), (1, 1), (2, 1), (3, 1), (4, 1), (5, 1), (6, 1), (7, 1), (8, 1), (9, 1), (10, 1)] := by kernel_rfl
theorem zeroT_116 : zeroT Go.Proofs.Tryd.prog 116 = some [.d (.v (.int .u64 0)), .d (.v (.int .u64 0)), .d (.v (.int .u32 0)), .d (.v (.int .u8 0)), .d (.v (.int .u8 0)), .d (.v (.int .u8 0)), .d (.v (.int .u8 0)), .d (.v (.nilFunc)), .d (.v (.pointer none)), .d (.v (.int .i32 0)), .d (.v (.int .i32 0))] := by kernel_rfl
theorem aggT_117 : aggT Go.Proofs.Tryd.prog 117 = some true := by kernel_rfl
theorem sizeT_117 : sizeT Go.Proofs.Tryd.prog 117 = some 11 := by kernel_rfl
theorem bytesT_117 : bytesT Go.Proofs.Tryd.prog 117 = some 48 := by kernel_rfl
theorem fieldT_117_0 : fieldT Go.Proofs.Tryd.prog 117 0 = some (0, 12) := by kernel_rfl
theorem fieldT_117_1 : fieldT Go.Proofs.Tryd.prog 117 1 = some (1, 12) := by kernel_rfl
theorem fieldT_117_2 : fieldT Go.Proofs.Tryd.prog 117 2 = some (2, 100) := by kernel_rfl
theorem fieldT_117_3 : fieldT Go.Proofs.Tryd.prog 117 3 = some (3, 110) := by kernel_rfl
theorem fieldT_117_4 : fieldT Go.Proofs.Tryd.prog 117 4 = some (4, 5) := by kernel_rfl
theorem fieldT_117_5 : fieldT Go.Proofs.Tryd.prog 117 5 = some (5, 5) := by kernel_rfl
theorem fieldT_117_6 : fieldT Go.Proofs.Tryd.prog 117 6 = some (6, 111) := by kernel_rfl
theorem fieldT_117_7 : fieldT Go.Proofs.Tryd.prog 117 7 = some (7, 112) := by kernel_rfl
theorem fieldT_117_8 : fieldT Go.Proofs.Tryd.prog 117 8 = some (8, 113) := by kernel_rfl
theorem fieldT_117_9 : fieldT Go.Proofs.Tryd.prog 117 9 = some (9, 114) := by kernel_rfl
theorem fieldT_117_10 : fieldT Go.Proofs.Tryd.prog 117 10 = some (10, 115) := by kernel_rfl
theorem placesT_117 : placesT Go.Proofs.Tryd.prog 117 = some [(0, 1), (1, 1), (2, 1), (3, 1), (4, 1), (5, 1), (6, 1), (7, 1), (8, 1), (9, 1), (10, 1)] := by kernel_rfl
theorem zeroT_117 : zeroT Go.Proofs.Tryd.prog 117 = some [.d (.v (.int .u64 0)), .d (.v (.int .u64 0)), .d (.v (.int .u32 0)), .d (.v (.int .u8 0)), .d (.v (.int .u8 0)), .d (.v (.int .u8 0)), .d (.v (.int .u8 0)), .d (.v (.nilFunc)), .d (.v (.pointer none)), .d (.v (.int .i32 0)), .d (.v (.int .i32 0))] := by kernel_rfl
end Go.Proofs.YtmjacokkgfophaaDoor.Am
end
section
/- Codes (trees of operations) as data. -/
open Go Go.Proofs Go.Proofs.YtmjacokkgfophaaDoor.Am
namespace Go.Proofs.YtmjacokkgfophaaDoor.Am
/-- A code; z: without parts, and made so (its list is the nil slice). -/
inductive Cd where
  | mk (op n : Int) (s : ByteArray) (l : List Cd) (z : Bool)
namespace Cd
def op : Cd → Int | .mk a _ _ _ _ => a
def n : Cd → Int | .mk _ a _ _ _ => a
def s : Cd → ByteArray | .mk _ _ a _ _ => a
def l : Cd → List Cd | .mk _ _ _ a _ => a
def z : Cd → Bool | .mk _ _ _ _ a => a
end Cd
def listD (z : Bool) (l : List (List D)) : D := if z = true ∧ l = [] then .v (.slice none 0 0) else .s 4 l
def encCd : Cd → List D
  | .mk a b s l z => [.v (.int .i64 a), .v (.int .i64 b), .v (.string s), listD z (encs l)]
where encs : List Cd → List (List D)
  | [] => []
  | x :: r => encCd x :: encs r
theorem encs_eq (l : List Cd) : encCd.encs l = l.map encCd := by induction l <;> simp_all [encCd.encs]
def lD (x : Cd) : D := listD x.z (x.l.map encCd)
theorem encCd_eq (x : Cd) : encCd x = [.v (.int .i64 x.op), .v (.int .i64 x.n), .v (.string x.s), lD x] := by
  cases x; simp [encCd, Cd.op, Cd.n, Cd.s, Cd.l, Cd.z, lD, encs_eq]
theorem lD_eq {x : Cd} (h : x.l ≠ []) : lD x = .s 4 (x.l.map encCd) := by
  unfold lD listD; rw [if_neg]; simp [h]
theorem lD_of_lt {x : Cd} {b : Int} (h0 : 0 ≤ b) (h : b < x.l.length) : lD x = .s 4 (x.l.map encCd) := lD_eq (by intro e; rw [e] at h; simp at h; omega)
theorem lenA_lD (look : Look) (x : Cd) : lenA look (.c (.d (lD x))) = eff (.c (.d (.v (.int .i64 x.l.length)))) := by
  unfold lD listD
  split
  · rename_i h; have : x.l = [] := by simpa using h.2
    rw [this]; rfl
  · simp [lenA]
theorem lenA_s (look : Look) (k : Nat) (els : List (List D)) : lenA look (.c (.d (.s k els))) = eff (.c (.d (.v (.int .i64 els.length)))) := id rfl
theorem lenA_nil (look : Look) : lenA look (.c (.d (.v (.slice none 0 0)))) = eff (.c (.d (.v (.int .i64 0)))) := id rfl
theorem listD_of_lt {z : Bool} {l : List Cd} {b : Int} (h0 : 0 ≤ b) (h : b < l.length) : listD z (l.map encCd) = .s 4 (l.map encCd) := by
  unfold listD; rw [if_neg]; rintro ⟨_, e⟩; rw [List.map_eq_nil_iff] at e; rw [e] at h; simp at h; omega
theorem lenA_listD (look : Look) (z : Bool) (l : List Cd) : lenA look (.c (.d (listD z (l.map encCd)))) = eff (.c (.d (.v (.int .i64 l.length)))) := by
  unfold listD
  split
  · rename_i h; have : l = [] := by simpa using h.2
    rw [this]; rfl
  · simp [lenA]
def cdC (x : Cd) : List C := [.d (.v (.int .i64 x.op)), .d (.v (.int .i64 x.n)), .d (.v (.string x.s)), .d (lD x)]
def cdV (x : Cd) : V := .agg (cdC x)
def iV (n : Int) : V := .c (.d (.v (.int .i64 n)))
def bV (b : Bool) : V := .c (.d (.v (.bool b)))
def wr (n : Int) : Int := IntKind.i64.wrap n
theorem dstOk_none (n : Nat) : dstOk n none = true := id rfl
theorem dstOk_some (n t : Nat) : dstOk n (some t) = decide (t < n) := id rfl
theorem beq_ft : (false == true) = false := by decide
theorem beq_tf : (true == false) = false := by decide
theorem ib_ne {a b : Int} (h : ¬ a = b) : (a == b) = false := beq_false_of_ne h
theorem ib_bne {a b : Int} (h : ¬ a = b) : (a != b) = true := by simp [bne, ib_ne h]
theorem ib_bne_self (a : Int) : (a != a) = false := by simp [bne]
theorem holes_succ (n : Nat) : holes (n + 1) = .hole :: holes n := rfl
theorem holes_zero : holes 0 = [] := rfl
theorem wrap_wr (n : Int) : IntKind.i64.wrap n = wr n := rfl
theorem wr_id {n : Int} (h1 : -(2 ^ 63) ≤ n) (h2 : n < 2 ^ 63) : wr n = n := by
  unfold wr
  have e : IntKind.i64.wrap n = (n + 9223372036854775808) % 18446744073709551616 - 9223372036854775808 := by
    simp [IntKind.wrap, IntKind.bits, IntKind.signed]
    try (split <;> omega)
  rw [e]; omega
theorem mk23 (slot n : Nat) (h : n ≤ 4000000000000) : makeSliceA Tryd.prog slot 23 (.c (.d (.v (.int .i64 (n : Int))))) (.c (.d (.v (.int .i64 (n : Int))))) =
    some { res := .val (.c (.own slot)), upd := [(slot, .arr 4 (List.replicate n [.v (.int .i64 0), .v (.int .i64 0), .v (.string ⟨#[]⟩), .v (.slice none 0 0)]))] } := by
  simp only [makeSliceA, elemT_23, sizeT_25, bytesT_25, zeroT_25, num, toDs, toD, List.append_nil]
  rw [if_pos]
  · simp
  · refine ⟨by omega, by omega, by omega, ?_, by decide, rfl⟩
    omega
theorem storeA_ptr (P : Program) (look : Look) (t : TypeId) (id off : Nat) (x : V) : storeA P look t (.c (.ptr id off)) x =
    match cells x with
    | none => none
    | some ys => if sizeT P t = some ys.length then match look id with
      | some (.box cs) => if off + ys.length ≤ cs.length then some { res := .val (.c .any), upd := [(id, .box (over cs off ys))], rd := [id] } else none
      | _ => none
      else none := rfl
theorem toDs_cdC (look : Look) (y : Cd) : toDs look (cdC y) = some (encCd y, []) := by simp [cdC, toDs, toD, encCd_eq]
def stK (P : Program) (look : Look) (t : TypeId) (o : Option O) (id i off : Nat) (x : V) : Option Eff :=
  match cells x with
  | none => none
  | some ys => if sizeT P t = some ys.length then match o with
    | some (.arr k els) => match els[i]? with
      | some l => match toDs look ys with
        | some (ds, own) =>
          if off + ds.length ≤ l.length ∧ own.contains id = false then
            some { res := .val (.c .any), upd := kills own ++ [(id, .arr k (els.set i (l.take off ++ ds ++ l.drop (off + ds.length))))], rd := own ++ [id] }
          else none
        | none => none
      | none => none
    | _ => none
    else none
theorem storeA_ap (P : Program) (look : Look) (t : TypeId) (id i off : Nat) (x : V) : storeA P look t (.c (.ap id i off)) x = stK P look t (look id) id i off x := rfl
theorem stK_25 {look : Look} {id i : Nat} {els : List (List D)} {row : List D} (y : Cd) (hi : els[i]? = some row) (hr : row.length = 4) :
    stK Tryd.prog look 25 (some (.arr 4 els)) id i 0 (.agg [.d (.v (.int .i64 y.op)), .d (.v (.int .i64 y.n)), .d (.v (.string y.s)), .d (lD y)]) = some { res := .val (.c .any), upd := [(id, .arr 4 (els.set i (encCd y)))], rd := [id] } := by
  have e : row.drop 4 = [] := List.drop_eq_nil_of_le (by omega)
  simp [stK, cells, okC, sizeT_25, hi, toDs, toD, encCd_eq, kills, e, hr]
def zrow : List D := [.v (.int .i64 0), .v (.int .i64 0), .v (.string ⟨#[]⟩), .v (.slice none 0 0)]
/-- A loop that fills a list of as many codes. -/
theorem map_rounds (S : Int → List (List D) → Option Out) (ys : List Cd) (out : Option Out) (hn : ys.length < 2 ^ 62)
    (hstep : ∀ (k : Nat) (y' : Cd) (els : List (List D)) (row : List D), ys[k]? = some y' → els[k]? = some row → row.length = 4 → els.length = ys.length → S (wr ((k : Int) + 1)) (els.set k (encCd y')) = out → S k els = out)
    (hdone : S ys.length (ys.map encCd) = out) : S 0 (List.replicate ys.length zrow) = out := by
  have key : ∀ (m k : Nat), k + m = ys.length → S k ((ys.take k).map encCd ++ List.replicate m zrow) = out := by
    intro m
    induction m with
    | zero =>
      intro k hk
      rw [show k = ys.length by omega, List.take_of_length_le (Nat.le_refl _)]
      simpa using hdone
    | succ m ih =>
      intro k hk
      have hlt : k < ys.length := by omega
      refine hstep k ys[k] _ zrow (by simp [hlt]) ?_ rfl (by simp; omega) ?_
      · rw [List.getElem?_append_right (by simp; omega)]
        simp [Nat.min_eq_left (Nat.le_of_lt hlt)]
      · have := ih (k + 1) (by omega)
        rw [wr_id (by omega) (by omega)]
        have e : ((ys.take k).map encCd ++ List.replicate (m + 1) zrow).set k (encCd ys[k]) = (ys.take (k + 1)).map encCd ++ List.replicate m zrow := by
          rw [List.set_append_right _ _ (by simp; omega)]
          simp only [List.length_map, List.length_take, Nat.min_eq_left (Nat.le_of_lt hlt), Nat.sub_self, List.replicate_succ, List.set_cons_zero]
          rw [List.take_succ_eq_append_getElem hlt, List.map_append, List.append_assoc]
          rfl
        rw [e]
        exact_mod_cast this
  simpa using key ys.length 0 (by omega)
def Cd.size : Cd → Nat
  | .mk _ _ _ l _ => 1 + sizes l
where sizes : List Cd → Nat
  | [] => 0
  | x :: r => x.size + sizes r
theorem Cd.sizes_eq (l : List Cd) : Cd.size.sizes l = (l.map Cd.size).sum := by
  induction l with
  | nil => rfl
  | cons a r ih => simp [Cd.size.sizes, ih]
theorem Cd.size_eq (x : Cd) : x.size = 1 + (x.l.map Cd.size).sum := by
  cases x; simp [Cd.size, Cd.sizes_eq, Cd.l]
theorem Cd.size_pos (x : Cd) : 0 < x.size := by rw [x.size_eq]; omega
theorem le_sum {l : List Nat} {n : Nat} (h : n ∈ l) : n ≤ l.sum := by
  induction l with
  | nil => cases h
  | cons a r ih =>
    simp only [List.sum_cons]
    rcases List.mem_cons.1 h with rfl | h
    · omega
    · have := ih h; omega
theorem Cd.size_lt {x y : Cd} (h : y ∈ x.l) : y.size < x.size := by
  have := le_sum (List.mem_map.2 ⟨y, h, rfl⟩ : y.size ∈ x.l.map Cd.size)
  rw [x.size_eq]; omega
theorem len_le_sum : ∀ l : List Cd, l.length ≤ (l.map Cd.size).sum
  | [] => Nat.le_refl _
  | a :: r => by have := len_le_sum r; have := a.size_pos; simp; omega
theorem Cd.len_lt (x : Cd) : x.l.length < x.size := by
  have := len_le_sum x.l
  rw [x.size_eq]; omega
/-- The rules of a step. -/
def zS := And.intro @lenA_lD <| And.intro @lenA_listD <| And.intro @wrap_wr <| And.intro @callA_data <| And.intro @callOut_one <| And.intro @dataV_d <| And.intro @dataV_elt <| And.intro @dataV_fn <| And.intro @dataV_agg <| And.intro @dataC_d <| And.intro @dataC_elt <| And.intro @dataC_fn <| And.intro @r_seq <| And.intro @r_region <| And.intro @r_draw <| And.intro @drawK_some <| And.intro @afterDraw_some <| And.intro @r_ops_nil <| And.intro @r_block <| And.intro @r_loop <| And.intro @r_inBlock <| And.intro @r_skip <| And.intro @r_ret <| And.intro @r_end <| And.intro @r_op <| And.intro @r_opg <| And.intro @opK_true <| And.intro @opK_false <| And.intro @afterOp_val <| And.intro @afterOp_pan <| And.intro @r_cond <| And.intro @condK_true <| And.intro @condK_false <| And.intro @r_exit <| And.intro @exitK_some <| And.intro @exitA_code <| And.intro @exitA_loop <| And.intro @exitA_ops <| And.intro @exitA_block <| And.intro @dstOk_none <| And.intro @dstOk_some <| And.intro @lenA_s <| And.intro @lenA_nil <| And.intro @storeA_ptr <| And.intro @storeA_ap <| And.intro (@List.all_cons.{0}) <| And.intro (@List.all_nil.{0}) <| And.intro (@List.length_nil.{0}) <| And.intro (@List.length_cons.{0}) <| And.intro (@List.length_append.{0}) <| And.intro @Bool.and_self <| And.intro @Bool.and_true <| And.intro @Bool.true_and <| And.intro @Bool.not_true <| And.intro @Bool.not_false <| And.intro @decide_true <| And.intro @decide_false <| And.intro @Nat.lt_irrefl <| And.intro (@List.nil_append.{0}) <| And.intro (@List.cons_append.{0}) <| And.intro (@List.append_nil.{0}) <| And.intro (@List.map_cons.{0,0}) <| And.intro (@List.map_nil.{0,0}) <| And.intro (@List.getElem?_toArray.{0}) <| And.intro (@List.getElem?_cons_zero.{0}) <| And.intro (@List.getElem?_cons_succ.{0}) <| And.intro (@List.take_succ_cons.{0}) <| And.intro (@List.take_zero.{0}) <| And.intro (@List.drop_succ_cons.{0}) <| And.intro (@List.drop_zero.{0}) <| And.intro @Nat.sub_self <| And.intro (@List.replicate_zero.{0}) <| And.intro (@Option.map_some.{0,0}) <| And.intro (@Option.map_none.{0,0}) <| And.intro (@List.length_map.{0,0}) <| And.intro (@List.getElem?_map.{0,0}) <| And.intro @Nat.zero_add <| And.intro @Nat.add_zero <| And.intro @or_false <| And.intro @or_true <| And.intro @true_or <| And.intro @and_self <| And.intro @and_true <| And.intro @true_and <| And.intro @Bool.false_eq_true <| And.intro (@List.set_cons_zero.{0}) <| And.intro (@List.set_cons_succ.{0}) <| And.intro (@beq_self_eq_true.{0}) <| And.intro @beq_ft <| And.intro @beq_tf <| And.intro @ib_ne <| And.intro @ib_bne <| And.intro @ib_bne_self <| And.intro @not_false_eq_true <| @not_true_eq_false
end Go.Proofs.YtmjacokkgfophaaDoor.Am
end
section
/- The counting of nodes, by the reference. -/
namespace Go.Proofs.YtmjacokkgfophaaDoor.Am
open Go
variable (ext : Ext)
set_option maxHeartbeats 4000000
noncomputable def B34 : Code := (Tryd.f34.body.getD .skip)
noncomputable def L34 : Code := sub B34 [1, 1, 0, 1, 0, 0]
noncomputable def K34 : List It := [.inBlock 0, .code (sub B34 [1, 1, 1])]
theorem step34 (x y : Cd) (a b r : Int) (hi2 : b < x.l.length) (hi : 0 ≤ b) (hy : x.l[b.toNat]? = some y) (hr : run Tryd.prog ext (.call 34 [cdV y] []) = some (.ret [iV r] [])) (out : Option Out)
   (h : run Tryd.prog ext (.k ⟨21, 0, [.tmp 2]⟩ (.code L34 :: .inLoop L34 :: K34) [(1, .c (.ptr 0 0)), (3, iV (wr (a + r))), (4, iV (wr (b + 1)))] [.box (cdC x)]) = out) :
   run Tryd.prog ext (.k ⟨21, 0, [.tmp 2]⟩ (.code L34 :: .inLoop L34 :: K34) [(1, .c (.ptr 0 0)), (3, iV a), (4, iV b)] [.box (cdC x)]) = out := by
  rw [show (It.code L34) = It.code (sub B34 [1, 1, 0, 1, 0, 0]) from rfl]
  simp only [cdV, cdC, iV, lD_of_lt hi hi2] at hr h ⊢
  simp only [B34, K34, sub, Option.getD_some, Tryd.f34, ↓reduceIte, Nat.one_ne_zero]
  simp only [zS, wantedA, opA, eff, boxA, cells, ev, gt, pt, putO, updO, setO, okC, loadA, cutC, fieldAddrA, fieldA, indexAddrA, indexA, builtinA, callOpA, callV, target, ptrV, lenS, binA, intOp, strOp, unA, num, lk, over, allocA, pickA, buildA, fillA, convertA, extractA, ofComp, nilCheckA, makeFuncA, ptrs, ofValue, cellB, Nat.reduceAdd, Nat.reduceSub, Nat.reduceMul, Nat.reduceLT, Nat.reduceLeDiff, Nat.reduceGT, ↓reduceIte, Nat.reduceEqDiff, Nat.reduceBEq, reduceCtorEq, Int.reduceBEq, Int.reduceBNe, Int.reduceLT, Int.reduceLE, Int.reduceGT, Int.reduceGE, aggT_25, sizeT_25, bytesT_25, fieldT_25_0, fieldT_25_1, fieldT_25_2, fieldT_25_3, placesT_25, zeroT_25, aggT_23, sizeT_23, bytesT_23, und_23, elemT_23, zero1_23, zeroT_23, aggT_3, sizeT_3, bytesT_3, und_3, zero1_3, zeroT_3, aggT_4, sizeT_4, bytesT_4, und_4, zero1_4, zeroT_4, hi, hi2, hy, encCd_eq y, hr]
  refine (r_inLoop_some ?_).trans h
  kernel_rfl
theorem done34 (x : Cd) (a b : Int) (hi2 : ¬ b < x.l.length) :
   run Tryd.prog ext (.k ⟨21, 0, [.tmp 2]⟩ (.code L34 :: .inLoop L34 :: K34) [(1, .c (.ptr 0 0)), (3, iV a), (4, iV b)] [.box (cdC x)]) = some (.ret [iV a] []) := by
  rw [show (It.code L34) = It.code (sub B34 [1, 1, 0, 1, 0, 0]) from rfl]
  simp only [cdV, cdC, iV]
  simp only [B34, K34, sub, Option.getD_some, Tryd.f34, ↓reduceIte, Nat.one_ne_zero]
  simp only [zS, wantedA, opA, eff, boxA, cells, ev, gt, pt, putO, updO, setO, okC, loadA, cutC, fieldAddrA, fieldA, indexAddrA, indexA, builtinA, callOpA, callV, target, ptrV, lenS, binA, intOp, strOp, unA, num, lk, over, allocA, pickA, buildA, fillA, convertA, extractA, ofComp, nilCheckA, makeFuncA, ptrs, ofValue, cellB, Nat.reduceAdd, Nat.reduceSub, Nat.reduceMul, Nat.reduceLT, Nat.reduceLeDiff, Nat.reduceGT, ↓reduceIte, Nat.reduceEqDiff, Nat.reduceBEq, reduceCtorEq, Int.reduceBEq, Int.reduceBNe, Int.reduceLT, Int.reduceLE, Int.reduceGT, Int.reduceGE, aggT_25, sizeT_25, bytesT_25, fieldT_25_0, fieldT_25_1, fieldT_25_2, fieldT_25_3, placesT_25, zeroT_25, aggT_23, sizeT_23, bytesT_23, und_23, elemT_23, zero1_23, zeroT_23, aggT_3, sizeT_3, bytesT_3, und_3, zero1_3, zeroT_3, aggT_4, sizeT_4, bytesT_4, und_4, zero1_4, zeroT_4, hi2]
  refine finish_data (vs := [iV a]) rfl ?_ rfl
  kernel_rfl
theorem enter34 (hx : ext 34 = none) (x : Cd) (out : Option Out)
   (h : run Tryd.prog ext (.k ⟨21, 0, [.tmp 2]⟩ (.code L34 :: .inLoop L34 :: K34) [(1, .c (.ptr 0 0)), (3, iV 1), (4, iV 0)] [.box (cdC x)]) = out) :
   run Tryd.prog ext (.call 34 [cdV x] []) = out := by
  rw [run_eq]
  simp only [stepA, hx, Tryd.func34, Tryd.f34]
  simp only [List.length_cons, List.length_nil, Nat.reduceAdd, Nat.reduceLeDiff, ↓reduceIte, List.zipIdx_cons, List.zipIdx_nil, List.map_cons, List.map_nil]
  simp only [zS, wantedA, opA, eff, boxA, cells, ev, gt, pt, putO, updO, setO, okC, loadA, cutC, fieldAddrA, fieldA, indexAddrA, indexA, builtinA, callOpA, callV, target, ptrV, lenS, binA, intOp, strOp, unA, num, lk, over, allocA, pickA, buildA, fillA, convertA, extractA, ofComp, nilCheckA, makeFuncA, ptrs, ofValue, cellB, Nat.reduceAdd, Nat.reduceSub, Nat.reduceMul, Nat.reduceLT, Nat.reduceLeDiff, Nat.reduceGT, ↓reduceIte, Nat.reduceEqDiff, Nat.reduceBEq, reduceCtorEq, Int.reduceBEq, Int.reduceBNe, Int.reduceLT, Int.reduceLE, Int.reduceGT, Int.reduceGE, aggT_25, sizeT_25, bytesT_25, fieldT_25_0, fieldT_25_1, fieldT_25_2, fieldT_25_3, placesT_25, zeroT_25, aggT_23, sizeT_23, bytesT_23, und_23, elemT_23, zero1_23, zeroT_23, aggT_3, sizeT_3, bytesT_3, und_3, zero1_3, zeroT_3, aggT_4, sizeT_4, bytesT_4, und_4, zero1_4, zeroT_4, cdV, cdC]
  refine (r_inLoop_some ?_).trans h
  kernel_rfl
theorem rounds34 (x : Cd) (hs : x.size < 2 ^ 62) (hr : ∀ y ∈ x.l, run Tryd.prog ext (.call 34 [cdV y] []) = some (.ret [iV y.size] [])) : ∀ (m k a : Nat), k + m = x.l.length → a + ((x.l.drop k).map Cd.size).sum = x.size →
   run Tryd.prog ext (.k ⟨21, 0, [.tmp 2]⟩ (.code L34 :: .inLoop L34 :: K34) [(1, .c (.ptr 0 0)), (3, iV a), (4, iV k)] [.box (cdC x)]) = some (.ret [iV x.size] [])
  | 0, k, a, hk, ha => by
    rw [List.drop_eq_nil_of_le (by omega)] at ha
    rw [done34 ext x a k (by omega)]
    simp at ha
    rw [ha]
  | m + 1, k, a, hk, ha => by
    have hlt : k < x.l.length := by omega
    have hd : x.l.drop k = x.l[k] :: x.l.drop (k + 1) := List.drop_eq_getElem_cons hlt
    have hl := x.len_lt
    rw [hd, List.map_cons, List.sum_cons] at ha
    refine step34 ext x (x.l[k]) a k x.l[k].size (by omega) (by omega) (by simp [hlt]) (hr _ (List.getElem_mem hlt)) _ ?_
    have := rounds34 x hs hr m (k + 1) (a + x.l[k].size) (by omega) (by omega)
    rw [wr_id (by omega) (by omega), wr_id (by omega) (by omega)]
    simpa using this
theorem size34 (hx : ext 34 = none) : ∀ (n : Nat) (x : Cd), x.size ≤ n → n < 2 ^ 62 → run Tryd.prog ext (.call 34 [cdV x] []) = some (.ret [iV x.size] [])
  | 0, x, h, _ => by have := x.size_pos; omega
  | n + 1, x, h, hn => by
    refine enter34 ext hx x _ ?_
    have := rounds34 ext x (by omega) (fun y hy => size34 hx n y (by have := Cd.size_lt hy; omega) (by omega)) x.l.length 0 1 (by omega) (by rw [List.drop_zero, x.size_eq])
    simpa using this
end Go.Proofs.YtmjacokkgfophaaDoor.Am
end
section
/- The counting of nodes in the statement: it comes to some number. -/
namespace Go.Proofs.YtmjacokkgfophaaDoor.Am
open Go
variable (ext : Ext)
set_option maxHeartbeats 4000000
noncomputable def B12 : Code := (Tryd.f12.body.getD .skip)
noncomputable def L12 : Code := sub B12 [1, 1, 0, 1, 0, 0]
noncomputable def K12 : List It := [.inBlock 0, .code (sub B12 [1, 1, 1])]
def cdsV (z : Bool) (l : List Cd) : V := .c (.d (listD z (l.map encCd)))
theorem round12 (z : Bool) (l : List Cd) (y : Cd) (m a b r : Int) (hi2 : b < l.length) (hm : a ≤ m) (hs : ¬ (y.s.size : Int) > 200) (hi : 0 ≤ b) (hy : l[b.toNat]? = some y) (hr : run Tryd.prog ext (.call 12 [cdsV y.z y.l, iV (wr (m - a))] []) = some (.ret [iV r] [])) (out : Option Out)
   (h : run Tryd.prog ext (.k ⟨40, 0, [.tmp 4]⟩ (.code L12 :: .inLoop L12 :: K12) [(0, cdsV z l), (1, iV m), (5, iV (wr (wr (a + 1) + r))), (6, iV (wr (b + 1)))] []) = out) :
   run Tryd.prog ext (.k ⟨40, 0, [.tmp 4]⟩ (.code L12 :: .inLoop L12 :: K12) [(0, cdsV z l), (1, iV m), (5, iV a), (6, iV b)] []) = out := by
  rw [show (It.code L12) = It.code (sub B12 [1, 1, 0, 1, 0, 0]) from rfl]
  have e1 : listD y.z (y.l.map encCd) = lD y := id rfl
  simp only [cdsV, iV, listD_of_lt hi hi2, e1] at hr h ⊢
  simp only [B12, K12, sub, Option.getD_some, Tryd.f12, ↓reduceIte, Nat.one_ne_zero]
  simp only [zS, wantedA, opA, eff, boxA, cells, ev, gt, pt, putO, updO, setO, okC, loadA, cutC, fieldAddrA, fieldA, indexAddrA, indexA, builtinA, callOpA, callV, target, ptrV, lenS, binA, intOp, strOp, unA, num, lk, over, allocA, pickA, buildA, fillA, convertA, extractA, ofComp, nilCheckA, makeFuncA, ptrs, ofValue, cellB, Nat.reduceAdd, Nat.reduceSub, Nat.reduceMul, Nat.reduceLT, Nat.reduceLeDiff, Nat.reduceGT, ↓reduceIte, Nat.reduceEqDiff, Nat.reduceBEq, reduceCtorEq, Int.reduceBEq, Int.reduceBNe, Int.reduceLT, Int.reduceLE, Int.reduceGT, Int.reduceGE, aggT_25, sizeT_25, bytesT_25, fieldT_25_0, fieldT_25_1, fieldT_25_2, fieldT_25_3, placesT_25, zeroT_25, aggT_23, sizeT_23, bytesT_23, und_23, elemT_23, zero1_23, zeroT_23, aggT_3, sizeT_3, bytesT_3, und_3, zero1_3, zeroT_3, aggT_4, sizeT_4, bytesT_4, und_4, zero1_4, zeroT_4, aggT_9, sizeT_9, bytesT_9, und_9, zero1_9, zeroT_9, hi, hi2, hy, encCd_eq y, hs, hm, hr]
  refine (r_inLoop_some ?_).trans h
  kernel_rfl
theorem long12 (z : Bool) (l : List Cd) (y : Cd) (m a b : Int) (hi2 : b < l.length) (hm : a ≤ m) (hs : (y.s.size : Int) > 200) (hi : 0 ≤ b) (hy : l[b.toNat]? = some y) :
   run Tryd.prog ext (.k ⟨40, 0, [.tmp 4]⟩ (.code L12 :: .inLoop L12 :: K12) [(0, cdsV z l), (1, iV m), (5, iV a), (6, iV b)] []) = some (.ret [iV (wr (m + 1))] []) := by
  rw [show (It.code L12) = It.code (sub B12 [1, 1, 0, 1, 0, 0]) from rfl]
  simp only [cdsV, iV, listD_of_lt hi hi2]
  simp only [B12, K12, sub, Option.getD_some, Tryd.f12, ↓reduceIte, Nat.one_ne_zero]
  simp only [zS, wantedA, opA, eff, boxA, cells, ev, gt, pt, putO, updO, setO, okC, loadA, cutC, fieldAddrA, fieldA, indexAddrA, indexA, builtinA, callOpA, callV, target, ptrV, lenS, binA, intOp, strOp, unA, num, lk, over, allocA, pickA, buildA, fillA, convertA, extractA, ofComp, nilCheckA, makeFuncA, ptrs, ofValue, cellB, Nat.reduceAdd, Nat.reduceSub, Nat.reduceMul, Nat.reduceLT, Nat.reduceLeDiff, Nat.reduceGT, ↓reduceIte, Nat.reduceEqDiff, Nat.reduceBEq, reduceCtorEq, Int.reduceBEq, Int.reduceBNe, Int.reduceLT, Int.reduceLE, Int.reduceGT, Int.reduceGE, aggT_25, sizeT_25, bytesT_25, fieldT_25_0, fieldT_25_1, fieldT_25_2, fieldT_25_3, placesT_25, zeroT_25, aggT_23, sizeT_23, bytesT_23, und_23, elemT_23, zero1_23, zeroT_23, aggT_3, sizeT_3, bytesT_3, und_3, zero1_3, zeroT_3, aggT_4, sizeT_4, bytesT_4, und_4, zero1_4, zeroT_4, aggT_9, sizeT_9, bytesT_9, und_9, zero1_9, zeroT_9, hi, hi2, hy, encCd_eq y, hs, hm]
  refine finish_data (vs := [iV (wr (m + 1))]) rfl ?_ rfl
  kernel_rfl
theorem over12 (z : Bool) (l : List Cd) (m a b : Int) (h : ¬ b < l.length ∨ ¬ a ≤ m) :
   run Tryd.prog ext (.k ⟨40, 0, [.tmp 4]⟩ (.code L12 :: .inLoop L12 :: K12) [(0, cdsV z l), (1, iV m), (5, iV a), (6, iV b)] []) = some (.ret [iV a] []) := by
  rw [show (It.code L12) = It.code (sub B12 [1, 1, 0, 1, 0, 0]) from rfl]
  simp only [cdsV, iV]
  simp only [B12, K12, sub, Option.getD_some, Tryd.f12, ↓reduceIte, Nat.one_ne_zero]
  by_cases h1 : b < l.length
  · have h2 : ¬ a ≤ m := by rcases h with h | h; exact absurd h1 h; exact h
    simp only [zS, wantedA, opA, eff, boxA, cells, ev, gt, pt, putO, updO, setO, okC, loadA, cutC, fieldAddrA, fieldA, indexAddrA, indexA, builtinA, callOpA, callV, target, ptrV, lenS, binA, intOp, strOp, unA, num, lk, over, allocA, pickA, buildA, fillA, convertA, extractA, ofComp, nilCheckA, makeFuncA, ptrs, ofValue, cellB, Nat.reduceAdd, Nat.reduceSub, Nat.reduceMul, Nat.reduceLT, Nat.reduceLeDiff, Nat.reduceGT, ↓reduceIte, Nat.reduceEqDiff, Nat.reduceBEq, reduceCtorEq, Int.reduceBEq, Int.reduceBNe, Int.reduceLT, Int.reduceLE, Int.reduceGT, Int.reduceGE, aggT_25, sizeT_25, bytesT_25, fieldT_25_0, fieldT_25_1, fieldT_25_2, fieldT_25_3, placesT_25, zeroT_25, aggT_23, sizeT_23, bytesT_23, und_23, elemT_23, zero1_23, zeroT_23, aggT_3, sizeT_3, bytesT_3, und_3, zero1_3, zeroT_3, aggT_4, sizeT_4, bytesT_4, und_4, zero1_4, zeroT_4, aggT_9, sizeT_9, bytesT_9, und_9, zero1_9, zeroT_9, h1, h2]
    refine finish_data (vs := [iV a]) rfl ?_ rfl
    kernel_rfl
  · simp only [zS, wantedA, opA, eff, boxA, cells, ev, gt, pt, putO, updO, setO, okC, loadA, cutC, fieldAddrA, fieldA, indexAddrA, indexA, builtinA, callOpA, callV, target, ptrV, lenS, binA, intOp, strOp, unA, num, lk, over, allocA, pickA, buildA, fillA, convertA, extractA, ofComp, nilCheckA, makeFuncA, ptrs, ofValue, cellB, Nat.reduceAdd, Nat.reduceSub, Nat.reduceMul, Nat.reduceLT, Nat.reduceLeDiff, Nat.reduceGT, ↓reduceIte, Nat.reduceEqDiff, Nat.reduceBEq, reduceCtorEq, Int.reduceBEq, Int.reduceBNe, Int.reduceLT, Int.reduceLE, Int.reduceGT, Int.reduceGE, aggT_25, sizeT_25, bytesT_25, fieldT_25_0, fieldT_25_1, fieldT_25_2, fieldT_25_3, placesT_25, zeroT_25, aggT_23, sizeT_23, bytesT_23, und_23, elemT_23, zero1_23, zeroT_23, aggT_3, sizeT_3, bytesT_3, und_3, zero1_3, zeroT_3, aggT_4, sizeT_4, bytesT_4, und_4, zero1_4, zeroT_4, aggT_9, sizeT_9, bytesT_9, und_9, zero1_9, zeroT_9, h1]
    refine finish_data (vs := [iV a]) rfl ?_ rfl
    kernel_rfl
theorem enter12 (hx : ext 12 = none) (z : Bool) (l : List Cd) (m : Int) (out : Option Out)
   (h : run Tryd.prog ext (.k ⟨40, 0, [.tmp 4]⟩ (.code L12 :: .inLoop L12 :: K12) [(0, cdsV z l), (1, iV m), (5, iV 0), (6, iV 0)] []) = out) :
   run Tryd.prog ext (.call 12 [cdsV z l, iV m] []) = out := by
  rw [run_eq]
  simp only [stepA, hx, Tryd.func12, Tryd.f12]
  simp only [List.length_cons, List.length_nil, Nat.reduceAdd, Nat.reduceLeDiff, ↓reduceIte, List.zipIdx_cons, List.zipIdx_nil, List.map_cons, List.map_nil]
  simp only [zS, wantedA, opA, eff, boxA, cells, ev, gt, pt, putO, updO, setO, okC, loadA, cutC, fieldAddrA, fieldA, indexAddrA, indexA, builtinA, callOpA, callV, target, ptrV, lenS, binA, intOp, strOp, unA, num, lk, over, allocA, pickA, buildA, fillA, convertA, extractA, ofComp, nilCheckA, makeFuncA, ptrs, ofValue, cellB, Nat.reduceAdd, Nat.reduceSub, Nat.reduceMul, Nat.reduceLT, Nat.reduceLeDiff, Nat.reduceGT, ↓reduceIte, Nat.reduceEqDiff, Nat.reduceBEq, reduceCtorEq, Int.reduceBEq, Int.reduceBNe, Int.reduceLT, Int.reduceLE, Int.reduceGT, Int.reduceGE, aggT_25, sizeT_25, bytesT_25, fieldT_25_0, fieldT_25_1, fieldT_25_2, fieldT_25_3, placesT_25, zeroT_25, aggT_23, sizeT_23, bytesT_23, und_23, elemT_23, zero1_23, zeroT_23, aggT_3, sizeT_3, bytesT_3, und_3, zero1_3, zeroT_3, aggT_4, sizeT_4, bytesT_4, und_4, zero1_4, zeroT_4, cdsV, iV]
  refine (r_inLoop_some ?_).trans h
  kernel_rfl
/-- It comes to a number, if no list is longer than memory. -/
theorem nodes12 (hx : ext 12 = none) : ∀ (n : Nat) (z : Bool) (l : List Cd) (m : Int), (l.map Cd.size).sum ≤ n → n < 2 ^ 62 → ∃ r, run Tryd.prog ext (.call 12 [cdsV z l, iV m] []) = some (.ret [iV r] []) := by
  intro n
  induction n using Nat.strongRecOn with
  | _ n ih =>
    intro z l m hl hn
    have hll := len_le_sum l
    have key : ∀ (j k : Nat) (a : Int), k + j = l.length → ∃ r, run Tryd.prog ext (.k ⟨40, 0, [.tmp 4]⟩ (.code L12 :: .inLoop L12 :: K12) [(0, cdsV z l), (1, iV m), (5, iV a), (6, iV k)] []) = some (.ret [iV r] []) := by
      intro j
      induction j with
      | zero => intro k a hk; exact ⟨a, over12 ext z l m a k (.inl (by omega))⟩
      | succ j ihj =>
        intro k a hk
        by_cases hm : a ≤ m
        · have hlt : k < l.length := by omega
          by_cases hs : ((l[k]).s.size : Int) > 200
          · exact ⟨_, long12 ext z l l[k] m a k (by omega) hm hs (by omega) (by simp [hlt])⟩
          · have hsz : (l[k]).size ≤ (l.map Cd.size).sum := le_sum (List.mem_map.2 ⟨_, List.getElem_mem hlt, rfl⟩)
            have he := (l[k]).size_eq
            obtain ⟨r, hr⟩ := ih (n - 1) (by have := (l[k]).size_pos; omega) (l[k]).z (l[k]).l (wr (m - a)) (by omega) (by omega)
            obtain ⟨r', hr'⟩ := ihj (k + 1) (wr (wr (a + 1) + r)) (by omega)
            refine ⟨r', round12 ext z l l[k] m a k r (by omega) hm hs (by omega) (by simp [hlt]) hr _ ?_⟩
            rw [wr_id (n := (k : Int) + 1) (by omega) (by omega)]
            simpa using hr'
        · exact ⟨a, over12 ext z l m a k (.inr hm)⟩
    obtain ⟨r, hr⟩ := key l.length 0 0 (by omega)
    exact ⟨r, enter12 ext hx z l m _ (by simpa using hr)⟩
end Go.Proofs.YtmjacokkgfophaaDoor.Am
end
section
/- The counting of nodes, by the program. -/
namespace Go.Proofs.YtmjacokkgfophaaDoor.Am
open Go
variable (ext : Ext)
set_option maxHeartbeats 4000000
noncomputable def B42 : Code := (Tryd.f42.body.getD .skip)
noncomputable def L42 : Code := sub B42 [1, 1, 0, 1, 0, 0]
noncomputable def K42 : List It := [.inBlock 0, .code (sub B42 [1, 1, 1])]
theorem step42 (x y : Cd) (a b r : Int) (hi2 : b < x.l.length) (hi : 0 ≤ b) (hy : x.l[b.toNat]? = some y) (hr : run Tryd.prog ext (.call 42 [cdV y] []) = some (.ret [iV r] [])) (out : Option Out)
   (h : run Tryd.prog ext (.k ⟨19, 0, [.tmp 2]⟩ (.code L42 :: .inLoop L42 :: K42) [(3, iV (wr (a + r))), (7, .c (.d (lD x))), (8, iV x.l.length), (9, iV (wr (b + 1)))] []) = out) :
   run Tryd.prog ext (.k ⟨19, 0, [.tmp 2]⟩ (.code L42 :: .inLoop L42 :: K42) [(3, iV a), (7, .c (.d (lD x))), (8, iV x.l.length), (9, iV b)] []) = out := by
  rw [show (It.code L42) = It.code (sub B42 [1, 1, 0, 1, 0, 0]) from rfl]
  simp only [cdV, cdC, iV, lD_of_lt hi hi2] at hr h ⊢
  simp only [B42, K42, sub, Option.getD_some, Tryd.f42, ↓reduceIte, Nat.one_ne_zero]
  simp only [zS, wantedA, opA, eff, boxA, cells, ev, gt, pt, putO, updO, setO, okC, loadA, cutC, fieldAddrA, fieldA, indexAddrA, indexA, builtinA, callOpA, callV, target, ptrV, lenS, binA, intOp, strOp, unA, num, lk, over, allocA, pickA, buildA, fillA, convertA, extractA, ofComp, nilCheckA, makeFuncA, ptrs, ofValue, cellB, Nat.reduceAdd, Nat.reduceSub, Nat.reduceMul, Nat.reduceLT, Nat.reduceLeDiff, Nat.reduceGT, ↓reduceIte, Nat.reduceEqDiff, Nat.reduceBEq, reduceCtorEq, Int.reduceBEq, Int.reduceBNe, Int.reduceLT, Int.reduceLE, Int.reduceGT, Int.reduceGE, aggT_25, sizeT_25, bytesT_25, fieldT_25_0, fieldT_25_1, fieldT_25_2, fieldT_25_3, placesT_25, zeroT_25, aggT_23, sizeT_23, bytesT_23, und_23, elemT_23, zero1_23, zeroT_23, aggT_3, sizeT_3, bytesT_3, und_3, zero1_3, zeroT_3, aggT_4, sizeT_4, bytesT_4, und_4, zero1_4, zeroT_4, hi, hi2, hy, encCd_eq y, hr]
  refine (r_inLoop_some ?_).trans h
  kernel_rfl
theorem done42 (x : Cd) (a b : Int) (hi2 : ¬ b < x.l.length) :
   run Tryd.prog ext (.k ⟨19, 0, [.tmp 2]⟩ (.code L42 :: .inLoop L42 :: K42) [(3, iV a), (7, .c (.d (lD x))), (8, iV x.l.length), (9, iV b)] []) = some (.ret [iV a] []) := by
  rw [show (It.code L42) = It.code (sub B42 [1, 1, 0, 1, 0, 0]) from rfl]
  simp only [cdV, cdC, iV]
  simp only [B42, K42, sub, Option.getD_some, Tryd.f42, ↓reduceIte, Nat.one_ne_zero]
  simp only [zS, wantedA, opA, eff, boxA, cells, ev, gt, pt, putO, updO, setO, okC, loadA, cutC, fieldAddrA, fieldA, indexAddrA, indexA, builtinA, callOpA, callV, target, ptrV, lenS, binA, intOp, strOp, unA, num, lk, over, allocA, pickA, buildA, fillA, convertA, extractA, ofComp, nilCheckA, makeFuncA, ptrs, ofValue, cellB, Nat.reduceAdd, Nat.reduceSub, Nat.reduceMul, Nat.reduceLT, Nat.reduceLeDiff, Nat.reduceGT, ↓reduceIte, Nat.reduceEqDiff, Nat.reduceBEq, reduceCtorEq, Int.reduceBEq, Int.reduceBNe, Int.reduceLT, Int.reduceLE, Int.reduceGT, Int.reduceGE, aggT_25, sizeT_25, bytesT_25, fieldT_25_0, fieldT_25_1, fieldT_25_2, fieldT_25_3, placesT_25, zeroT_25, aggT_23, sizeT_23, bytesT_23, und_23, elemT_23, zero1_23, zeroT_23, aggT_3, sizeT_3, bytesT_3, und_3, zero1_3, zeroT_3, aggT_4, sizeT_4, bytesT_4, und_4, zero1_4, zeroT_4, hi2]
  refine finish_data (vs := [iV a]) rfl ?_ rfl
  kernel_rfl
theorem enter42 (hx : ext 42 = none) (x : Cd) (out : Option Out)
   (h : run Tryd.prog ext (.k ⟨19, 0, [.tmp 2]⟩ (.code L42 :: .inLoop L42 :: K42) [(3, iV 1), (7, .c (.d (lD x))), (8, iV x.l.length), (9, iV 0)] []) = out) :
   run Tryd.prog ext (.call 42 [cdV x] []) = out := by
  rw [run_eq]
  simp only [stepA, hx, Tryd.func42, Tryd.f42]
  simp only [List.length_cons, List.length_nil, Nat.reduceAdd, Nat.reduceLeDiff, ↓reduceIte, List.zipIdx_cons, List.zipIdx_nil, List.map_cons, List.map_nil]
  simp only [zS, wantedA, opA, eff, boxA, cells, ev, gt, pt, putO, updO, setO, okC, loadA, cutC, fieldAddrA, fieldA, indexAddrA, indexA, builtinA, callOpA, callV, target, ptrV, lenS, binA, intOp, strOp, unA, num, lk, over, allocA, pickA, buildA, fillA, convertA, extractA, ofComp, nilCheckA, makeFuncA, ptrs, ofValue, cellB, Nat.reduceAdd, Nat.reduceSub, Nat.reduceMul, Nat.reduceLT, Nat.reduceLeDiff, Nat.reduceGT, ↓reduceIte, Nat.reduceEqDiff, Nat.reduceBEq, reduceCtorEq, Int.reduceBEq, Int.reduceBNe, Int.reduceLT, Int.reduceLE, Int.reduceGT, Int.reduceGE, aggT_25, sizeT_25, bytesT_25, fieldT_25_0, fieldT_25_1, fieldT_25_2, fieldT_25_3, placesT_25, zeroT_25, aggT_23, sizeT_23, bytesT_23, und_23, elemT_23, zero1_23, zeroT_23, aggT_3, sizeT_3, bytesT_3, und_3, zero1_3, zeroT_3, aggT_4, sizeT_4, bytesT_4, und_4, zero1_4, zeroT_4, cdV, cdC]
  refine (r_inLoop_some ?_).trans h
  kernel_rfl
theorem rounds42 (x : Cd) (hs : x.size < 2 ^ 62) (hr : ∀ y ∈ x.l, run Tryd.prog ext (.call 42 [cdV y] []) = some (.ret [iV y.size] [])) : ∀ (m k a : Nat), k + m = x.l.length → a + ((x.l.drop k).map Cd.size).sum = x.size →
   run Tryd.prog ext (.k ⟨19, 0, [.tmp 2]⟩ (.code L42 :: .inLoop L42 :: K42) [(3, iV a), (7, .c (.d (lD x))), (8, iV x.l.length), (9, iV k)] []) = some (.ret [iV x.size] [])
  | 0, k, a, hk, ha => by
    rw [List.drop_eq_nil_of_le (by omega)] at ha
    rw [done42 ext x a k (by omega)]
    simp at ha
    rw [ha]
  | m + 1, k, a, hk, ha => by
    have hlt : k < x.l.length := by omega
    have hd : x.l.drop k = x.l[k] :: x.l.drop (k + 1) := List.drop_eq_getElem_cons hlt
    have hl := x.len_lt
    rw [hd, List.map_cons, List.sum_cons] at ha
    refine step42 ext x (x.l[k]) a k x.l[k].size (by omega) (by omega) (by simp [hlt]) (hr _ (List.getElem_mem hlt)) _ ?_
    have := rounds42 x hs hr m (k + 1) (a + x.l[k].size) (by omega) (by omega)
    rw [wr_id (by omega) (by omega), wr_id (by omega) (by omega)]
    simpa using this
theorem size42 (hx : ext 42 = none) : ∀ (n : Nat) (x : Cd), x.size ≤ n → n < 2 ^ 62 → run Tryd.prog ext (.call 42 [cdV x] []) = some (.ret [iV x.size] [])
  | 0, x, h, _ => by have := x.size_pos; omega
  | n + 1, x, h, hn => by
    refine enter42 ext hx x _ ?_
    have := rounds42 ext x (by omega) (fun y hy => size42 hx n y (by have := Cd.size_lt hy; omega) (by omega)) x.l.length 0 1 (by omega) (by rw [List.drop_zero, x.size_eq])
    simpa using this
end Go.Proofs.YtmjacokkgfophaaDoor.Am
end
section
/- The smallest makers of codes: box and op. -/
namespace Go.Proofs.YtmjacokkgfophaaDoor.Am
open Go
variable (ext : Ext)
set_option maxHeartbeats 4000000
theorem box28 (hx : ext 28 = none) : run Tryd.prog ext (.call 28 [] []) = some (.ret [cdV (.mk 7 0 ⟨#[]⟩ [] true)] []) := by
  rw [run_eq]
  simp only [stepA, hx, Tryd.func28, Tryd.f28]
  simp only [List.length_cons, List.length_nil, Nat.reduceAdd, Nat.reduceLeDiff, Nat.zero_le, ↓reduceIte, List.zipIdx_cons, List.zipIdx_nil, List.map_cons, List.map_nil]
  simp only [zS, wantedA, opA, eff, boxA, cells, ev, gt, pt, putO, updO, setO, okC, loadA, cutC, fieldAddrA, fieldA, indexAddrA, indexA, builtinA, callOpA, callV, target, ptrV, lenS, binA, intOp, strOp, unA, num, lk, over, allocA, pickA, buildA, fillA, convertA, extractA, ofComp, nilCheckA, makeFuncA, ptrs, ofValue, cellB, Nat.reduceAdd, Nat.reduceSub, Nat.reduceMul, Nat.reduceLT, Nat.reduceLeDiff, Nat.reduceGT, ↓reduceIte, Nat.reduceEqDiff, Nat.reduceBEq, reduceCtorEq, Int.reduceBEq, Int.reduceBNe, Int.reduceLT, Int.reduceLE, Int.reduceGT, Int.reduceGE, aggT_25, sizeT_25, bytesT_25, fieldT_25_0, fieldT_25_1, fieldT_25_2, fieldT_25_3, placesT_25, zeroT_25, aggT_23, sizeT_23, bytesT_23, und_23, elemT_23, zero1_23, zeroT_23, aggT_3, sizeT_3, bytesT_3, und_3, zero1_3, zeroT_3, aggT_4, sizeT_4, bytesT_4, und_4, zero1_4, zeroT_4]
  refine finish_data (vs := [cdV (.mk 7 0 ⟨#[]⟩ [] true)]) rfl ?_ rfl
  kernel_rfl
end Go.Proofs.YtmjacokkgfophaaDoor.Am
end
section
/- shift: adds to the free variables of a code. -/
namespace Go.Proofs.YtmjacokkgfophaaDoor.Am
open Go
variable (ext : Ext)
set_option maxHeartbeats 4000000
def Cd.shift (by_ : Int) : Cd → Int → Cd
  | .mk op n s l z, f =>
    if op = 1 then .mk op (if n ≥ f then wr (n + by_) else n) s l z
    else .mk op n s (shifts by_ l (if op = 2 then wr (f + 1) else f)) z
where shifts (by_ : Int) : List Cd → Int → List Cd
  | [], _ => []
  | x :: r, f => x.shift by_ f :: shifts by_ r f
theorem Cd.shifts_eq (b f : Int) (l : List Cd) : Cd.shift.shifts b l f = l.map (fun x => x.shift b f) := by
  induction l with
  | nil => rfl
  | cons a r ih => simp [Cd.shift.shifts, ih]
noncomputable def B44 : Code := (Tryd.f44.body.getD .skip)
noncomputable def L44 : Code := sub B44 [1, 1, 1, 1, 1, 1, 0, 1, 0, 0]
noncomputable def K44 : List It := [.inBlock 0, .code (sub B44 [1, 1, 1, 1, 1, 1, 1])]
def E44 (x : Cd) (b g : Int) (k : Int) : Env := [(1, iV b), (3, .c (.ptr 0 0)), (6, .c (.ptr 1 0)), (7, .c (.own 2)), (8, iV g), (40, .c (.d (lD x))), (41, iV x.l.length), (42, iV k)]
def O44 (x : Cd) (els : List (List D)) : List O := [.box (cdC x), .box (zrow.map .d), .arr 4 els]
theorem enter44 (hx : ext 44 = none) (x : Cd) (b f : Int) (out : Option Out) (h1 : ¬ x.op = 1) (h2 : ¬ (x.l.length : Int) = 0) (hn : x.l.length ≤ 4000000000000)
   (h : run Tryd.prog ext (.k ⟨58, 0, [.cell 6 25]⟩ (.code L44 :: .inLoop L44 :: K44) (E44 x b (if x.op = 2 then wr (f + 1) else f) 0) (O44 x (List.replicate x.l.length zrow))) = out) :
   run Tryd.prog ext (.call 44 [cdV x, iV b, iV f] []) = out := by
  rw [run_eq]
  simp only [stepA, hx, Tryd.func44, Tryd.f44]
  simp only [List.length_cons, List.length_nil, Nat.reduceAdd, Nat.reduceLeDiff, ↓reduceIte, List.zipIdx_cons, List.zipIdx_nil, List.map_cons, List.map_nil]
  by_cases h3 : x.op = 2
  · rw [if_pos h3] at h
    simp only [zS, wantedA, opA, eff, boxA, cells, ev, gt, pt, putO, updO, setO, okC, loadA, cutC, fieldAddrA, fieldA, indexAddrA, indexA, builtinA, callOpA, callV, target, ptrV, lenS, binA, intOp, strOp, unA, num, lk, over, allocA, pickA, buildA, fillA, convertA, extractA, ofComp, nilCheckA, makeFuncA, ptrs, ofValue, cellB, Nat.reduceAdd, Nat.reduceSub, Nat.reduceMul, Nat.reduceLT, Nat.reduceLeDiff, Nat.reduceGT, ↓reduceIte, Nat.reduceEqDiff, Nat.reduceBEq, reduceCtorEq, Int.reduceBEq, Int.reduceBNe, Int.reduceLT, Int.reduceLE, Int.reduceGT, Int.reduceGE, aggT_25, sizeT_25, bytesT_25, fieldT_25_0, fieldT_25_1, fieldT_25_2, fieldT_25_3, placesT_25, zeroT_25, aggT_23, sizeT_23, bytesT_23, und_23, elemT_23, zero1_23, zeroT_23, aggT_3, sizeT_3, bytesT_3, und_3, zero1_3, zeroT_3, aggT_4, sizeT_4, bytesT_4, und_4, zero1_4, zeroT_4, cdV, cdC, iV, h1, h2, h3, mk23, hn]
    simp only [E44, O44, cdC, h3] at h
    refine (r_inLoop_some ?_).trans h
    kernel_rfl
  · rw [if_neg h3] at h
    simp only [zS, wantedA, opA, eff, boxA, cells, ev, gt, pt, putO, updO, setO, okC, loadA, cutC, fieldAddrA, fieldA, indexAddrA, indexA, builtinA, callOpA, callV, target, ptrV, lenS, binA, intOp, strOp, unA, num, lk, over, allocA, pickA, buildA, fillA, convertA, extractA, ofComp, nilCheckA, makeFuncA, ptrs, ofValue, cellB, Nat.reduceAdd, Nat.reduceSub, Nat.reduceMul, Nat.reduceLT, Nat.reduceLeDiff, Nat.reduceGT, ↓reduceIte, Nat.reduceEqDiff, Nat.reduceBEq, reduceCtorEq, Int.reduceBEq, Int.reduceBNe, Int.reduceLT, Int.reduceLE, Int.reduceGT, Int.reduceGE, aggT_25, sizeT_25, bytesT_25, fieldT_25_0, fieldT_25_1, fieldT_25_2, fieldT_25_3, placesT_25, zeroT_25, aggT_23, sizeT_23, bytesT_23, und_23, elemT_23, zero1_23, zeroT_23, aggT_3, sizeT_3, bytesT_3, und_3, zero1_3, zeroT_3, aggT_4, sizeT_4, bytesT_4, und_4, zero1_4, zeroT_4, cdV, cdC, iV, h1, h2, h3, mk23, hn]
    refine (r_inLoop_some ?_).trans h
    kernel_rfl
theorem step44 (x y y' : Cd) (b g k : Int) (els : List (List D)) (row : List D) (h1 : k < x.l.length) (h0 : 0 ≤ k) (hy : x.l[k.toNat]? = some y) (hr : run Tryd.prog ext (.call 44 [cdV y, iV b, iV g] []) = some (.ret [cdV y'] []))
   (he : els[k.toNat]? = some row) (hw : row.length = 4) (hl : k < els.length) (out : Option Out)
   (h : run Tryd.prog ext (.k ⟨58, 0, [.cell 6 25]⟩ (.code L44 :: .inLoop L44 :: K44) (E44 x b g (wr (k + 1))) (O44 x (els.set k.toNat (encCd y')))) = out) :
   run Tryd.prog ext (.k ⟨58, 0, [.cell 6 25]⟩ (.code L44 :: .inLoop L44 :: K44) (E44 x b g k) (O44 x els)) = out := by
  rw [show (It.code L44) = It.code (sub B44 [1, 1, 1, 1, 1, 1, 0, 1, 0, 0]) from rfl]
  simp only [E44, O44, cdV, cdC, iV, lD_of_lt h0 h1, zrow, List.map_cons, List.map_nil] at hr h ⊢
  simp only [B44, sub, Option.getD_some, Tryd.f44, ↓reduceIte, Nat.one_ne_zero]
  simp only [zS, wantedA, opA, eff, boxA, cells, ev, gt, pt, putO, updO, setO, okC, loadA, cutC, fieldAddrA, fieldA, indexAddrA, indexA, builtinA, callOpA, callV, target, ptrV, lenS, binA, intOp, strOp, unA, num, lk, over, allocA, pickA, buildA, fillA, convertA, extractA, ofComp, nilCheckA, makeFuncA, ptrs, ofValue, cellB, Nat.reduceAdd, Nat.reduceSub, Nat.reduceMul, Nat.reduceLT, Nat.reduceLeDiff, Nat.reduceGT, ↓reduceIte, Nat.reduceEqDiff, Nat.reduceBEq, reduceCtorEq, Int.reduceBEq, Int.reduceBNe, Int.reduceLT, Int.reduceLE, Int.reduceGT, Int.reduceGE, aggT_25, sizeT_25, bytesT_25, fieldT_25_0, fieldT_25_1, fieldT_25_2, fieldT_25_3, placesT_25, zeroT_25, aggT_23, sizeT_23, bytesT_23, und_23, elemT_23, zero1_23, zeroT_23, aggT_3, sizeT_3, bytesT_3, und_3, zero1_3, zeroT_3, aggT_4, sizeT_4, bytesT_4, und_4, zero1_4, zeroT_4, h0, h1, hl, hy, encCd_eq y, hr, stK_25 y' he hw]
  refine (r_inLoop_some ?_).trans h
  kernel_rfl
theorem done44 (x : Cd) (b g k : Int) (els : List (List D)) (h1 : ¬ k < x.l.length) :
   run Tryd.prog ext (.k ⟨58, 0, [.cell 6 25]⟩ (.code L44 :: .inLoop L44 :: K44) (E44 x b g k) (O44 x els)) = some (.ret [.agg [.d (.v (.int .i64 x.op)), .d (.v (.int .i64 x.n)), .d (.v (.string x.s)), .d (.s 4 els)]] []) := by
  rw [show (It.code L44) = It.code (sub B44 [1, 1, 1, 1, 1, 1, 0, 1, 0, 0]) from rfl]
  simp only [E44, O44, cdV, cdC, iV, zrow, List.map_cons, List.map_nil]
  simp only [B44, K44, sub, Option.getD_some, Tryd.f44, ↓reduceIte, Nat.one_ne_zero]
  simp only [zS, wantedA, opA, eff, boxA, cells, ev, gt, pt, putO, updO, setO, okC, loadA, cutC, fieldAddrA, fieldA, indexAddrA, indexA, builtinA, callOpA, callV, target, ptrV, lenS, binA, intOp, strOp, unA, num, lk, over, allocA, pickA, buildA, fillA, convertA, extractA, ofComp, nilCheckA, makeFuncA, ptrs, ofValue, cellB, Nat.reduceAdd, Nat.reduceSub, Nat.reduceMul, Nat.reduceLT, Nat.reduceLeDiff, Nat.reduceGT, ↓reduceIte, Nat.reduceEqDiff, Nat.reduceBEq, reduceCtorEq, Int.reduceBEq, Int.reduceBNe, Int.reduceLT, Int.reduceLE, Int.reduceGT, Int.reduceGE, aggT_25, sizeT_25, bytesT_25, fieldT_25_0, fieldT_25_1, fieldT_25_2, fieldT_25_3, placesT_25, zeroT_25, aggT_23, sizeT_23, bytesT_23, und_23, elemT_23, zero1_23, zeroT_23, aggT_3, sizeT_3, bytesT_3, und_3, zero1_3, zeroT_3, aggT_4, sizeT_4, bytesT_4, und_4, zero1_4, zeroT_4, h1]
  kernel_rfl
theorem Cd.shift_eq (b f : Int) (x : Cd) : x.shift b f = if x.op = 1 then .mk x.op (if x.n ≥ f then wr (x.n + b) else x.n) x.s x.l x.z else .mk x.op x.n x.s (x.l.map fun y => y.shift b (if x.op = 2 then wr (f + 1) else f)) x.z := by
  cases x; simp only [Cd.shift, Cd.shifts_eq, Cd.op, Cd.n, Cd.s, Cd.l, Cd.z]; rfl
theorem var44 (hx : ext 44 = none) (x : Cd) (b f : Int) (h1 : x.op = 1) : run Tryd.prog ext (.call 44 [cdV x, iV b, iV f] []) = some (.ret [cdV (x.shift b f)] []) := by
  rw [run_eq]
  simp only [stepA, hx, Tryd.func44, Tryd.f44]
  simp only [List.length_cons, List.length_nil, Nat.reduceAdd, Nat.reduceLeDiff, ↓reduceIte, List.zipIdx_cons, List.zipIdx_nil, List.map_cons, List.map_nil]
  rw [Cd.shift_eq, if_pos h1]
  by_cases h3 : x.n ≥ f
  · rw [if_pos h3]
    simp only [zS, wantedA, opA, eff, boxA, cells, ev, gt, pt, putO, updO, setO, okC, loadA, cutC, fieldAddrA, fieldA, indexAddrA, indexA, builtinA, callOpA, callV, target, ptrV, lenS, binA, intOp, strOp, unA, num, lk, over, allocA, pickA, buildA, fillA, convertA, extractA, ofComp, nilCheckA, makeFuncA, ptrs, ofValue, cellB, Nat.reduceAdd, Nat.reduceSub, Nat.reduceMul, Nat.reduceLT, Nat.reduceLeDiff, Nat.reduceGT, ↓reduceIte, Nat.reduceEqDiff, Nat.reduceBEq, reduceCtorEq, Int.reduceBEq, Int.reduceBNe, Int.reduceLT, Int.reduceLE, Int.reduceGT, Int.reduceGE, aggT_25, sizeT_25, bytesT_25, fieldT_25_0, fieldT_25_1, fieldT_25_2, fieldT_25_3, placesT_25, zeroT_25, aggT_23, sizeT_23, bytesT_23, und_23, elemT_23, zero1_23, zeroT_23, aggT_3, sizeT_3, bytesT_3, und_3, zero1_3, zeroT_3, aggT_4, sizeT_4, bytesT_4, und_4, zero1_4, zeroT_4, cdV, cdC, iV, h1, h3]
    refine finish_data (vs := [cdV (.mk 1 (wr (x.n + b)) x.s x.l x.z)]) rfl ?_ rfl
    kernel_rfl
  · rw [if_neg h3]
    simp only [zS, wantedA, opA, eff, boxA, cells, ev, gt, pt, putO, updO, setO, okC, loadA, cutC, fieldAddrA, fieldA, indexAddrA, indexA, builtinA, callOpA, callV, target, ptrV, lenS, binA, intOp, strOp, unA, num, lk, over, allocA, pickA, buildA, fillA, convertA, extractA, ofComp, nilCheckA, makeFuncA, ptrs, ofValue, cellB, Nat.reduceAdd, Nat.reduceSub, Nat.reduceMul, Nat.reduceLT, Nat.reduceLeDiff, Nat.reduceGT, ↓reduceIte, Nat.reduceEqDiff, Nat.reduceBEq, reduceCtorEq, Int.reduceBEq, Int.reduceBNe, Int.reduceLT, Int.reduceLE, Int.reduceGT, Int.reduceGE, aggT_25, sizeT_25, bytesT_25, fieldT_25_0, fieldT_25_1, fieldT_25_2, fieldT_25_3, placesT_25, zeroT_25, aggT_23, sizeT_23, bytesT_23, und_23, elemT_23, zero1_23, zeroT_23, aggT_3, sizeT_3, bytesT_3, und_3, zero1_3, zeroT_3, aggT_4, sizeT_4, bytesT_4, und_4, zero1_4, zeroT_4, cdV, cdC, iV, h1, h3]
    refine finish_data (vs := [cdV (.mk 1 x.n x.s x.l x.z)]) rfl ?_ rfl
    kernel_rfl
theorem leaf44 (hx : ext 44 = none) (x : Cd) (b f : Int) (h1 : ¬ x.op = 1) (h2 : (x.l.length : Int) = 0) : run Tryd.prog ext (.call 44 [cdV x, iV b, iV f] []) = some (.ret [cdV (x.shift b f)] []) := by
  rw [run_eq]
  simp only [stepA, hx, Tryd.func44, Tryd.f44]
  simp only [List.length_cons, List.length_nil, Nat.reduceAdd, Nat.reduceLeDiff, ↓reduceIte, List.zipIdx_cons, List.zipIdx_nil, List.map_cons, List.map_nil]
  have hl : x.l = [] := List.eq_nil_of_length_eq_zero (by omega)
  have e : x.shift b f = x := by rw [Cd.shift_eq, if_neg h1, hl]; cases x; simp only [Cd.l] at hl; subst hl; rfl
  rw [e]
  simp only [zS, wantedA, opA, eff, boxA, cells, ev, gt, pt, putO, updO, setO, okC, loadA, cutC, fieldAddrA, fieldA, indexAddrA, indexA, builtinA, callOpA, callV, target, ptrV, lenS, binA, intOp, strOp, unA, num, lk, over, allocA, pickA, buildA, fillA, convertA, extractA, ofComp, nilCheckA, makeFuncA, ptrs, ofValue, cellB, Nat.reduceAdd, Nat.reduceSub, Nat.reduceMul, Nat.reduceLT, Nat.reduceLeDiff, Nat.reduceGT, ↓reduceIte, Nat.reduceEqDiff, Nat.reduceBEq, reduceCtorEq, Int.reduceBEq, Int.reduceBNe, Int.reduceLT, Int.reduceLE, Int.reduceGT, Int.reduceGE, aggT_25, sizeT_25, bytesT_25, fieldT_25_0, fieldT_25_1, fieldT_25_2, fieldT_25_3, placesT_25, zeroT_25, aggT_23, sizeT_23, bytesT_23, und_23, elemT_23, zero1_23, zeroT_23, aggT_3, sizeT_3, bytesT_3, und_3, zero1_3, zeroT_3, aggT_4, sizeT_4, bytesT_4, und_4, zero1_4, zeroT_4, cdV, cdC, iV, h1, h2]
  refine finish_data (vs := [cdV x]) rfl ?_ rfl
  kernel_rfl
theorem shift44 (hx : ext 44 = none) : ∀ (n : Nat) (x : Cd) (b f : Int), x.size ≤ n → n ≤ 4000000000000 → run Tryd.prog ext (.call 44 [cdV x, iV b, iV f] []) = some (.ret [cdV (x.shift b f)] [])
  | 0, x, b, f, h, _ => by have := x.size_pos; omega
  | n + 1, x, b, f, h, hn => by
    by_cases h1 : x.op = 1
    · exact var44 ext hx x b f h1
    by_cases h2 : (x.l.length : Int) = 0
    · exact leaf44 ext hx x b f h1 h2
    have hl := x.len_lt
    refine enter44 ext hx x b f _ h1 h2 (by omega) ?_
    generalize hg : (if x.op = 2 then wr (f + 1) else f) = g
    have hlen : (x.l.map fun y => y.shift b g).length = x.l.length := by simp
    have := map_rounds (fun k els => run Tryd.prog ext (.k ⟨58, 0, [.cell 6 25]⟩ (.code L44 :: .inLoop L44 :: K44) (E44 x b g k) (O44 x els))) (x.l.map fun y => y.shift b g) (some (.ret [cdV (x.shift b f)] [])) (by omega)
      (fun k y' els row h1 h2 h3 h4 h5 => by
        rw [List.getElem?_map] at h1
        cases hk : x.l[k]? with
        | none => simp [hk] at h1
        | some y =>
          simp only [hk, Option.map_some, Option.some.injEq] at h1
          subst h1
          have hlt : k < x.l.length := by
            rcases Nat.lt_or_ge k x.l.length with h | h
            · exact h
            · rw [List.getElem?_eq_none h] at hk; cases hk
          have hys := Cd.size_lt (List.mem_of_getElem? hk)
          exact step44 ext x y _ b g k els row (by omega) (by omega) (by simpa using hk) (shift44 hx n y b g (by omega) (by omega)) (by simpa using h2) h3 (by omega) _ (by simpa using h5))
      (by
        rw [done44 ext x b g _ _ (by simp)]
        have hne : (x.shift b f).l ≠ [] := by
          rw [Cd.shift_eq, if_neg h1]
          intro e
          have : x.l.length = 0 := by simpa [Cd.l] using congrArg List.length e
          omega
        have hsl : (x.shift b f).l = x.l.map fun y => y.shift b g := by rw [Cd.shift_eq, if_neg h1, hg]; rfl
        simp only [cdV, cdC, lD_eq hne, hsl]
        rw [Cd.shift_eq, if_neg h1]; rfl)
    rw [hlen] at this
    exact this
end Go.Proofs.YtmjacokkgfophaaDoor.Am
end
section
/- subst: puts a code in for the variable that is bound last. -/
namespace Go.Proofs.YtmjacokkgfophaaDoor.Am
open Go
variable (ext : Ext)
set_option maxHeartbeats 4000000
def Cd.subst (by_ : Cd) : Cd → Int → Cd
  | .mk op n s l z, d =>
    if op = 1 then (if n = d then by_.shift d 0 else .mk op (if n > d then wr (n - 1) else n) s l z)
    else .mk op n s (substs by_ l (if op = 2 then wr (d + 1) else d)) z
where substs (by_ : Cd) : List Cd → Int → List Cd
  | [], _ => []
  | x :: r, d => Cd.subst by_ x d :: substs by_ r d
theorem Cd.substs_eq (b : Cd) (d : Int) (l : List Cd) : Cd.subst.substs b l d = l.map (fun x => Cd.subst b x d) := by
  induction l with
  | nil => rfl
  | cons a r ih => simp [Cd.subst.substs, ih]
noncomputable def B27 : Code := (Tryd.f27.body.getD .skip)
noncomputable def L27 : Code := sub B27 [1, 1, 1, 1, 1, 1, 0, 1, 0, 0]
noncomputable def K27 : List It := [.inBlock 1, .code (sub B27 [1, 1, 1, 1, 1, 1, 1])]
def E27 (x : Cd) (g : Int) (k : Int) : Env := [(3, .c (.ptr 0 0)), (4, .c (.ptr 1 0)), (6, .c (.ptr 2 0)), (7, .c (.own 3)), (8, iV g), (48, .c (.d (lD x))), (49, iV x.l.length), (50, iV k)]
def O27 (x b : Cd) (els : List (List D)) : List O := [.box (cdC x), .box (cdC b), .box (zrow.map .d), .arr 4 els]
theorem enter27 (hx : ext 27 = none) (x b : Cd) (f : Int) (out : Option Out) (h1 : ¬ x.op = 1) (h2 : ¬ (x.l.length : Int) = 0) (hn : x.l.length ≤ 4000000000000)
   (h : run Tryd.prog ext (.k ⟨66, 0, [.cell 6 25]⟩ (.code L27 :: .inLoop L27 :: K27) (E27 x (if x.op = 2 then wr (f + 1) else f) 0) (O27 x b (List.replicate x.l.length zrow))) = out) :
   run Tryd.prog ext (.call 27 [cdV x, cdV b, iV f] []) = out := by
  rw [run_eq]
  simp only [stepA, hx, Tryd.func27, Tryd.f27]
  simp only [List.length_cons, List.length_nil, Nat.reduceAdd, Nat.reduceLeDiff, ↓reduceIte, List.zipIdx_cons, List.zipIdx_nil, List.map_cons, List.map_nil]
  by_cases h3 : x.op = 2
  · rw [if_pos h3] at h
    simp only [zS, wantedA, opA, eff, boxA, cells, ev, gt, pt, putO, updO, setO, okC, loadA, cutC, fieldAddrA, fieldA, indexAddrA, indexA, builtinA, callOpA, callV, target, ptrV, lenS, binA, intOp, strOp, unA, num, lk, over, allocA, pickA, buildA, fillA, convertA, extractA, ofComp, nilCheckA, makeFuncA, ptrs, ofValue, cellB, Nat.reduceAdd, Nat.reduceSub, Nat.reduceMul, Nat.reduceLT, Nat.reduceLeDiff, Nat.reduceGT, ↓reduceIte, Nat.reduceEqDiff, Nat.reduceBEq, reduceCtorEq, Int.reduceBEq, Int.reduceBNe, Int.reduceLT, Int.reduceLE, Int.reduceGT, Int.reduceGE, aggT_25, sizeT_25, bytesT_25, fieldT_25_0, fieldT_25_1, fieldT_25_2, fieldT_25_3, placesT_25, zeroT_25, aggT_23, sizeT_23, bytesT_23, und_23, elemT_23, zero1_23, zeroT_23, aggT_3, sizeT_3, bytesT_3, und_3, zero1_3, zeroT_3, aggT_4, sizeT_4, bytesT_4, und_4, zero1_4, zeroT_4, cdV, cdC, iV, h1, h2, h3, mk23, hn]
    simp only [E27, O27, cdC, h3] at h
    refine (r_inLoop_some ?_).trans h
    kernel_rfl
  · rw [if_neg h3] at h
    simp only [zS, wantedA, opA, eff, boxA, cells, ev, gt, pt, putO, updO, setO, okC, loadA, cutC, fieldAddrA, fieldA, indexAddrA, indexA, builtinA, callOpA, callV, target, ptrV, lenS, binA, intOp, strOp, unA, num, lk, over, allocA, pickA, buildA, fillA, convertA, extractA, ofComp, nilCheckA, makeFuncA, ptrs, ofValue, cellB, Nat.reduceAdd, Nat.reduceSub, Nat.reduceMul, Nat.reduceLT, Nat.reduceLeDiff, Nat.reduceGT, ↓reduceIte, Nat.reduceEqDiff, Nat.reduceBEq, reduceCtorEq, Int.reduceBEq, Int.reduceBNe, Int.reduceLT, Int.reduceLE, Int.reduceGT, Int.reduceGE, aggT_25, sizeT_25, bytesT_25, fieldT_25_0, fieldT_25_1, fieldT_25_2, fieldT_25_3, placesT_25, zeroT_25, aggT_23, sizeT_23, bytesT_23, und_23, elemT_23, zero1_23, zeroT_23, aggT_3, sizeT_3, bytesT_3, und_3, zero1_3, zeroT_3, aggT_4, sizeT_4, bytesT_4, und_4, zero1_4, zeroT_4, cdV, cdC, iV, h1, h2, h3, mk23, hn]
    refine (r_inLoop_some ?_).trans h
    kernel_rfl
theorem step27 (x y y' b : Cd) (g k : Int) (els : List (List D)) (row : List D) (h1 : k < x.l.length) (h0 : 0 ≤ k) (hy : x.l[k.toNat]? = some y) (hr : run Tryd.prog ext (.call 27 [cdV y, cdV b, iV g] []) = some (.ret [cdV y'] []))
   (he : els[k.toNat]? = some row) (hw : row.length = 4) (hl : k < els.length) (out : Option Out)
   (h : run Tryd.prog ext (.k ⟨66, 0, [.cell 6 25]⟩ (.code L27 :: .inLoop L27 :: K27) (E27 x g (wr (k + 1))) (O27 x b (els.set k.toNat (encCd y')))) = out) :
   run Tryd.prog ext (.k ⟨66, 0, [.cell 6 25]⟩ (.code L27 :: .inLoop L27 :: K27) (E27 x g k) (O27 x b els)) = out := by
  rw [show (It.code L27) = It.code (sub B27 [1, 1, 1, 1, 1, 1, 0, 1, 0, 0]) from rfl]
  simp only [E27, O27, cdV, cdC, iV, lD_of_lt h0 h1, zrow, List.map_cons, List.map_nil] at hr h ⊢
  simp only [B27, sub, Option.getD_some, Tryd.f27, ↓reduceIte, Nat.one_ne_zero]
  simp only [zS, wantedA, opA, eff, boxA, cells, ev, gt, pt, putO, updO, setO, okC, loadA, cutC, fieldAddrA, fieldA, indexAddrA, indexA, builtinA, callOpA, callV, target, ptrV, lenS, binA, intOp, strOp, unA, num, lk, over, allocA, pickA, buildA, fillA, convertA, extractA, ofComp, nilCheckA, makeFuncA, ptrs, ofValue, cellB, Nat.reduceAdd, Nat.reduceSub, Nat.reduceMul, Nat.reduceLT, Nat.reduceLeDiff, Nat.reduceGT, ↓reduceIte, Nat.reduceEqDiff, Nat.reduceBEq, reduceCtorEq, Int.reduceBEq, Int.reduceBNe, Int.reduceLT, Int.reduceLE, Int.reduceGT, Int.reduceGE, aggT_25, sizeT_25, bytesT_25, fieldT_25_0, fieldT_25_1, fieldT_25_2, fieldT_25_3, placesT_25, zeroT_25, aggT_23, sizeT_23, bytesT_23, und_23, elemT_23, zero1_23, zeroT_23, aggT_3, sizeT_3, bytesT_3, und_3, zero1_3, zeroT_3, aggT_4, sizeT_4, bytesT_4, und_4, zero1_4, zeroT_4, h0, h1, hl, hy, encCd_eq y, hr, stK_25 y' he hw]
  refine (r_inLoop_some ?_).trans h
  kernel_rfl
theorem done27 (x b : Cd) (g k : Int) (els : List (List D)) (h1 : ¬ k < x.l.length) :
   run Tryd.prog ext (.k ⟨66, 0, [.cell 6 25]⟩ (.code L27 :: .inLoop L27 :: K27) (E27 x g k) (O27 x b els)) = some (.ret [.agg [.d (.v (.int .i64 x.op)), .d (.v (.int .i64 x.n)), .d (.v (.string x.s)), .d (.s 4 els)]] []) := by
  rw [show (It.code L27) = It.code (sub B27 [1, 1, 1, 1, 1, 1, 0, 1, 0, 0]) from rfl]
  simp only [E27, O27, cdV, cdC, iV, zrow, List.map_cons, List.map_nil]
  simp only [B27, K27, sub, Option.getD_some, Tryd.f27, ↓reduceIte, Nat.one_ne_zero]
  simp only [zS, wantedA, opA, eff, boxA, cells, ev, gt, pt, putO, updO, setO, okC, loadA, cutC, fieldAddrA, fieldA, indexAddrA, indexA, builtinA, callOpA, callV, target, ptrV, lenS, binA, intOp, strOp, unA, num, lk, over, allocA, pickA, buildA, fillA, convertA, extractA, ofComp, nilCheckA, makeFuncA, ptrs, ofValue, cellB, Nat.reduceAdd, Nat.reduceSub, Nat.reduceMul, Nat.reduceLT, Nat.reduceLeDiff, Nat.reduceGT, ↓reduceIte, Nat.reduceEqDiff, Nat.reduceBEq, reduceCtorEq, Int.reduceBEq, Int.reduceBNe, Int.reduceLT, Int.reduceLE, Int.reduceGT, Int.reduceGE, aggT_25, sizeT_25, bytesT_25, fieldT_25_0, fieldT_25_1, fieldT_25_2, fieldT_25_3, placesT_25, zeroT_25, aggT_23, sizeT_23, bytesT_23, und_23, elemT_23, zero1_23, zeroT_23, aggT_3, sizeT_3, bytesT_3, und_3, zero1_3, zeroT_3, aggT_4, sizeT_4, bytesT_4, und_4, zero1_4, zeroT_4, h1]
  kernel_rfl
theorem Cd.subst_eq (b : Cd) (f : Int) (x : Cd) : Cd.subst b x f = if x.op = 1 then (if x.n = f then b.shift f 0 else .mk x.op (if x.n > f then wr (x.n - 1) else x.n) x.s x.l x.z) else .mk x.op x.n x.s (x.l.map fun y => Cd.subst b y (if x.op = 2 then wr (f + 1) else f)) x.z := by
  cases x; simp only [Cd.subst, Cd.substs_eq, Cd.op, Cd.n, Cd.s, Cd.l, Cd.z]; rfl
theorem var27 (hx : ext 27 = none) (x b : Cd) (f : Int) (h1 : x.op = 1) (hb : run Tryd.prog ext (.call 44 [cdV b, iV f, iV 0] []) = some (.ret [cdV (b.shift f 0)] [])) : run Tryd.prog ext (.call 27 [cdV x, cdV b, iV f] []) = some (.ret [cdV (Cd.subst b x f)] []) := by
  rw [run_eq]
  simp only [stepA, hx, Tryd.func27, Tryd.f27]
  simp only [List.length_cons, List.length_nil, Nat.reduceAdd, Nat.reduceLeDiff, ↓reduceIte, List.zipIdx_cons, List.zipIdx_nil, List.map_cons, List.map_nil]
  rw [Cd.subst_eq, if_pos h1]
  by_cases h4 : x.n = f
  · rw [if_pos h4]
    simp only [cdV, cdC, iV] at hb
    simp only [zS, wantedA, opA, eff, boxA, cells, ev, gt, pt, putO, updO, setO, okC, loadA, cutC, fieldAddrA, fieldA, indexAddrA, indexA, builtinA, callOpA, callV, target, ptrV, lenS, binA, intOp, strOp, unA, num, lk, over, allocA, pickA, buildA, fillA, convertA, extractA, ofComp, nilCheckA, makeFuncA, ptrs, ofValue, cellB, Nat.reduceAdd, Nat.reduceSub, Nat.reduceMul, Nat.reduceLT, Nat.reduceLeDiff, Nat.reduceGT, ↓reduceIte, Nat.reduceEqDiff, Nat.reduceBEq, reduceCtorEq, Int.reduceBEq, Int.reduceBNe, Int.reduceLT, Int.reduceLE, Int.reduceGT, Int.reduceGE, aggT_25, sizeT_25, bytesT_25, fieldT_25_0, fieldT_25_1, fieldT_25_2, fieldT_25_3, placesT_25, zeroT_25, aggT_23, sizeT_23, bytesT_23, und_23, elemT_23, zero1_23, zeroT_23, aggT_3, sizeT_3, bytesT_3, und_3, zero1_3, zeroT_3, aggT_4, sizeT_4, bytesT_4, und_4, zero1_4, zeroT_4, cdV, cdC, iV, h1, h4, hb]
    refine finish_data (vs := [cdV (b.shift f 0)]) rfl ?_ rfl
    kernel_rfl
  rw [if_neg h4]
  by_cases h3 : x.n > f
  · rw [if_pos h3]
    simp only [zS, wantedA, opA, eff, boxA, cells, ev, gt, pt, putO, updO, setO, okC, loadA, cutC, fieldAddrA, fieldA, indexAddrA, indexA, builtinA, callOpA, callV, target, ptrV, lenS, binA, intOp, strOp, unA, num, lk, over, allocA, pickA, buildA, fillA, convertA, extractA, ofComp, nilCheckA, makeFuncA, ptrs, ofValue, cellB, Nat.reduceAdd, Nat.reduceSub, Nat.reduceMul, Nat.reduceLT, Nat.reduceLeDiff, Nat.reduceGT, ↓reduceIte, Nat.reduceEqDiff, Nat.reduceBEq, reduceCtorEq, Int.reduceBEq, Int.reduceBNe, Int.reduceLT, Int.reduceLE, Int.reduceGT, Int.reduceGE, aggT_25, sizeT_25, bytesT_25, fieldT_25_0, fieldT_25_1, fieldT_25_2, fieldT_25_3, placesT_25, zeroT_25, aggT_23, sizeT_23, bytesT_23, und_23, elemT_23, zero1_23, zeroT_23, aggT_3, sizeT_3, bytesT_3, und_3, zero1_3, zeroT_3, aggT_4, sizeT_4, bytesT_4, und_4, zero1_4, zeroT_4, cdV, cdC, iV, h1, h3, h4]
    refine finish_data (vs := [cdV (.mk 1 (wr (x.n - 1)) x.s x.l x.z)]) rfl ?_ rfl
    kernel_rfl
  · rw [if_neg h3]
    simp only [zS, wantedA, opA, eff, boxA, cells, ev, gt, pt, putO, updO, setO, okC, loadA, cutC, fieldAddrA, fieldA, indexAddrA, indexA, builtinA, callOpA, callV, target, ptrV, lenS, binA, intOp, strOp, unA, num, lk, over, allocA, pickA, buildA, fillA, convertA, extractA, ofComp, nilCheckA, makeFuncA, ptrs, ofValue, cellB, Nat.reduceAdd, Nat.reduceSub, Nat.reduceMul, Nat.reduceLT, Nat.reduceLeDiff, Nat.reduceGT, ↓reduceIte, Nat.reduceEqDiff, Nat.reduceBEq, reduceCtorEq, Int.reduceBEq, Int.reduceBNe, Int.reduceLT, Int.reduceLE, Int.reduceGT, Int.reduceGE, aggT_25, sizeT_25, bytesT_25, fieldT_25_0, fieldT_25_1, fieldT_25_2, fieldT_25_3, placesT_25, zeroT_25, aggT_23, sizeT_23, bytesT_23, und_23, elemT_23, zero1_23, zeroT_23, aggT_3, sizeT_3, bytesT_3, und_3, zero1_3, zeroT_3, aggT_4, sizeT_4, bytesT_4, und_4, zero1_4, zeroT_4, cdV, cdC, iV, h1, h3, h4]
    refine finish_data (vs := [cdV (.mk 1 x.n x.s x.l x.z)]) rfl ?_ rfl
    kernel_rfl
theorem leaf27 (hx : ext 27 = none) (x b : Cd) (f : Int) (h1 : ¬ x.op = 1) (h2 : (x.l.length : Int) = 0) : run Tryd.prog ext (.call 27 [cdV x, cdV b, iV f] []) = some (.ret [cdV (Cd.subst b x f)] []) := by
  rw [run_eq]
  simp only [stepA, hx, Tryd.func27, Tryd.f27]
  simp only [List.length_cons, List.length_nil, Nat.reduceAdd, Nat.reduceLeDiff, ↓reduceIte, List.zipIdx_cons, List.zipIdx_nil, List.map_cons, List.map_nil]
  have hl : x.l = [] := List.eq_nil_of_length_eq_zero (by omega)
  have e : Cd.subst b x f = x := by rw [Cd.subst_eq, if_neg h1, hl]; cases x; simp only [Cd.l] at hl; subst hl; rfl
  rw [e]
  simp only [zS, wantedA, opA, eff, boxA, cells, ev, gt, pt, putO, updO, setO, okC, loadA, cutC, fieldAddrA, fieldA, indexAddrA, indexA, builtinA, callOpA, callV, target, ptrV, lenS, binA, intOp, strOp, unA, num, lk, over, allocA, pickA, buildA, fillA, convertA, extractA, ofComp, nilCheckA, makeFuncA, ptrs, ofValue, cellB, Nat.reduceAdd, Nat.reduceSub, Nat.reduceMul, Nat.reduceLT, Nat.reduceLeDiff, Nat.reduceGT, ↓reduceIte, Nat.reduceEqDiff, Nat.reduceBEq, reduceCtorEq, Int.reduceBEq, Int.reduceBNe, Int.reduceLT, Int.reduceLE, Int.reduceGT, Int.reduceGE, aggT_25, sizeT_25, bytesT_25, fieldT_25_0, fieldT_25_1, fieldT_25_2, fieldT_25_3, placesT_25, zeroT_25, aggT_23, sizeT_23, bytesT_23, und_23, elemT_23, zero1_23, zeroT_23, aggT_3, sizeT_3, bytesT_3, und_3, zero1_3, zeroT_3, aggT_4, sizeT_4, bytesT_4, und_4, zero1_4, zeroT_4, cdV, cdC, iV, h1, h2]
  refine finish_data (vs := [cdV x]) rfl ?_ rfl
  kernel_rfl
theorem subst27 (hx : ext 27 = none) (hx4 : ext 44 = none) (b : Cd) (hb : b.size ≤ 4000000000000) : ∀ (n : Nat) (x : Cd) (f : Int), x.size ≤ n → n ≤ 4000000000000 → run Tryd.prog ext (.call 27 [cdV x, cdV b, iV f] []) = some (.ret [cdV (Cd.subst b x f)] [])
  | 0, x, f, h, _ => by have := x.size_pos; omega
  | n + 1, x, f, h, hn => by
    by_cases h1 : x.op = 1
    · exact var27 ext hx x b f h1 (shift44 ext hx4 _ b f 0 (Nat.le_refl _) hb)
    by_cases h2 : (x.l.length : Int) = 0
    · exact leaf27 ext hx x b f h1 h2
    have hl := x.len_lt
    refine enter27 ext hx x b f _ h1 h2 (by omega) ?_
    generalize hg : (if x.op = 2 then wr (f + 1) else f) = g
    have hlen : (x.l.map fun y => Cd.subst b y g).length = x.l.length := by simp
    have := map_rounds (fun k els => run Tryd.prog ext (.k ⟨66, 0, [.cell 6 25]⟩ (.code L27 :: .inLoop L27 :: K27) (E27 x g k) (O27 x b els))) (x.l.map fun y => Cd.subst b y g) (some (.ret [cdV (Cd.subst b x f)] [])) (by omega)
      (fun k y' els row h1 h2 h3 h4 h5 => by
        rw [List.getElem?_map] at h1
        cases hk : x.l[k]? with
        | none => simp [hk] at h1
        | some y =>
          simp only [hk, Option.map_some, Option.some.injEq] at h1
          subst h1
          have hlt : k < x.l.length := by
            rcases Nat.lt_or_ge k x.l.length with h | h
            · exact h
            · rw [List.getElem?_eq_none h] at hk; cases hk
          have hys := Cd.size_lt (List.mem_of_getElem? hk)
          exact step27 ext x y _ b g k els row (by omega) (by omega) (by simpa using hk) (subst27 hx hx4 b hb n y g (by omega) (by omega)) (by simpa using h2) h3 (by omega) _ (by simpa using h5))
      (by
        rw [done27 ext x b g _ _ (by simp)]
        have hne : (Cd.subst b x f).l ≠ [] := by
          rw [Cd.subst_eq, if_neg h1]
          intro e
          have : x.l.length = 0 := by simpa [Cd.l] using congrArg List.length e
          omega
        have hsl : (Cd.subst b x f).l = x.l.map fun y => Cd.subst b y g := by rw [Cd.subst_eq, if_neg h1, hg]; rfl
        simp only [cdV, cdC, lD_eq hne, hsl]
        rw [Cd.subst_eq, if_neg h1]; rfl)
    rw [hlen] at this
    exact this
end Go.Proofs.YtmjacokkgfophaaDoor.Am
end
section
/- op, others, slices.Index. -/
namespace Go.Proofs.YtmjacokkgfophaaDoor.Am
open Go
variable (ext : Ext)
set_option maxHeartbeats 4000000
theorem op45 (hx : ext 45 = none) (o : Int) (ld : D) : run Tryd.prog ext (.call 45 [iV o, .c (.d ld)] []) = some (.ret [.agg [.d (.v (.int .i64 o)), .d (.v (.int .i64 0)), .d (.v (.string ⟨#[]⟩)), .d ld]] []) := by
  rw [run_eq]
  simp only [stepA, hx, Tryd.func45, Tryd.f45]
  simp only [List.length_cons, List.length_nil, Nat.reduceAdd, Nat.reduceLeDiff, ↓reduceIte, List.zipIdx_cons, List.zipIdx_nil, List.map_cons, List.map_nil]
  simp only [zS, wantedA, opA, eff, boxA, cells, ev, gt, pt, putO, updO, setO, okC, loadA, cutC, fieldAddrA, fieldA, indexAddrA, indexA, builtinA, callOpA, callV, target, ptrV, lenS, binA, intOp, strOp, unA, num, lk, over, allocA, pickA, buildA, fillA, convertA, extractA, ofComp, nilCheckA, makeFuncA, ptrs, ofValue, cellB, Nat.reduceAdd, Nat.reduceSub, Nat.reduceMul, Nat.reduceLT, Nat.reduceLeDiff, Nat.reduceGT, ↓reduceIte, Nat.reduceEqDiff, Nat.reduceBEq, reduceCtorEq, Int.reduceBEq, Int.reduceBNe, Int.reduceLT, Int.reduceLE, Int.reduceGT, Int.reduceGE, aggT_25, sizeT_25, bytesT_25, fieldT_25_0, fieldT_25_1, fieldT_25_2, fieldT_25_3, placesT_25, zeroT_25, aggT_23, sizeT_23, bytesT_23, und_23, elemT_23, zero1_23, zeroT_23, aggT_3, sizeT_3, bytesT_3, und_3, zero1_3, zeroT_3, aggT_4, sizeT_4, bytesT_4, und_4, zero1_4, zeroT_4, iV]
  kernel_rfl
/-- The nodes of a list of codes but for one part. -/
def othersSum : List Cd → Nat → Int → Nat
  | [], _, _ => 0
  | x :: r, k, p => (if (k : Int) = p then 0 else x.size) + othersSum r (k + 1) p
noncomputable def B25 : Code := (Tryd.f25.body.getD .skip)
noncomputable def L25 : Code := sub B25 [1, 1, 0, 1, 0, 0]
noncomputable def K25 : List It := [.inBlock 0, .code (sub B25 [1, 1, 1])]
theorem enter25 (hx : ext 25 = none) (x : Cd) (p : Int) (out : Option Out)
   (h : run Tryd.prog ext (.k ⟨25, 0, [.tmp 4]⟩ (.code L25 :: .inLoop L25 :: K25) [(1, iV p), (5, iV 1), (9, .c (.d (lD x))), (10, iV x.l.length), (11, iV 0)] []) = out) :
   run Tryd.prog ext (.call 25 [cdV x, iV p] []) = out := by
  rw [run_eq]
  simp only [stepA, hx, Tryd.func25, Tryd.f25]
  simp only [List.length_cons, List.length_nil, Nat.reduceAdd, Nat.reduceLeDiff, ↓reduceIte, List.zipIdx_cons, List.zipIdx_nil, List.map_cons, List.map_nil]
  simp only [zS, wantedA, opA, eff, boxA, cells, ev, gt, pt, putO, updO, setO, okC, loadA, cutC, fieldAddrA, fieldA, indexAddrA, indexA, builtinA, callOpA, callV, target, ptrV, lenS, binA, intOp, strOp, unA, num, lk, over, allocA, pickA, buildA, fillA, convertA, extractA, ofComp, nilCheckA, makeFuncA, ptrs, ofValue, cellB, Nat.reduceAdd, Nat.reduceSub, Nat.reduceMul, Nat.reduceLT, Nat.reduceLeDiff, Nat.reduceGT, ↓reduceIte, Nat.reduceEqDiff, Nat.reduceBEq, reduceCtorEq, Int.reduceBEq, Int.reduceBNe, Int.reduceLT, Int.reduceLE, Int.reduceGT, Int.reduceGE, aggT_25, sizeT_25, bytesT_25, fieldT_25_0, fieldT_25_1, fieldT_25_2, fieldT_25_3, placesT_25, zeroT_25, aggT_23, sizeT_23, bytesT_23, und_23, elemT_23, zero1_23, zeroT_23, aggT_3, sizeT_3, bytesT_3, und_3, zero1_3, zeroT_3, aggT_4, sizeT_4, bytesT_4, und_4, zero1_4, zeroT_4, cdV, cdC, iV]
  refine (r_inLoop_some ?_).trans h
  kernel_rfl
theorem step25 (x y : Cd) (p a b r : Int) (hi2 : b < x.l.length) (hi : 0 ≤ b) (hy : x.l[b.toNat]? = some y) (hr : run Tryd.prog ext (.call 42 [cdV y] []) = some (.ret [iV r] [])) (out : Option Out)
   (h : run Tryd.prog ext (.k ⟨25, 0, [.tmp 4]⟩ (.code L25 :: .inLoop L25 :: K25) [(1, iV p), (5, iV (if b = p then a else wr (a + r))), (9, .c (.d (lD x))), (10, iV x.l.length), (11, iV (wr (b + 1)))] []) = out) :
   run Tryd.prog ext (.k ⟨25, 0, [.tmp 4]⟩ (.code L25 :: .inLoop L25 :: K25) [(1, iV p), (5, iV a), (9, .c (.d (lD x))), (10, iV x.l.length), (11, iV b)] []) = out := by
  rw [show (It.code L25) = It.code (sub B25 [1, 1, 0, 1, 0, 0]) from rfl]
  simp only [cdV, cdC, iV, lD_of_lt hi hi2] at hr h ⊢
  simp only [B25, K25, sub, Option.getD_some, Tryd.f25, ↓reduceIte, Nat.one_ne_zero]
  by_cases hp : b = p
  · rw [if_pos hp] at h
    simp only [zS, wantedA, opA, eff, boxA, cells, ev, gt, pt, putO, updO, setO, okC, loadA, cutC, fieldAddrA, fieldA, indexAddrA, indexA, builtinA, callOpA, callV, target, ptrV, lenS, binA, intOp, strOp, unA, num, lk, over, allocA, pickA, buildA, fillA, convertA, extractA, ofComp, nilCheckA, makeFuncA, ptrs, ofValue, cellB, Nat.reduceAdd, Nat.reduceSub, Nat.reduceMul, Nat.reduceLT, Nat.reduceLeDiff, Nat.reduceGT, ↓reduceIte, Nat.reduceEqDiff, Nat.reduceBEq, reduceCtorEq, Int.reduceBEq, Int.reduceBNe, Int.reduceLT, Int.reduceLE, Int.reduceGT, Int.reduceGE, aggT_25, sizeT_25, bytesT_25, fieldT_25_0, fieldT_25_1, fieldT_25_2, fieldT_25_3, placesT_25, zeroT_25, aggT_23, sizeT_23, bytesT_23, und_23, elemT_23, zero1_23, zeroT_23, aggT_3, sizeT_3, bytesT_3, und_3, zero1_3, zeroT_3, aggT_4, sizeT_4, bytesT_4, und_4, zero1_4, zeroT_4, hi, hi2, hy, encCd_eq y, hr, hp]
    subst hp
    simp only [zS, wantedA, opA, eff, boxA, cells, ev, gt, pt, putO, updO, setO, okC, loadA, cutC, fieldAddrA, fieldA, indexAddrA, indexA, builtinA, callOpA, callV, target, ptrV, lenS, binA, intOp, strOp, unA, num, lk, over, allocA, pickA, buildA, fillA, convertA, extractA, ofComp, nilCheckA, makeFuncA, ptrs, ofValue, cellB, Nat.reduceAdd, Nat.reduceSub, Nat.reduceMul, Nat.reduceLT, Nat.reduceLeDiff, Nat.reduceGT, ↓reduceIte, Nat.reduceEqDiff, Nat.reduceBEq, reduceCtorEq, Int.reduceBEq, Int.reduceBNe, Int.reduceLT, Int.reduceLE, Int.reduceGT, Int.reduceGE, aggT_25, sizeT_25, bytesT_25, fieldT_25_0, fieldT_25_1, fieldT_25_2, fieldT_25_3, placesT_25, zeroT_25, aggT_23, sizeT_23, bytesT_23, und_23, elemT_23, zero1_23, zeroT_23, aggT_3, sizeT_3, bytesT_3, und_3, zero1_3, zeroT_3, aggT_4, sizeT_4, bytesT_4, und_4, zero1_4, zeroT_4, hi, hi2, hy, encCd_eq y, hr]
    refine (r_inLoop_some ?_).trans h
    kernel_rfl
  · rw [if_neg hp] at h
    simp only [zS, wantedA, opA, eff, boxA, cells, ev, gt, pt, putO, updO, setO, okC, loadA, cutC, fieldAddrA, fieldA, indexAddrA, indexA, builtinA, callOpA, callV, target, ptrV, lenS, binA, intOp, strOp, unA, num, lk, over, allocA, pickA, buildA, fillA, convertA, extractA, ofComp, nilCheckA, makeFuncA, ptrs, ofValue, cellB, Nat.reduceAdd, Nat.reduceSub, Nat.reduceMul, Nat.reduceLT, Nat.reduceLeDiff, Nat.reduceGT, ↓reduceIte, Nat.reduceEqDiff, Nat.reduceBEq, reduceCtorEq, Int.reduceBEq, Int.reduceBNe, Int.reduceLT, Int.reduceLE, Int.reduceGT, Int.reduceGE, aggT_25, sizeT_25, bytesT_25, fieldT_25_0, fieldT_25_1, fieldT_25_2, fieldT_25_3, placesT_25, zeroT_25, aggT_23, sizeT_23, bytesT_23, und_23, elemT_23, zero1_23, zeroT_23, aggT_3, sizeT_3, bytesT_3, und_3, zero1_3, zeroT_3, aggT_4, sizeT_4, bytesT_4, und_4, zero1_4, zeroT_4, hi, hi2, hy, encCd_eq y, hr, hp]
    refine (r_inLoop_some ?_).trans h
    kernel_rfl
theorem done25 (x : Cd) (p a b : Int) (hi2 : ¬ b < x.l.length) :
   run Tryd.prog ext (.k ⟨25, 0, [.tmp 4]⟩ (.code L25 :: .inLoop L25 :: K25) [(1, iV p), (5, iV a), (9, .c (.d (lD x))), (10, iV x.l.length), (11, iV b)] []) = some (.ret [iV a] []) := by
  rw [show (It.code L25) = It.code (sub B25 [1, 1, 0, 1, 0, 0]) from rfl]
  simp only [iV]
  simp only [B25, K25, sub, Option.getD_some, Tryd.f25, ↓reduceIte, Nat.one_ne_zero]
  simp only [zS, wantedA, opA, eff, boxA, cells, ev, gt, pt, putO, updO, setO, okC, loadA, cutC, fieldAddrA, fieldA, indexAddrA, indexA, builtinA, callOpA, callV, target, ptrV, lenS, binA, intOp, strOp, unA, num, lk, over, allocA, pickA, buildA, fillA, convertA, extractA, ofComp, nilCheckA, makeFuncA, ptrs, ofValue, cellB, Nat.reduceAdd, Nat.reduceSub, Nat.reduceMul, Nat.reduceLT, Nat.reduceLeDiff, Nat.reduceGT, ↓reduceIte, Nat.reduceEqDiff, Nat.reduceBEq, reduceCtorEq, Int.reduceBEq, Int.reduceBNe, Int.reduceLT, Int.reduceLE, Int.reduceGT, Int.reduceGE, aggT_25, sizeT_25, bytesT_25, fieldT_25_0, fieldT_25_1, fieldT_25_2, fieldT_25_3, placesT_25, zeroT_25, aggT_23, sizeT_23, bytesT_23, und_23, elemT_23, zero1_23, zeroT_23, aggT_3, sizeT_3, bytesT_3, und_3, zero1_3, zeroT_3, aggT_4, sizeT_4, bytesT_4, und_4, zero1_4, zeroT_4, hi2]
  kernel_rfl
theorem others_le (l : List Cd) (k : Nat) (p : Int) : othersSum l k p ≤ (l.map Cd.size).sum := by
  induction l generalizing k with
  | nil => simp [othersSum]
  | cons a r ih => have := ih (k + 1); simp only [othersSum, List.map_cons, List.sum_cons]; split <;> omega
theorem rounds25 (x : Cd) (p : Int) (hs : x.size < 2 ^ 62) (hr : ∀ y ∈ x.l, run Tryd.prog ext (.call 42 [cdV y] []) = some (.ret [iV y.size] [])) (tot : Nat) (ht : tot < 2 ^ 62) : ∀ (m k a : Nat), k + m = x.l.length → a + othersSum (x.l.drop k) k p = tot →
   run Tryd.prog ext (.k ⟨25, 0, [.tmp 4]⟩ (.code L25 :: .inLoop L25 :: K25) [(1, iV p), (5, iV a), (9, .c (.d (lD x))), (10, iV x.l.length), (11, iV k)] []) = some (.ret [iV tot] [])
  | 0, k, a, hk, ha => by
    rw [List.drop_eq_nil_of_le (by omega)] at ha
    rw [done25 ext x p a k (by omega)]
    simp [othersSum] at ha
    rw [ha]
  | m + 1, k, a, hk, ha => by
    have hlt : k < x.l.length := by omega
    have hd : x.l.drop k = x.l[k] :: x.l.drop (k + 1) := List.drop_eq_getElem_cons hlt
    have hl := x.len_lt
    rw [hd] at ha
    simp only [othersSum] at ha
    refine step25 ext x (x.l[k]) p a k x.l[k].size (by omega) (by omega) (by simp [hlt]) (hr _ (List.getElem_mem hlt)) _ ?_
    rw [wr_id (n := (k : Int) + 1) (by omega) (by omega)]
    by_cases hp : (k : Int) = p
    · rw [if_pos hp]
      rw [if_pos hp] at ha
      have := rounds25 x p hs hr tot ht m (k + 1) a (by omega) (by omega)
      simpa using this
    · rw [if_neg hp]
      rw [if_neg hp] at ha
      have hsz : x.l[k].size < 2 ^ 62 := by have := Cd.size_lt (List.getElem_mem hlt); omega
      rw [wr_id (by omega) (by omega)]
      have := rounds25 x p hs hr tot ht m (k + 1) (a + x.l[k].size) (by omega) (by omega)
      simpa using this
theorem others25 (hx : ext 25 = none) (hx2 : ext 42 = none) (x : Cd) (p : Int) (hs : x.size < 2 ^ 62) : run Tryd.prog ext (.call 25 [cdV x, iV p] []) = some (.ret [iV (1 + othersSum x.l 0 p : Nat)] []) := by
  refine enter25 ext hx x p _ ?_
  have h1 := others_le x.l 0 p
  have h2 := x.size_eq
  have := rounds25 ext x p hs (fun y hy => size42 ext hx2 x.size y (by have := Cd.size_lt hy; omega) hs) (1 + othersSum x.l 0 p) (by omega) x.l.length 0 1 (by omega) (by rw [List.drop_zero])
  simpa using this
/-! slices.Index over names -/
def listS (z : Bool) (l : List ByteArray) : D := if z = true ∧ l = [] then .v (.slice none 0 0) else .s 1 (l.map fun s => [.v (.string s)])
theorem lenA_listS (look : Look) (z : Bool) (l : List ByteArray) : lenA look (.c (.d (listS z l))) = eff (.c (.d (.v (.int .i64 l.length)))) := by
  unfold listS
  split
  · rename_i h; rw [h.2]; rfl
  · simp [lenA]
theorem listS_of_lt {z : Bool} {l : List ByteArray} {b : Int} (h0 : 0 ≤ b) (h : b < l.length) : listS z l = .s 1 (l.map fun s => [.v (.string s)]) := by
  unfold listS; rw [if_neg]; rintro ⟨_, e⟩; rw [e] at h; simp at h; omega
noncomputable def B29 : Code := (Tryd.f29.body.getD .skip)
noncomputable def L29 : Code := sub B29 [1, 0, 1, 0, 0]
noncomputable def K29 : List It := [.inBlock 0, .code (sub B29 [1, 1])]
def E29 (z : Bool) (l : List ByteArray) (s : ByteArray) (b : Int) : Env := [(0, .c (.d (listS z l))), (1, .c (.d (.v (.string s)))), (7, iV l.length), (8, iV b)]
theorem enter29 (hx : ext 29 = none) (z : Bool) (l : List ByteArray) (s : ByteArray) (out : Option Out)
   (h : run Tryd.prog ext (.k ⟨19, 0, [.tmp 4]⟩ (.code L29 :: .inLoop L29 :: K29) (E29 z l s 0) []) = out) :
   run Tryd.prog ext (.call 29 [.c (.d (listS z l)), .c (.d (.v (.string s)))] []) = out := by
  rw [run_eq]
  simp only [stepA, hx, Tryd.func29, Tryd.f29]
  simp only [List.length_cons, List.length_nil, Nat.reduceAdd, Nat.reduceLeDiff, ↓reduceIte, List.zipIdx_cons, List.zipIdx_nil, List.map_cons, List.map_nil]
  simp only [zS, wantedA, opA, eff, boxA, cells, ev, gt, pt, putO, updO, setO, okC, loadA, cutC, fieldAddrA, fieldA, indexAddrA, indexA, builtinA, callOpA, callV, target, ptrV, lenS, binA, intOp, strOp, unA, num, lk, over, allocA, pickA, buildA, fillA, convertA, extractA, ofComp, nilCheckA, makeFuncA, ptrs, ofValue, cellB, Nat.reduceAdd, Nat.reduceSub, Nat.reduceMul, Nat.reduceLT, Nat.reduceLeDiff, Nat.reduceGT, ↓reduceIte, Nat.reduceEqDiff, Nat.reduceBEq, reduceCtorEq, Int.reduceBEq, Int.reduceBNe, Int.reduceLT, Int.reduceLE, Int.reduceGT, Int.reduceGE, aggT_22, sizeT_22, bytesT_22, und_22, elemT_22, zero1_22, zeroT_22, aggT_9, sizeT_9, bytesT_9, und_9, zero1_9, zeroT_9, aggT_3, sizeT_3, bytesT_3, und_3, zero1_3, zeroT_3, aggT_4, sizeT_4, bytesT_4, und_4, zero1_4, zeroT_4, lenA_listS]
  refine (r_inLoop_some ?_).trans h
  kernel_rfl
theorem step29 (z : Bool) (l : List ByteArray) (s y : ByteArray) (b : Int) (hi2 : b < l.length) (hi : 0 ≤ b) (hy : l[b.toNat]? = some y) (out : Option Out)
   (h : (if s.toList == y.toList then some (.ret [iV b] []) else run Tryd.prog ext (.k ⟨19, 0, [.tmp 4]⟩ (.code L29 :: .inLoop L29 :: K29) (E29 z l s (wr (b + 1))) [])) = out) :
   run Tryd.prog ext (.k ⟨19, 0, [.tmp 4]⟩ (.code L29 :: .inLoop L29 :: K29) (E29 z l s b) []) = out := by
  rw [show (It.code L29) = It.code (sub B29 [1, 0, 1, 0, 0]) from rfl]
  simp only [E29, iV, listS_of_lt hi hi2] at h ⊢
  simp only [B29, K29, sub, Option.getD_some, Tryd.f29, ↓reduceIte, Nat.one_ne_zero]
  cases hc : (s.toList == y.toList) with
  | true =>
    rw [hc, if_pos rfl] at h
    simp only [zS, wantedA, opA, eff, boxA, cells, ev, gt, pt, putO, updO, setO, okC, loadA, cutC, fieldAddrA, fieldA, indexAddrA, indexA, builtinA, callOpA, callV, target, ptrV, lenS, binA, intOp, strOp, unA, num, lk, over, allocA, pickA, buildA, fillA, convertA, extractA, ofComp, nilCheckA, makeFuncA, ptrs, ofValue, cellB, Nat.reduceAdd, Nat.reduceSub, Nat.reduceMul, Nat.reduceLT, Nat.reduceLeDiff, Nat.reduceGT, ↓reduceIte, Nat.reduceEqDiff, Nat.reduceBEq, reduceCtorEq, Int.reduceBEq, Int.reduceBNe, Int.reduceLT, Int.reduceLE, Int.reduceGT, Int.reduceGE, aggT_22, sizeT_22, bytesT_22, und_22, elemT_22, zero1_22, zeroT_22, aggT_9, sizeT_9, bytesT_9, und_9, zero1_9, zeroT_9, aggT_3, sizeT_3, bytesT_3, und_3, zero1_3, zeroT_3, aggT_4, sizeT_4, bytesT_4, und_4, zero1_4, zeroT_4, hi, hi2, hy, hc]
    rw [← h]
    kernel_rfl
  | false =>
    rw [hc, if_neg (by decide)] at h
    simp only [zS, wantedA, opA, eff, boxA, cells, ev, gt, pt, putO, updO, setO, okC, loadA, cutC, fieldAddrA, fieldA, indexAddrA, indexA, builtinA, callOpA, callV, target, ptrV, lenS, binA, intOp, strOp, unA, num, lk, over, allocA, pickA, buildA, fillA, convertA, extractA, ofComp, nilCheckA, makeFuncA, ptrs, ofValue, cellB, Nat.reduceAdd, Nat.reduceSub, Nat.reduceMul, Nat.reduceLT, Nat.reduceLeDiff, Nat.reduceGT, ↓reduceIte, Nat.reduceEqDiff, Nat.reduceBEq, reduceCtorEq, Int.reduceBEq, Int.reduceBNe, Int.reduceLT, Int.reduceLE, Int.reduceGT, Int.reduceGE, aggT_22, sizeT_22, bytesT_22, und_22, elemT_22, zero1_22, zeroT_22, aggT_9, sizeT_9, bytesT_9, und_9, zero1_9, zeroT_9, aggT_3, sizeT_3, bytesT_3, und_3, zero1_3, zeroT_3, aggT_4, sizeT_4, bytesT_4, und_4, zero1_4, zeroT_4, hi, hi2, hy, hc]
    refine (r_inLoop_some ?_).trans h
    kernel_rfl
theorem done29 (z : Bool) (l : List ByteArray) (s : ByteArray) (b : Int) (hi2 : ¬ b < l.length) :
   run Tryd.prog ext (.k ⟨19, 0, [.tmp 4]⟩ (.code L29 :: .inLoop L29 :: K29) (E29 z l s b) []) = some (.ret [iV (-1)] []) := by
  rw [show (It.code L29) = It.code (sub B29 [1, 0, 1, 0, 0]) from rfl]
  simp only [E29, iV]
  simp only [B29, K29, sub, Option.getD_some, Tryd.f29, ↓reduceIte, Nat.one_ne_zero]
  simp only [zS, wantedA, opA, eff, boxA, cells, ev, gt, pt, putO, updO, setO, okC, loadA, cutC, fieldAddrA, fieldA, indexAddrA, indexA, builtinA, callOpA, callV, target, ptrV, lenS, binA, intOp, strOp, unA, num, lk, over, allocA, pickA, buildA, fillA, convertA, extractA, ofComp, nilCheckA, makeFuncA, ptrs, ofValue, cellB, Nat.reduceAdd, Nat.reduceSub, Nat.reduceMul, Nat.reduceLT, Nat.reduceLeDiff, Nat.reduceGT, ↓reduceIte, Nat.reduceEqDiff, Nat.reduceBEq, reduceCtorEq, Int.reduceBEq, Int.reduceBNe, Int.reduceLT, Int.reduceLE, Int.reduceGT, Int.reduceGE, aggT_22, sizeT_22, bytesT_22, und_22, elemT_22, zero1_22, zeroT_22, aggT_9, sizeT_9, bytesT_9, und_9, zero1_9, zeroT_9, aggT_3, sizeT_3, bytesT_3, und_3, zero1_3, zeroT_3, aggT_4, sizeT_4, bytesT_4, und_4, zero1_4, zeroT_4, hi2]
  kernel_rfl
/-- It comes to -1 or to a place in the list. -/
theorem index29 (hx : ext 29 = none) (z : Bool) (l : List ByteArray) (s : ByteArray) (hl : l.length < 2 ^ 62) : ∃ i : Int, run Tryd.prog ext (.call 29 [.c (.d (listS z l)), .c (.d (.v (.string s)))] []) = some (.ret [iV i] []) ∧ i < l.length := by
  have key : ∀ (m k : Nat), k + m = l.length → ∃ i : Int, run Tryd.prog ext (.k ⟨19, 0, [.tmp 4]⟩ (.code L29 :: .inLoop L29 :: K29) (E29 z l s k) []) = some (.ret [iV i] []) ∧ i < l.length := by
    intro m
    induction m with
    | zero => intro k hk; exact ⟨-1, done29 ext z l s k (by omega), by omega⟩
    | succ m ih =>
      intro k hk
      have hlt : k < l.length := by omega
      cases hc : (s.toList == l[k].toList) with
      | true => exact ⟨k, step29 ext z l s l[k] k (by omega) (by omega) (by simp [hlt]) _ (by rw [hc]; rfl), by omega⟩
      | false =>
        obtain ⟨i, h1, h2⟩ := ih (k + 1) (by omega)
        refine ⟨i, step29 ext z l s l[k] k (by omega) (by omega) (by simp [hlt]) _ ?_, h2⟩
        rw [hc, wr_id (by omega) (by omega)]
        simpa using h1
  obtain ⟨i, h1, h2⟩ := key l.length 0 (by omega)
  exact ⟨i, enter29 ext hx z l s _ (by simpa using h1), h2⟩
end Go.Proofs.YtmjacokkgfophaaDoor.Am
end
section
/- open: it comes to some bool. -/
namespace Go.Proofs.YtmjacokkgfophaaDoor.Am
open Go
variable (ext : Ext)
set_option maxHeartbeats 4000000
theorem callA_of {rec : Rec} {look : Look} {slot : Nat} {f : FuncId} {args args' : List V} {ids bor : List Nat} {objs' : List O} {out : Out} {e : Eff} (h1 : callPrep look args = some (ids, bor, args', objs')) (h2 : rec (.call f args' objs') = some out) (h3 : answer ids bor slot out = some e) :
    callA rec look slot f args = some e := by simp only [callA, callFin, callOut, h1, h2, h3]
noncomputable def B54 : Code := (Tryd.f54.body.getD .skip)
noncomputable def L54 : Code := sub B54 [1, 0, 1, 0, 0]
noncomputable def K54 : List It := [.inBlock 0, .code (sub B54 [1, 1])]
def OD (d : Int) : List O := [.box [.d (.v (.int .i64 d))]]
def F55 : V := .c (.fn 55 [] [0])
def E54 (f : V) (z : Bool) (l : List Cd) (b : Int) : Env := [(0, cdsV z l), (1, f), (7, iV l.length), (8, iV b)]
theorem clo55 (hx : ext 55 = none) (y : Cd) (d : Int) (b : Bool) (hr : run Tryd.prog ext (.call 41 [cdV y, iV d] []) = some (.ret [bV b] [])) :
   run Tryd.prog ext (.call 55 [cdV y, .c (.ptr 0 0)] (OD d)) = some (.ret [bV b] (OD d)) := by
  rw [run_eq]
  simp only [stepA, hx, Tryd.func55, Tryd.f55]
  simp only [List.length_cons, List.length_nil, Nat.reduceAdd, Nat.reduceLeDiff, ↓reduceIte, List.zipIdx_cons, List.zipIdx_nil, List.map_cons, List.map_nil]
  simp only [cdV, cdC, iV, bV] at hr
  simp only [zS, wantedA, opA, eff, boxA, cells, ev, gt, pt, putO, updO, setO, okC, loadA, cutC, fieldAddrA, fieldA, indexAddrA, indexA, builtinA, callOpA, callV, target, ptrV, lenS, binA, intOp, strOp, unA, num, lk, over, allocA, pickA, buildA, fillA, convertA, extractA, ofComp, nilCheckA, makeFuncA, ptrs, ofValue, cellB, Nat.reduceAdd, Nat.reduceSub, Nat.reduceMul, Nat.reduceLT, Nat.reduceLeDiff, Nat.reduceGT, ↓reduceIte, Nat.reduceEqDiff, Nat.reduceBEq, reduceCtorEq, Int.reduceBEq, Int.reduceBNe, Int.reduceLT, Int.reduceLE, Int.reduceGT, Int.reduceGE, aggT_25, sizeT_25, bytesT_25, fieldT_25_0, fieldT_25_1, fieldT_25_2, fieldT_25_3, placesT_25, zeroT_25, aggT_23, sizeT_23, bytesT_23, und_23, elemT_23, zero1_23, zeroT_23, aggT_3, sizeT_3, bytesT_3, und_3, zero1_3, zeroT_3, aggT_4, sizeT_4, bytesT_4, und_4, zero1_4, zeroT_4, cdV, cdC, iV, bV, OD, hr]
  kernel_rfl
theorem enter54o (hx : ext 54 = none) (z : Bool) (l : List Cd) (d : Int) (out : Option Out)
   (h : run Tryd.prog ext (.k ⟨19, 1, [.tmp 4]⟩ (.code L54 :: .inLoop L54 :: K54) (E54 F55 z l 0) (OD d)) = out) :
   run Tryd.prog ext (.call 54 [cdsV z l, F55] (OD d)) = out := by
  rw [run_eq]
  simp only [stepA, hx, Tryd.func54, Tryd.f54]
  simp only [List.length_cons, List.length_nil, Nat.reduceAdd, Nat.reduceLeDiff, ↓reduceIte, List.zipIdx_cons, List.zipIdx_nil, List.map_cons, List.map_nil]
  simp only [zS, wantedA, opA, eff, boxA, cells, ev, gt, pt, putO, updO, setO, okC, loadA, cutC, fieldAddrA, fieldA, indexAddrA, indexA, builtinA, callOpA, callV, target, ptrV, lenS, binA, intOp, strOp, unA, num, lk, over, allocA, pickA, buildA, fillA, convertA, extractA, ofComp, nilCheckA, makeFuncA, ptrs, ofValue, cellB, Nat.reduceAdd, Nat.reduceSub, Nat.reduceMul, Nat.reduceLT, Nat.reduceLeDiff, Nat.reduceGT, ↓reduceIte, Nat.reduceEqDiff, Nat.reduceBEq, reduceCtorEq, Int.reduceBEq, Int.reduceBNe, Int.reduceLT, Int.reduceLE, Int.reduceGT, Int.reduceGE, aggT_25, sizeT_25, bytesT_25, fieldT_25_0, fieldT_25_1, fieldT_25_2, fieldT_25_3, placesT_25, zeroT_25, aggT_23, sizeT_23, bytesT_23, und_23, elemT_23, zero1_23, zeroT_23, aggT_3, sizeT_3, bytesT_3, und_3, zero1_3, zeroT_3, aggT_4, sizeT_4, bytesT_4, und_4, zero1_4, zeroT_4, cdsV, iV, F55, OD]
  refine (r_inLoop_some ?_).trans h
  kernel_rfl
theorem step54o (z : Bool) (l : List Cd) (y : Cd) (d b : Int) (c : Bool) (hi2 : b < l.length) (hi : 0 ≤ b) (hy : l[b.toNat]? = some y) (hr : run Tryd.prog ext (.call 55 [cdV y, .c (.ptr 0 0)] (OD d)) = some (.ret [bV c] (OD d))) (out : Option Out)
   (h : (if c then some (.ret [iV b] (OD d)) else run Tryd.prog ext (.k ⟨19, 1, [.tmp 4]⟩ (.code L54 :: .inLoop L54 :: K54) (E54 F55 z l (wr (b + 1))) (OD d))) = out) :
   run Tryd.prog ext (.k ⟨19, 1, [.tmp 4]⟩ (.code L54 :: .inLoop L54 :: K54) (E54 F55 z l b) (OD d)) = out := by
  rw [show (It.code L54) = It.code (sub B54 [1, 0, 1, 0, 0]) from rfl]
  have e := callA_of (rec := run Tryd.prog ext) (look := lk (OD d)) (slot := 1) (f := 55) (args := [cdV y, .c (.ptr 0 0)]) (ids := [0]) (bor := []) (e := ⟨.val (bV c), [(0, .box [.d (.v (.int .i64 d))])], [0]⟩) (by kernel_rfl) hr (by kernel_rfl)
  simp only [E54, iV, bV, cdsV, listD_of_lt hi hi2, F55, OD, cdV, cdC] at h e ⊢
  simp only [B54, K54, sub, Option.getD_some, Tryd.f54, ↓reduceIte, Nat.one_ne_zero]
  cases c with
  | true =>
    rw [if_pos rfl] at h
    simp only [zS, wantedA, opA, eff, boxA, cells, ev, gt, pt, putO, updO, setO, okC, loadA, cutC, fieldAddrA, fieldA, indexAddrA, indexA, builtinA, callOpA, callV, target, ptrV, lenS, binA, intOp, strOp, unA, num, lk, over, allocA, pickA, buildA, fillA, convertA, extractA, ofComp, nilCheckA, makeFuncA, ptrs, ofValue, cellB, Nat.reduceAdd, Nat.reduceSub, Nat.reduceMul, Nat.reduceLT, Nat.reduceLeDiff, Nat.reduceGT, ↓reduceIte, Nat.reduceEqDiff, Nat.reduceBEq, reduceCtorEq, Int.reduceBEq, Int.reduceBNe, Int.reduceLT, Int.reduceLE, Int.reduceGT, Int.reduceGE, aggT_25, sizeT_25, bytesT_25, fieldT_25_0, fieldT_25_1, fieldT_25_2, fieldT_25_3, placesT_25, zeroT_25, aggT_23, sizeT_23, bytesT_23, und_23, elemT_23, zero1_23, zeroT_23, aggT_3, sizeT_3, bytesT_3, und_3, zero1_3, zeroT_3, aggT_4, sizeT_4, bytesT_4, und_4, zero1_4, zeroT_4, hi, hi2, hy, encCd_eq y, e]
    refine Eq.trans ?_ h
    kernel_rfl
  | false =>
    rw [if_neg (by decide)] at h
    simp only [zS, wantedA, opA, eff, boxA, cells, ev, gt, pt, putO, updO, setO, okC, loadA, cutC, fieldAddrA, fieldA, indexAddrA, indexA, builtinA, callOpA, callV, target, ptrV, lenS, binA, intOp, strOp, unA, num, lk, over, allocA, pickA, buildA, fillA, convertA, extractA, ofComp, nilCheckA, makeFuncA, ptrs, ofValue, cellB, Nat.reduceAdd, Nat.reduceSub, Nat.reduceMul, Nat.reduceLT, Nat.reduceLeDiff, Nat.reduceGT, ↓reduceIte, Nat.reduceEqDiff, Nat.reduceBEq, reduceCtorEq, Int.reduceBEq, Int.reduceBNe, Int.reduceLT, Int.reduceLE, Int.reduceGT, Int.reduceGE, aggT_25, sizeT_25, bytesT_25, fieldT_25_0, fieldT_25_1, fieldT_25_2, fieldT_25_3, placesT_25, zeroT_25, aggT_23, sizeT_23, bytesT_23, und_23, elemT_23, zero1_23, zeroT_23, aggT_3, sizeT_3, bytesT_3, und_3, zero1_3, zeroT_3, aggT_4, sizeT_4, bytesT_4, und_4, zero1_4, zeroT_4, hi, hi2, hy, encCd_eq y, e]
    refine (r_inLoop_some ?_).trans h
    kernel_rfl
theorem done54o (z : Bool) (l : List Cd) (d b : Int) (hi2 : ¬ b < l.length) :
   run Tryd.prog ext (.k ⟨19, 1, [.tmp 4]⟩ (.code L54 :: .inLoop L54 :: K54) (E54 F55 z l b) (OD d)) = some (.ret [iV (-1)] (OD d)) := by
  rw [show (It.code L54) = It.code (sub B54 [1, 0, 1, 0, 0]) from rfl]
  simp only [E54, iV, F55, OD, cdsV]
  simp only [B54, K54, sub, Option.getD_some, Tryd.f54, ↓reduceIte, Nat.one_ne_zero]
  simp only [zS, wantedA, opA, eff, boxA, cells, ev, gt, pt, putO, updO, setO, okC, loadA, cutC, fieldAddrA, fieldA, indexAddrA, indexA, builtinA, callOpA, callV, target, ptrV, lenS, binA, intOp, strOp, unA, num, lk, over, allocA, pickA, buildA, fillA, convertA, extractA, ofComp, nilCheckA, makeFuncA, ptrs, ofValue, cellB, Nat.reduceAdd, Nat.reduceSub, Nat.reduceMul, Nat.reduceLT, Nat.reduceLeDiff, Nat.reduceGT, ↓reduceIte, Nat.reduceEqDiff, Nat.reduceBEq, reduceCtorEq, Int.reduceBEq, Int.reduceBNe, Int.reduceLT, Int.reduceLE, Int.reduceGT, Int.reduceGE, aggT_25, sizeT_25, bytesT_25, fieldT_25_0, fieldT_25_1, fieldT_25_2, fieldT_25_3, placesT_25, zeroT_25, aggT_23, sizeT_23, bytesT_23, und_23, elemT_23, zero1_23, zeroT_23, aggT_3, sizeT_3, bytesT_3, und_3, zero1_3, zeroT_3, aggT_4, sizeT_4, bytesT_4, und_4, zero1_4, zeroT_4, hi2]
  kernel_rfl
theorem index54o (hx : ext 54 = none) (z : Bool) (l : List Cd) (d : Int) (hl : l.length < 2 ^ 62) (hr : ∀ y ∈ l, ∃ c, run Tryd.prog ext (.call 55 [cdV y, .c (.ptr 0 0)] (OD d)) = some (.ret [bV c] (OD d))) :
    ∃ i : Int, run Tryd.prog ext (.call 54 [cdsV z l, F55] (OD d)) = some (.ret [iV i] (OD d)) := by
  have key : ∀ (m k : Nat), k + m = l.length → ∃ i : Int, run Tryd.prog ext (.k ⟨19, 1, [.tmp 4]⟩ (.code L54 :: .inLoop L54 :: K54) (E54 F55 z l k) (OD d)) = some (.ret [iV i] (OD d)) := by
    intro m
    induction m with
    | zero => intro k hk; exact ⟨-1, done54o ext z l d k (by omega)⟩
    | succ m ih =>
      intro k hk
      have hlt : k < l.length := by omega
      obtain ⟨c, hc⟩ := hr l[k] (List.getElem_mem hlt)
      cases c with
      | true => exact ⟨k, step54o ext z l l[k] d k true (by omega) (by omega) (by simp [hlt]) hc _ rfl⟩
      | false =>
        obtain ⟨i, h1⟩ := ih (k + 1) (by omega)
        refine ⟨i, step54o ext z l l[k] d k false (by omega) (by omega) (by simp [hlt]) hc _ ?_⟩
        rw [wr_id (by omega) (by omega)]
        simpa using h1
  obtain ⟨i, h1⟩ := key l.length 0 (by omega)
  exact ⟨i, enter54o ext hx z l d _ (by simpa using h1)⟩
theorem cont38o (hx : ext 38 = none) (z : Bool) (l : List Cd) (d i : Int) (hr : run Tryd.prog ext (.call 54 [cdsV z l, F55] (OD d)) = some (.ret [iV i] (OD d))) :
    run Tryd.prog ext (.call 38 [cdsV z l, F55] (OD d)) = some (.ret [bV (decide (i ≥ 0))] (OD d)) := by
  rw [run_eq]
  have e := callA_of (rec := run Tryd.prog ext) (look := lk (OD d)) (slot := 1) (f := 54) (args := [cdsV z l, F55]) (ids := [0]) (bor := []) (e := ⟨.val (iV i), [(0, .box [.d (.v (.int .i64 d))])], [0]⟩) (by kernel_rfl) hr (by kernel_rfl)
  simp only [stepA, hx, Tryd.func38, Tryd.f38]
  simp only [List.length_cons, List.length_nil, Nat.reduceAdd, Nat.reduceLeDiff, ↓reduceIte, List.zipIdx_cons, List.zipIdx_nil, List.map_cons, List.map_nil]
  simp only [cdsV, iV, F55, OD] at e ⊢
  simp only [zS, wantedA, opA, eff, boxA, cells, ev, gt, pt, putO, updO, setO, okC, loadA, cutC, fieldAddrA, fieldA, indexAddrA, indexA, builtinA, callOpA, callV, target, ptrV, lenS, binA, intOp, strOp, unA, num, lk, over, allocA, pickA, buildA, fillA, convertA, extractA, ofComp, nilCheckA, makeFuncA, ptrs, ofValue, cellB, Nat.reduceAdd, Nat.reduceSub, Nat.reduceMul, Nat.reduceLT, Nat.reduceLeDiff, Nat.reduceGT, ↓reduceIte, Nat.reduceEqDiff, Nat.reduceBEq, reduceCtorEq, Int.reduceBEq, Int.reduceBNe, Int.reduceLT, Int.reduceLE, Int.reduceGT, Int.reduceGE, aggT_25, sizeT_25, bytesT_25, fieldT_25_0, fieldT_25_1, fieldT_25_2, fieldT_25_3, placesT_25, zeroT_25, aggT_23, sizeT_23, bytesT_23, und_23, elemT_23, zero1_23, zeroT_23, aggT_3, sizeT_3, bytesT_3, und_3, zero1_3, zeroT_3, aggT_4, sizeT_4, bytesT_4, und_4, zero1_4, zeroT_4, e]
  refine Eq.trans ?_ rfl
  kernel_rfl
theorem enter41 (hx : ext 41 = none) (x : Cd) (d : Int) (c : Bool) (h1 : ¬ x.op = 1) (hr : run Tryd.prog ext (.call 38 [cdsV x.z x.l, F55] (OD (if x.op = 2 then wr (d + 1) else d))) = some (.ret [bV c] (OD (if x.op = 2 then wr (d + 1) else d)))) :
    run Tryd.prog ext (.call 41 [cdV x, iV d] []) = some (.ret [bV c] []) := by
  rw [run_eq]
  simp only [stepA, hx, Tryd.func41, Tryd.f41]
  simp only [List.length_cons, List.length_nil, Nat.reduceAdd, Nat.reduceLeDiff, ↓reduceIte, List.zipIdx_cons, List.zipIdx_nil, List.map_cons, List.map_nil]
  have key : ∀ d', (if x.op = 2 then wr (d + 1) else d) = d' → callA (run Tryd.prog ext) (lk [.box (cdC x), .box [.d (.v (.int .i64 d'))]]) 2 38 [cdsV x.z x.l, .c (.fn 55 [] [1])] = some ⟨.val (bV c), [(1, .box [.d (.v (.int .i64 d'))])], [1]⟩ := by
    intro d' hd
    rw [hd] at hr
    exact callA_of (ids := [1]) (bor := []) (by kernel_rfl) hr (by kernel_rfl)
  by_cases h3 : x.op = 2
  · have e := key (wr (d + 1)) (by rw [if_pos h3])
    simp only [cdV, cdC, iV, bV, cdsV, h3] at e ⊢
    simp only [zS, wantedA, opA, eff, boxA, cells, ev, gt, pt, putO, updO, setO, okC, loadA, cutC, fieldAddrA, fieldA, indexAddrA, indexA, builtinA, callOpA, callV, target, ptrV, lenS, binA, intOp, strOp, unA, num, lk, over, allocA, pickA, buildA, fillA, convertA, extractA, ofComp, nilCheckA, makeFuncA, ptrs, ofValue, cellB, Nat.reduceAdd, Nat.reduceSub, Nat.reduceMul, Nat.reduceLT, Nat.reduceLeDiff, Nat.reduceGT, ↓reduceIte, Nat.reduceEqDiff, Nat.reduceBEq, reduceCtorEq, Int.reduceBEq, Int.reduceBNe, Int.reduceLT, Int.reduceLE, Int.reduceGT, Int.reduceGE, aggT_25, sizeT_25, bytesT_25, fieldT_25_0, fieldT_25_1, fieldT_25_2, fieldT_25_3, placesT_25, zeroT_25, aggT_23, sizeT_23, bytesT_23, und_23, elemT_23, zero1_23, zeroT_23, aggT_3, sizeT_3, bytesT_3, und_3, zero1_3, zeroT_3, aggT_4, sizeT_4, bytesT_4, und_4, zero1_4, zeroT_4, h3]
    have e1 : listD x.z (x.l.map encCd) = lD x := id rfl
    rw [e1] at e
    simp only [zS, wantedA, opA, eff, boxA, cells, ev, gt, pt, putO, updO, setO, okC, loadA, cutC, fieldAddrA, fieldA, indexAddrA, indexA, builtinA, callOpA, callV, target, ptrV, lenS, binA, intOp, strOp, unA, num, lk, over, allocA, pickA, buildA, fillA, convertA, extractA, ofComp, nilCheckA, makeFuncA, ptrs, ofValue, cellB, Nat.reduceAdd, Nat.reduceSub, Nat.reduceMul, Nat.reduceLT, Nat.reduceLeDiff, Nat.reduceGT, ↓reduceIte, Nat.reduceEqDiff, Nat.reduceBEq, reduceCtorEq, Int.reduceBEq, Int.reduceBNe, Int.reduceLT, Int.reduceLE, Int.reduceGT, Int.reduceGE, aggT_25, sizeT_25, bytesT_25, fieldT_25_0, fieldT_25_1, fieldT_25_2, fieldT_25_3, placesT_25, zeroT_25, aggT_23, sizeT_23, bytesT_23, und_23, elemT_23, zero1_23, zeroT_23, aggT_3, sizeT_3, bytesT_3, und_3, zero1_3, zeroT_3, aggT_4, sizeT_4, bytesT_4, und_4, zero1_4, zeroT_4, h3, e]
    refine Eq.trans ?_ rfl
    kernel_rfl
  · have e := key d (by rw [if_neg h3])
    have e1 : listD x.z (x.l.map encCd) = lD x := id rfl
    simp only [cdV, cdC, iV, bV, cdsV, e1] at e ⊢
    simp only [zS, wantedA, opA, eff, boxA, cells, ev, gt, pt, putO, updO, setO, okC, loadA, cutC, fieldAddrA, fieldA, indexAddrA, indexA, builtinA, callOpA, callV, target, ptrV, lenS, binA, intOp, strOp, unA, num, lk, over, allocA, pickA, buildA, fillA, convertA, extractA, ofComp, nilCheckA, makeFuncA, ptrs, ofValue, cellB, Nat.reduceAdd, Nat.reduceSub, Nat.reduceMul, Nat.reduceLT, Nat.reduceLeDiff, Nat.reduceGT, ↓reduceIte, Nat.reduceEqDiff, Nat.reduceBEq, reduceCtorEq, Int.reduceBEq, Int.reduceBNe, Int.reduceLT, Int.reduceLE, Int.reduceGT, Int.reduceGE, aggT_25, sizeT_25, bytesT_25, fieldT_25_0, fieldT_25_1, fieldT_25_2, fieldT_25_3, placesT_25, zeroT_25, aggT_23, sizeT_23, bytesT_23, und_23, elemT_23, zero1_23, zeroT_23, aggT_3, sizeT_3, bytesT_3, und_3, zero1_3, zeroT_3, aggT_4, sizeT_4, bytesT_4, und_4, zero1_4, zeroT_4, h1, h3, e]
    refine Eq.trans ?_ rfl
    kernel_rfl
theorem var41 (hx : ext 41 = none) (x : Cd) (d : Int) (h1 : x.op = 1) : run Tryd.prog ext (.call 41 [cdV x, iV d] []) = some (.ret [bV (decide (x.n ≥ d))] []) := by
  rw [run_eq]
  simp only [stepA, hx, Tryd.func41, Tryd.f41]
  simp only [List.length_cons, List.length_nil, Nat.reduceAdd, Nat.reduceLeDiff, ↓reduceIte, List.zipIdx_cons, List.zipIdx_nil, List.map_cons, List.map_nil]
  simp only [zS, wantedA, opA, eff, boxA, cells, ev, gt, pt, putO, updO, setO, okC, loadA, cutC, fieldAddrA, fieldA, indexAddrA, indexA, builtinA, callOpA, callV, target, ptrV, lenS, binA, intOp, strOp, unA, num, lk, over, allocA, pickA, buildA, fillA, convertA, extractA, ofComp, nilCheckA, makeFuncA, ptrs, ofValue, cellB, Nat.reduceAdd, Nat.reduceSub, Nat.reduceMul, Nat.reduceLT, Nat.reduceLeDiff, Nat.reduceGT, ↓reduceIte, Nat.reduceEqDiff, Nat.reduceBEq, reduceCtorEq, Int.reduceBEq, Int.reduceBNe, Int.reduceLT, Int.reduceLE, Int.reduceGT, Int.reduceGE, aggT_25, sizeT_25, bytesT_25, fieldT_25_0, fieldT_25_1, fieldT_25_2, fieldT_25_3, placesT_25, zeroT_25, aggT_23, sizeT_23, bytesT_23, und_23, elemT_23, zero1_23, zeroT_23, aggT_3, sizeT_3, bytesT_3, und_3, zero1_3, zeroT_3, aggT_4, sizeT_4, bytesT_4, und_4, zero1_4, zeroT_4, cdV, cdC, iV, h1]
  kernel_rfl
/-- It comes to some bool. -/
theorem open41 (h41 : ext 41 = none) (h38 : ext 38 = none) (h54 : ext 54 = none) (h55 : ext 55 = none) : ∀ (n : Nat) (x : Cd) (d : Int), x.size ≤ n → n < 2 ^ 62 → ∃ c, run Tryd.prog ext (.call 41 [cdV x, iV d] []) = some (.ret [bV c] [])
  | 0, x, d, h, _ => by have := x.size_pos; omega
  | n + 1, x, d, h, hn => by
    by_cases h1 : x.op = 1
    · exact ⟨_, var41 ext h41 x d h1⟩
    generalize hd : (if x.op = 2 then wr (d + 1) else d) = d'
    have hl := x.len_lt
    obtain ⟨i, hi⟩ := index54o ext h54 x.z x.l d' (by omega) (fun y hy => by
      obtain ⟨c, hc⟩ := open41 h41 h38 h54 h55 n y d' (by have := Cd.size_lt hy; omega) (by omega)
      exact ⟨c, clo55 ext h55 y d' c hc⟩)
    exact ⟨_, enter41 ext h41 x d _ h1 (by rw [hd]; exact cont38o ext h38 x.z x.l d' i hi)⟩
end Go.Proofs.YtmjacokkgfophaaDoor.Am
end
section
/- few: true only of a code with at most so many nodes. -/
namespace Go.Proofs.YtmjacokkgfophaaDoor.Am
open Go
variable (ext : Ext)
set_option maxHeartbeats 4000000
def OF (n m : Int) : List O := [.box [.d (.v (.int .i64 n))], .box [.d (.v (.int .i64 m))], .box [.fn 56 [] [0, 1, 2]]]
def OG (n m : Int) : List O := [.box [.fn 56 [] [1, 2, 0]], .box [.d (.v (.int .i64 n))], .box [.d (.v (.int .i64 m))]]
def F57 : V := .c (.fn 57 [] [0])
theorem clo57 (hx : ext 57 = none) (y : Cd) (n n' m : Int) (b : Bool) (hr : run Tryd.prog ext (.call 56 [cdV y, .c (.ptr 0 0), .c (.ptr 1 0), .c (.ptr 2 0)] (OF n m)) = some (.ret [bV b] (OF n' m))) :
   run Tryd.prog ext (.call 57 [cdV y, .c (.ptr 0 0)] (OG n m)) = some (.ret [bV (!b)] (OG n' m)) := by
  rw [run_eq]
  have e := callA_of (rec := run Tryd.prog ext) (look := lk (OG n m ++ [.box (cdC y)])) (slot := 4) (f := 56) (args := [cdV y, .c (.ptr 1 0), .c (.ptr 2 0), .c (.ptr 0 0)]) (ids := [1, 2, 0]) (bor := []) (e := ⟨.val (bV b), [(1, .box [.d (.v (.int .i64 n'))]), (2, .box [.d (.v (.int .i64 m))]), (0, .box [.fn 56 [] [1, 2, 0]])], [1, 2, 0]⟩) (by kernel_rfl) hr (by kernel_rfl)
  simp only [stepA, hx, Tryd.func57, Tryd.f57]
  simp only [List.length_cons, List.length_nil, Nat.reduceAdd, Nat.reduceLeDiff, ↓reduceIte, List.zipIdx_cons, List.zipIdx_nil, List.map_cons, List.map_nil]
  simp only [cdV, cdC, bV, OG, List.cons_append, List.nil_append] at e ⊢
  simp only [zS, wantedA, opA, eff, boxA, cells, ev, gt, pt, putO, updO, setO, okC, loadA, cutC, fieldAddrA, fieldA, indexAddrA, indexA, builtinA, callOpA, callV, target, ptrV, lenS, binA, intOp, strOp, unA, num, lk, over, allocA, pickA, buildA, fillA, convertA, extractA, ofComp, nilCheckA, makeFuncA, ptrs, ofValue, cellB, Nat.reduceAdd, Nat.reduceSub, Nat.reduceMul, Nat.reduceLT, Nat.reduceLeDiff, Nat.reduceGT, ↓reduceIte, Nat.reduceEqDiff, Nat.reduceBEq, reduceCtorEq, Int.reduceBEq, Int.reduceBNe, Int.reduceLT, Int.reduceLE, Int.reduceGT, Int.reduceGE, aggT_25, sizeT_25, bytesT_25, fieldT_25_0, fieldT_25_1, fieldT_25_2, fieldT_25_3, placesT_25, zeroT_25, aggT_23, sizeT_23, bytesT_23, und_23, elemT_23, zero1_23, zeroT_23, aggT_3, sizeT_3, bytesT_3, und_3, zero1_3, zeroT_3, aggT_4, sizeT_4, bytesT_4, und_4, zero1_4, zeroT_4, aggT_54, sizeT_54, bytesT_54, zero1_54, zeroT_54, e]
  refine Eq.trans ?_ rfl
  kernel_rfl
theorem enter54f (hx : ext 54 = none) (z : Bool) (l : List Cd) (n m : Int) (out : Option Out)
   (h : run Tryd.prog ext (.k ⟨19, 3, [.tmp 4]⟩ (.code L54 :: .inLoop L54 :: K54) (E54 F57 z l 0) (OG n m)) = out) :
   run Tryd.prog ext (.call 54 [cdsV z l, F57] (OG n m)) = out := by
  rw [run_eq]
  simp only [stepA, hx, Tryd.func54, Tryd.f54]
  simp only [List.length_cons, List.length_nil, Nat.reduceAdd, Nat.reduceLeDiff, ↓reduceIte, List.zipIdx_cons, List.zipIdx_nil, List.map_cons, List.map_nil]
  simp only [zS, wantedA, opA, eff, boxA, cells, ev, gt, pt, putO, updO, setO, okC, loadA, cutC, fieldAddrA, fieldA, indexAddrA, indexA, builtinA, callOpA, callV, target, ptrV, lenS, binA, intOp, strOp, unA, num, lk, over, allocA, pickA, buildA, fillA, convertA, extractA, ofComp, nilCheckA, makeFuncA, ptrs, ofValue, cellB, Nat.reduceAdd, Nat.reduceSub, Nat.reduceMul, Nat.reduceLT, Nat.reduceLeDiff, Nat.reduceGT, ↓reduceIte, Nat.reduceEqDiff, Nat.reduceBEq, reduceCtorEq, Int.reduceBEq, Int.reduceBNe, Int.reduceLT, Int.reduceLE, Int.reduceGT, Int.reduceGE, aggT_25, sizeT_25, bytesT_25, fieldT_25_0, fieldT_25_1, fieldT_25_2, fieldT_25_3, placesT_25, zeroT_25, aggT_23, sizeT_23, bytesT_23, und_23, elemT_23, zero1_23, zeroT_23, aggT_3, sizeT_3, bytesT_3, und_3, zero1_3, zeroT_3, aggT_4, sizeT_4, bytesT_4, und_4, zero1_4, zeroT_4, cdsV, iV, F57, OG]
  refine (r_inLoop_some ?_).trans h
  kernel_rfl
theorem step54f (z : Bool) (l : List Cd) (y : Cd) (n n' m b : Int) (c : Bool) (hi2 : b < l.length) (hi : 0 ≤ b) (hy : l[b.toNat]? = some y) (hr : run Tryd.prog ext (.call 57 [cdV y, .c (.ptr 0 0)] (OG n m)) = some (.ret [bV c] (OG n' m))) (out : Option Out)
   (h : (if c then some (.ret [iV b] (OG n' m)) else run Tryd.prog ext (.k ⟨19, 3, [.tmp 4]⟩ (.code L54 :: .inLoop L54 :: K54) (E54 F57 z l (wr (b + 1))) (OG n' m))) = out) :
   run Tryd.prog ext (.k ⟨19, 3, [.tmp 4]⟩ (.code L54 :: .inLoop L54 :: K54) (E54 F57 z l b) (OG n m)) = out := by
  rw [show (It.code L54) = It.code (sub B54 [1, 0, 1, 0, 0]) from rfl]
  have e := callA_of (rec := run Tryd.prog ext) (look := lk (OG n m)) (slot := 3) (f := 57) (args := [cdV y, .c (.ptr 0 0)]) (ids := [0, 1, 2]) (bor := []) (e := ⟨.val (bV c), [(0, .box [.fn 56 [] [1, 2, 0]]), (1, .box [.d (.v (.int .i64 n'))]), (2, .box [.d (.v (.int .i64 m))])], [0, 1, 2]⟩) (by kernel_rfl) hr (by kernel_rfl)
  simp only [E54, iV, bV, cdsV, listD_of_lt hi hi2, F57, OG, cdV, cdC] at h e ⊢
  simp only [B54, K54, sub, Option.getD_some, Tryd.f54, ↓reduceIte, Nat.one_ne_zero]
  cases c with
  | true =>
    rw [if_pos rfl] at h
    simp only [zS, wantedA, opA, eff, boxA, cells, ev, gt, pt, putO, updO, setO, okC, loadA, cutC, fieldAddrA, fieldA, indexAddrA, indexA, builtinA, callOpA, callV, target, ptrV, lenS, binA, intOp, strOp, unA, num, lk, over, allocA, pickA, buildA, fillA, convertA, extractA, ofComp, nilCheckA, makeFuncA, ptrs, ofValue, cellB, Nat.reduceAdd, Nat.reduceSub, Nat.reduceMul, Nat.reduceLT, Nat.reduceLeDiff, Nat.reduceGT, ↓reduceIte, Nat.reduceEqDiff, Nat.reduceBEq, reduceCtorEq, Int.reduceBEq, Int.reduceBNe, Int.reduceLT, Int.reduceLE, Int.reduceGT, Int.reduceGE, aggT_25, sizeT_25, bytesT_25, fieldT_25_0, fieldT_25_1, fieldT_25_2, fieldT_25_3, placesT_25, zeroT_25, aggT_23, sizeT_23, bytesT_23, und_23, elemT_23, zero1_23, zeroT_23, aggT_3, sizeT_3, bytesT_3, und_3, zero1_3, zeroT_3, aggT_4, sizeT_4, bytesT_4, und_4, zero1_4, zeroT_4, hi, hi2, hy, encCd_eq y, e]
    refine Eq.trans ?_ h
    kernel_rfl
  | false =>
    rw [if_neg (by decide)] at h
    simp only [zS, wantedA, opA, eff, boxA, cells, ev, gt, pt, putO, updO, setO, okC, loadA, cutC, fieldAddrA, fieldA, indexAddrA, indexA, builtinA, callOpA, callV, target, ptrV, lenS, binA, intOp, strOp, unA, num, lk, over, allocA, pickA, buildA, fillA, convertA, extractA, ofComp, nilCheckA, makeFuncA, ptrs, ofValue, cellB, Nat.reduceAdd, Nat.reduceSub, Nat.reduceMul, Nat.reduceLT, Nat.reduceLeDiff, Nat.reduceGT, ↓reduceIte, Nat.reduceEqDiff, Nat.reduceBEq, reduceCtorEq, Int.reduceBEq, Int.reduceBNe, Int.reduceLT, Int.reduceLE, Int.reduceGT, Int.reduceGE, aggT_25, sizeT_25, bytesT_25, fieldT_25_0, fieldT_25_1, fieldT_25_2, fieldT_25_3, placesT_25, zeroT_25, aggT_23, sizeT_23, bytesT_23, und_23, elemT_23, zero1_23, zeroT_23, aggT_3, sizeT_3, bytesT_3, und_3, zero1_3, zeroT_3, aggT_4, sizeT_4, bytesT_4, und_4, zero1_4, zeroT_4, hi, hi2, hy, encCd_eq y, e]
    refine (r_inLoop_some ?_).trans h
    kernel_rfl
theorem done54f (z : Bool) (l : List Cd) (n m b : Int) (hi2 : ¬ b < l.length) :
   run Tryd.prog ext (.k ⟨19, 3, [.tmp 4]⟩ (.code L54 :: .inLoop L54 :: K54) (E54 F57 z l b) (OG n m)) = some (.ret [iV (-1)] (OG n m)) := by
  rw [show (It.code L54) = It.code (sub B54 [1, 0, 1, 0, 0]) from rfl]
  simp only [E54, iV, F57, OG, cdsV]
  simp only [B54, K54, sub, Option.getD_some, Tryd.f54, ↓reduceIte, Nat.one_ne_zero]
  simp only [zS, wantedA, opA, eff, boxA, cells, ev, gt, pt, putO, updO, setO, okC, loadA, cutC, fieldAddrA, fieldA, indexAddrA, indexA, builtinA, callOpA, callV, target, ptrV, lenS, binA, intOp, strOp, unA, num, lk, over, allocA, pickA, buildA, fillA, convertA, extractA, ofComp, nilCheckA, makeFuncA, ptrs, ofValue, cellB, Nat.reduceAdd, Nat.reduceSub, Nat.reduceMul, Nat.reduceLT, Nat.reduceLeDiff, Nat.reduceGT, ↓reduceIte, Nat.reduceEqDiff, Nat.reduceBEq, reduceCtorEq, Int.reduceBEq, Int.reduceBNe, Int.reduceLT, Int.reduceLE, Int.reduceGT, Int.reduceGE, aggT_25, sizeT_25, bytesT_25, fieldT_25_0, fieldT_25_1, fieldT_25_2, fieldT_25_3, placesT_25, zeroT_25, aggT_23, sizeT_23, bytesT_23, und_23, elemT_23, zero1_23, zeroT_23, aggT_3, sizeT_3, bytesT_3, und_3, zero1_3, zeroT_3, aggT_4, sizeT_4, bytesT_4, und_4, zero1_4, zeroT_4, hi2]
  kernel_rfl
theorem cont38f (hx : ext 38 = none) (z : Bool) (l : List Cd) (n n' m i : Int) (hr : run Tryd.prog ext (.call 54 [cdsV z l, F57] (OG n m)) = some (.ret [iV i] (OG n' m))) :
    run Tryd.prog ext (.call 38 [cdsV z l, F57] (OG n m)) = some (.ret [bV (decide (i ≥ 0))] (OG n' m)) := by
  rw [run_eq]
  have e := callA_of (rec := run Tryd.prog ext) (look := lk (OG n m)) (slot := 3) (f := 54) (args := [cdsV z l, F57]) (ids := [0, 1, 2]) (bor := []) (e := ⟨.val (iV i), [(0, .box [.fn 56 [] [1, 2, 0]]), (1, .box [.d (.v (.int .i64 n'))]), (2, .box [.d (.v (.int .i64 m))])], [0, 1, 2]⟩) (by kernel_rfl) hr (by kernel_rfl)
  simp only [stepA, hx, Tryd.func38, Tryd.f38]
  simp only [List.length_cons, List.length_nil, Nat.reduceAdd, Nat.reduceLeDiff, ↓reduceIte, List.zipIdx_cons, List.zipIdx_nil, List.map_cons, List.map_nil]
  simp only [cdsV, iV, F57, OG] at e ⊢
  simp only [zS, wantedA, opA, eff, boxA, cells, ev, gt, pt, putO, updO, setO, okC, loadA, cutC, fieldAddrA, fieldA, indexAddrA, indexA, builtinA, callOpA, callV, target, ptrV, lenS, binA, intOp, strOp, unA, num, lk, over, allocA, pickA, buildA, fillA, convertA, extractA, ofComp, nilCheckA, makeFuncA, ptrs, ofValue, cellB, Nat.reduceAdd, Nat.reduceSub, Nat.reduceMul, Nat.reduceLT, Nat.reduceLeDiff, Nat.reduceGT, ↓reduceIte, Nat.reduceEqDiff, Nat.reduceBEq, reduceCtorEq, Int.reduceBEq, Int.reduceBNe, Int.reduceLT, Int.reduceLE, Int.reduceGT, Int.reduceGE, aggT_25, sizeT_25, bytesT_25, fieldT_25_0, fieldT_25_1, fieldT_25_2, fieldT_25_3, placesT_25, zeroT_25, aggT_23, sizeT_23, bytesT_23, und_23, elemT_23, zero1_23, zeroT_23, aggT_3, sizeT_3, bytesT_3, und_3, zero1_3, zeroT_3, aggT_4, sizeT_4, bytesT_4, und_4, zero1_4, zeroT_4, e]
  refine Eq.trans ?_ rfl
  kernel_rfl
theorem over56 (hx : ext 56 = none) (x : Cd) (n m : Int) (h1 : ¬ wr (n + 1) ≤ m) :
    run Tryd.prog ext (.call 56 [cdV x, .c (.ptr 0 0), .c (.ptr 1 0), .c (.ptr 2 0)] (OF n m)) = some (.ret [bV false] (OF (wr (n + 1)) m)) := by
  rw [run_eq]
  simp only [stepA, hx, Tryd.func56, Tryd.f56]
  simp only [List.length_cons, List.length_nil, Nat.reduceAdd, Nat.reduceLeDiff, ↓reduceIte, List.zipIdx_cons, List.zipIdx_nil, List.map_cons, List.map_nil]
  simp only [zS, wantedA, opA, eff, boxA, cells, ev, gt, pt, putO, updO, setO, okC, loadA, cutC, fieldAddrA, fieldA, indexAddrA, indexA, builtinA, callOpA, callV, target, ptrV, lenS, binA, intOp, strOp, unA, num, lk, over, allocA, pickA, buildA, fillA, convertA, extractA, ofComp, nilCheckA, makeFuncA, ptrs, ofValue, cellB, Nat.reduceAdd, Nat.reduceSub, Nat.reduceMul, Nat.reduceLT, Nat.reduceLeDiff, Nat.reduceGT, ↓reduceIte, Nat.reduceEqDiff, Nat.reduceBEq, reduceCtorEq, Int.reduceBEq, Int.reduceBNe, Int.reduceLT, Int.reduceLE, Int.reduceGT, Int.reduceGE, aggT_25, sizeT_25, bytesT_25, fieldT_25_0, fieldT_25_1, fieldT_25_2, fieldT_25_3, placesT_25, zeroT_25, aggT_23, sizeT_23, bytesT_23, und_23, elemT_23, zero1_23, zeroT_23, aggT_3, sizeT_3, bytesT_3, und_3, zero1_3, zeroT_3, aggT_4, sizeT_4, bytesT_4, und_4, zero1_4, zeroT_4, cdV, cdC, OF, bV, h1]
  kernel_rfl
theorem within56 (hx : ext 56 = none) (x : Cd) (n n' m : Int) (c : Bool) (h1 : wr (n + 1) ≤ m) (hr : run Tryd.prog ext (.call 38 [cdsV x.z x.l, F57] (OG (wr (n + 1)) m)) = some (.ret [bV c] (OG n' m))) :
    run Tryd.prog ext (.call 56 [cdV x, .c (.ptr 0 0), .c (.ptr 1 0), .c (.ptr 2 0)] (OF n m)) = some (.ret [bV (!c)] (OF n' m)) := by
  rw [run_eq]
  have e := callA_of (rec := run Tryd.prog ext) (look := lk (OF (wr (n + 1)) m ++ [.box (cdC x)])) (slot := 4) (f := 38) (args := [cdsV x.z x.l, .c (.fn 57 [] [2])]) (ids := [2, 0, 1]) (bor := []) (e := ⟨.val (bV c), [(2, .box [.fn 56 [] [0, 1, 2]]), (0, .box [.d (.v (.int .i64 n'))]), (1, .box [.d (.v (.int .i64 m))])], [2, 0, 1]⟩) (by kernel_rfl) hr (by kernel_rfl)
  have e1 : listD x.z (x.l.map encCd) = lD x := id rfl
  simp only [stepA, hx, Tryd.func56, Tryd.f56]
  simp only [List.length_cons, List.length_nil, Nat.reduceAdd, Nat.reduceLeDiff, ↓reduceIte, List.zipIdx_cons, List.zipIdx_nil, List.map_cons, List.map_nil]
  simp only [cdV, cdC, cdsV, e1, bV, OF, List.cons_append, List.nil_append] at e ⊢
  simp only [zS, wantedA, opA, eff, boxA, cells, ev, gt, pt, putO, updO, setO, okC, loadA, cutC, fieldAddrA, fieldA, indexAddrA, indexA, builtinA, callOpA, callV, target, ptrV, lenS, binA, intOp, strOp, unA, num, lk, over, allocA, pickA, buildA, fillA, convertA, extractA, ofComp, nilCheckA, makeFuncA, ptrs, ofValue, cellB, Nat.reduceAdd, Nat.reduceSub, Nat.reduceMul, Nat.reduceLT, Nat.reduceLeDiff, Nat.reduceGT, ↓reduceIte, Nat.reduceEqDiff, Nat.reduceBEq, reduceCtorEq, Int.reduceBEq, Int.reduceBNe, Int.reduceLT, Int.reduceLE, Int.reduceGT, Int.reduceGE, aggT_25, sizeT_25, bytesT_25, fieldT_25_0, fieldT_25_1, fieldT_25_2, fieldT_25_3, placesT_25, zeroT_25, aggT_23, sizeT_23, bytesT_23, und_23, elemT_23, zero1_23, zeroT_23, aggT_3, sizeT_3, bytesT_3, und_3, zero1_3, zeroT_3, aggT_4, sizeT_4, bytesT_4, und_4, zero1_4, zeroT_4, h1, e]
  refine Eq.trans ?_ rfl
  kernel_rfl
/-- What the counting of a code does, from a number on. -/
def Counts (x : Cd) (m : Int) : Prop := ∀ n : Int, 0 ≤ n → n + x.size < 2 ^ 62 → ∃ b n', run Tryd.prog ext (.call 56 [cdV x, .c (.ptr 0 0), .c (.ptr 1 0), .c (.ptr 2 0)] (OF n m)) = some (.ret [bV b] (OF n' m)) ∧ n ≤ n' ∧ n' ≤ n + x.size ∧ (b = true → n' = n + x.size ∧ n' ≤ m)
theorem index54f (hx : ext 54 = none) (hx7 : ext 57 = none) (z : Bool) (l : List Cd) (m : Int) (hl : l.length < 2 ^ 62) (hr : ∀ y ∈ l, Counts ext y m) (n : Int) (h0 : 0 ≤ n) (hn : n + (l.map Cd.size).sum < 2 ^ 62) (hnm : n ≤ m) :
    ∃ i n', run Tryd.prog ext (.call 54 [cdsV z l, F57] (OG n m)) = some (.ret [iV i] (OG n' m)) ∧ n ≤ n' ∧ n' ≤ n + (l.map Cd.size).sum ∧ (i < 0 → n' = n + (l.map Cd.size).sum ∧ n' ≤ m) := by
  have key : ∀ (j k : Nat) (a : Int), k + j = l.length → 0 ≤ a → a ≤ m → a + ((l.drop k).map Cd.size).sum < 2 ^ 62 → ∃ i n', run Tryd.prog ext (.k ⟨19, 3, [.tmp 4]⟩ (.code L54 :: .inLoop L54 :: K54) (E54 F57 z l k) (OG a m)) = some (.ret [iV i] (OG n' m)) ∧ a ≤ n' ∧ n' ≤ a + ((l.drop k).map Cd.size).sum ∧ (i < 0 → n' = a + ((l.drop k).map Cd.size).sum ∧ n' ≤ m) := by
    intro j
    induction j with
    | zero =>
      intro k a hk ha ham hs
      rw [List.drop_eq_nil_of_le (by omega)]
      exact ⟨-1, a, done54f ext z l a m k (by omega), by omega, by simp, fun _ => ⟨by simp, ham⟩⟩
    | succ j ih =>
      intro k a hk ha ham hs
      have hlt : k < l.length := by omega
      have hd : l.drop k = l[k] :: l.drop (k + 1) := List.drop_eq_getElem_cons hlt
      rw [hd, List.map_cons, List.sum_cons] at hs ⊢
      obtain ⟨b, n', h1, h2, h3, h4⟩ := hr l[k] (List.getElem_mem hlt) a ha (by omega)
      have hc := clo57 ext hx7 l[k] a n' m b h1
      cases b with
      | false => exact ⟨k, n', step54f ext z l l[k] a n' m k true (by omega) (by omega) (by simp [hlt]) hc _ rfl, h2, by omega, fun h => by omega⟩
      | true =>
        obtain ⟨h5, h6⟩ := h4 rfl
        obtain ⟨i, n2, g1, g2, g3, g4⟩ := ih (k + 1) n' (by omega) (by omega) h6 (by omega)
        refine ⟨i, n2, step54f ext z l l[k] a n' m k false (by omega) (by omega) (by simp [hlt]) hc _ ?_, by omega, by omega, fun h => by have := g4 h; omega⟩
        rw [wr_id (by omega) (by omega)]
        simpa using g1
  obtain ⟨i, n', h1, h2, h3, h4⟩ := key l.length 0 n (by omega) h0 hnm (by simpa using hn)
  exact ⟨i, n', enter54f ext hx z l n m _ (by simpa using h1), h2, by simpa using h3, by simpa using h4⟩
theorem counts56 (h56 : ext 56 = none) (h57 : ext 57 = none) (h38 : ext 38 = none) (h54 : ext 54 = none) (m : Int) : ∀ (k : Nat) (x : Cd), x.size ≤ k → k < 2 ^ 62 → Counts ext x m
  | 0, x, h, _ => by have := x.size_pos; omega
  | k + 1, x, h, hk => by
    intro n h0 hn
    have hp := x.size_pos
    have hw : wr (n + 1) = n + 1 := wr_id (by omega) (by omega)
    by_cases h1 : wr (n + 1) ≤ m
    · have he := x.size_eq
      have hl := x.len_lt
      obtain ⟨i, n', g1, g2, g3, g4⟩ := index54f ext h54 h57 x.z x.l m (by omega) (fun y hy => counts56 h56 h57 h38 h54 m k y (by have := Cd.size_lt hy; omega) (by omega)) (wr (n + 1)) (by omega) (by omega) h1
      refine ⟨_, n', within56 ext h56 x n n' m _ h1 (cont38f ext h38 x.z x.l _ n' m i g1), by omega, by omega, fun h => ?_⟩
      simp at h
      have := g4 h
      omega
    · exact ⟨false, wr (n + 1), over56 ext h56 x n m h1, by omega, by omega, fun h => by cases h⟩
theorem enter43 (hx : ext 43 = none) (x : Cd) (m n' : Int) (b : Bool) (hr : run Tryd.prog ext (.call 56 [cdV x, .c (.ptr 0 0), .c (.ptr 1 0), .c (.ptr 2 0)] (OF 0 m)) = some (.ret [bV b] (OF n' m))) :
    run Tryd.prog ext (.call 43 [cdV x, iV m] []) = some (.ret [bV b] []) := by
  rw [run_eq]
  have e := callA_of (rec := run Tryd.prog ext) (look := lk [.box (cdC x), .box [.d (.v (.int .i64 m))], .box [.d (.v (.int .i64 0))], .box [.fn 56 [] [2, 1, 3]]]) (slot := 4) (f := 56) (args := [cdV x, .c (.ptr 2 0), .c (.ptr 1 0), .c (.ptr 3 0)]) (ids := [2, 1, 3]) (bor := []) (e := ⟨.val (bV b), [(2, .box [.d (.v (.int .i64 n'))]), (1, .box [.d (.v (.int .i64 m))]), (3, .box [.fn 56 [] [2, 1, 3]])], [2, 1, 3]⟩) (by kernel_rfl) hr (by kernel_rfl)
  simp only [stepA, hx, Tryd.func43, Tryd.f43]
  simp only [List.length_cons, List.length_nil, Nat.reduceAdd, Nat.reduceLeDiff, ↓reduceIte, List.zipIdx_cons, List.zipIdx_nil, List.map_cons, List.map_nil]
  simp only [cdV, cdC, bV, iV] at e ⊢
  simp only [zS, wantedA, opA, eff, boxA, cells, ev, gt, pt, putO, updO, setO, okC, loadA, cutC, fieldAddrA, fieldA, indexAddrA, indexA, builtinA, callOpA, callV, target, ptrV, lenS, binA, intOp, strOp, unA, num, lk, over, allocA, pickA, buildA, fillA, convertA, extractA, ofComp, nilCheckA, makeFuncA, ptrs, ofValue, cellB, Nat.reduceAdd, Nat.reduceSub, Nat.reduceMul, Nat.reduceLT, Nat.reduceLeDiff, Nat.reduceGT, ↓reduceIte, Nat.reduceEqDiff, Nat.reduceBEq, reduceCtorEq, Int.reduceBEq, Int.reduceBNe, Int.reduceLT, Int.reduceLE, Int.reduceGT, Int.reduceGE, aggT_25, sizeT_25, bytesT_25, fieldT_25_0, fieldT_25_1, fieldT_25_2, fieldT_25_3, placesT_25, zeroT_25, aggT_23, sizeT_23, bytesT_23, und_23, elemT_23, zero1_23, zeroT_23, aggT_3, sizeT_3, bytesT_3, und_3, zero1_3, zeroT_3, aggT_4, sizeT_4, bytesT_4, und_4, zero1_4, zeroT_4, aggT_54, sizeT_54, bytesT_54, zero1_54, zeroT_54, e]
  refine Eq.trans ?_ rfl
  kernel_rfl
theorem few43 (h43 : ext 43 = none) (h56 : ext 56 = none) (h57 : ext 57 = none) (h38 : ext 38 = none) (h54 : ext 54 = none) (x : Cd) (m : Int) (hs : x.size < 2 ^ 62) :
    ∃ b, run Tryd.prog ext (.call 43 [cdV x, iV m] []) = some (.ret [bV b] []) ∧ (b = true → x.size ≤ m) := by
  obtain ⟨b, n', h1, h2, h3, h4⟩ := counts56 ext h56 h57 h38 h54 m x.size x (Nat.le_refl _) hs 0 (by omega) (by omega)
  exact ⟨b, enter43 ext h43 x m n' b h1, fun h => by have := h4 h; omega⟩
end Go.Proofs.YtmjacokkgfophaaDoor.Am
end
section
/- step: it counts a step, or stops the run. -/
namespace Go.Proofs.YtmjacokkgfophaaDoor.Am
open Go
variable (ext : Ext)
set_option maxHeartbeats 4000000
def OM (nd cd : D) (F u r : Int) : List O := [.box [.d nd, .d cd, .d (.v (.int .i64 F)), .d (.v (.int .i64 u)), .d (.v (.int .i64 r))]]
def failedV (e : Int) : Value := .iface 53 (.agg #[.int .i64 e])
theorem mkI53 (n : Int) : makeInterfaceA Tryd.prog 53 (.agg [.d (.v (.int .i64 n))]) = some ⟨.val (.c (.d (.v (failedV n)))), [], []⟩ := by kernel_rfl
theorem panicA_f (n : Int) : panicA (.c (.d (.v (failedV n)))) = some ⟨.pan (failedV n), [], []⟩ := rfl
theorem ok26 (hx : ext 26 = none) (nd cd : D) (F u r : Int) (c : Cd) (hu : ¬ u ≥ F) (hr : run Tryd.prog ext (.call 43 [cdV c, iV (wr (200000 - r))] []) = some (.ret [bV true] [])) :
    run Tryd.prog ext (.call 26 [.c (.ptr 0 0), cdV c] (OM nd cd F u r)) = some (.ret [cdV c] (OM nd cd F (wr (u + 1)) r)) := by
  (rw [run_eq]; simp only [stepA, hx, Tryd.func26, Tryd.f26]; simp only [List.length_cons, List.length_nil, Nat.reduceAdd, Nat.reduceLeDiff, Nat.zero_le, ↓reduceIte, List.zipIdx_cons, List.zipIdx_nil, List.map_cons, List.map_nil])
  simp only [cdV, cdC, iV, bV, OM] at hr ⊢
  simp only [zS, wantedA, opA, eff, boxA, cells, ev, gt, pt, putO, updO, setO, okC, loadA, cutC, fieldAddrA, fieldA, indexAddrA, indexA, builtinA, callOpA, callV, target, ptrV, lenS, binA, intOp, strOp, unA, num, lk, over, allocA, pickA, buildA, fillA, convertA, extractA, ofComp, nilCheckA, makeFuncA, ptrs, ofValue, cellB, Nat.reduceAdd, Nat.reduceSub, Nat.reduceMul, Nat.reduceLT, Nat.reduceLeDiff, Nat.reduceGT, ↓reduceIte, Nat.reduceEqDiff, Nat.reduceBEq, reduceCtorEq, Int.reduceBEq, Int.reduceBNe, Int.reduceLT, Int.reduceLE, Int.reduceGT, Int.reduceGE, aggT_25, sizeT_25, bytesT_25, fieldT_25_0, fieldT_25_1, fieldT_25_2, fieldT_25_3, placesT_25, zeroT_25, aggT_23, sizeT_23, bytesT_23, und_23, elemT_23, zero1_23, zeroT_23, aggT_3, sizeT_3, bytesT_3, und_3, zero1_3, zeroT_3, aggT_4, sizeT_4, bytesT_4, und_4, zero1_4, zeroT_4, aggT_44, sizeT_44, bytesT_44, fieldT_44_0, fieldT_44_1, fieldT_44_2, fieldT_44_3, fieldT_44_4, placesT_44, zeroT_44, drawA, holes_succ, holes_zero, Array.size, List.length, hu, hr]
  rw [afterDraw_some _ _ _ _ (by kernel_rfl)]
  simp only [zS, wantedA, opA, eff, boxA, cells, ev, gt, pt, putO, updO, setO, okC, loadA, cutC, fieldAddrA, fieldA, indexAddrA, indexA, builtinA, callOpA, callV, target, ptrV, lenS, binA, intOp, strOp, unA, num, lk, over, allocA, pickA, buildA, fillA, convertA, extractA, ofComp, nilCheckA, makeFuncA, ptrs, ofValue, cellB, Nat.reduceAdd, Nat.reduceSub, Nat.reduceMul, Nat.reduceLT, Nat.reduceLeDiff, Nat.reduceGT, ↓reduceIte, Nat.reduceEqDiff, Nat.reduceBEq, reduceCtorEq, Int.reduceBEq, Int.reduceBNe, Int.reduceLT, Int.reduceLE, Int.reduceGT, Int.reduceGE, aggT_25, sizeT_25, bytesT_25, fieldT_25_0, fieldT_25_1, fieldT_25_2, fieldT_25_3, placesT_25, zeroT_25, aggT_23, sizeT_23, bytesT_23, und_23, elemT_23, zero1_23, zeroT_23, aggT_3, sizeT_3, bytesT_3, und_3, zero1_3, zeroT_3, aggT_4, sizeT_4, bytesT_4, und_4, zero1_4, zeroT_4, aggT_44, sizeT_44, bytesT_44, fieldT_44_0, fieldT_44_1, fieldT_44_2, fieldT_44_3, fieldT_44_4, placesT_44, zeroT_44, hu, hr]
  (refine Eq.trans ?_ rfl; kernel_rfl)
theorem fuel26 (hx : ext 26 = none) (nd cd : D) (F u r : Int) (c : Cd) (hu : u ≥ F) :
    run Tryd.prog ext (.call 26 [.c (.ptr 0 0), cdV c] (OM nd cd F u r)) = some (.pan (failedV 5) (OM nd cd F u r)) := by
  (rw [run_eq]; simp only [stepA, hx, Tryd.func26, Tryd.f26]; simp only [List.length_cons, List.length_nil, Nat.reduceAdd, Nat.reduceLeDiff, Nat.zero_le, ↓reduceIte, List.zipIdx_cons, List.zipIdx_nil, List.map_cons, List.map_nil])
  simp only [cdV, cdC, OM]
  simp only [zS, wantedA, opA, eff, boxA, cells, ev, gt, pt, putO, updO, setO, okC, loadA, cutC, fieldAddrA, fieldA, indexAddrA, indexA, builtinA, callOpA, callV, target, ptrV, lenS, binA, intOp, strOp, unA, num, lk, over, allocA, pickA, buildA, fillA, convertA, extractA, ofComp, nilCheckA, makeFuncA, ptrs, ofValue, cellB, Nat.reduceAdd, Nat.reduceSub, Nat.reduceMul, Nat.reduceLT, Nat.reduceLeDiff, Nat.reduceGT, ↓reduceIte, Nat.reduceEqDiff, Nat.reduceBEq, reduceCtorEq, Int.reduceBEq, Int.reduceBNe, Int.reduceLT, Int.reduceLE, Int.reduceGT, Int.reduceGE, aggT_25, sizeT_25, bytesT_25, fieldT_25_0, fieldT_25_1, fieldT_25_2, fieldT_25_3, placesT_25, zeroT_25, aggT_23, sizeT_23, bytesT_23, und_23, elemT_23, zero1_23, zeroT_23, aggT_3, sizeT_3, bytesT_3, und_3, zero1_3, zeroT_3, aggT_4, sizeT_4, bytesT_4, und_4, zero1_4, zeroT_4, aggT_44, sizeT_44, bytesT_44, fieldT_44_0, fieldT_44_1, fieldT_44_2, fieldT_44_3, fieldT_44_4, placesT_44, zeroT_44, drawA, holes_succ, holes_zero, Array.size, List.length, hu]
  rw [afterDraw_some _ _ _ _ (by kernel_rfl)]
  simp only [zS, wantedA, opA, eff, boxA, cells, ev, gt, pt, putO, updO, setO, okC, loadA, cutC, fieldAddrA, fieldA, indexAddrA, indexA, builtinA, callOpA, callV, target, ptrV, lenS, binA, intOp, strOp, unA, num, lk, over, allocA, pickA, buildA, fillA, convertA, extractA, ofComp, nilCheckA, makeFuncA, ptrs, ofValue, cellB, Nat.reduceAdd, Nat.reduceSub, Nat.reduceMul, Nat.reduceLT, Nat.reduceLeDiff, Nat.reduceGT, ↓reduceIte, Nat.reduceEqDiff, Nat.reduceBEq, reduceCtorEq, Int.reduceBEq, Int.reduceBNe, Int.reduceLT, Int.reduceLE, Int.reduceGT, Int.reduceGE, aggT_25, sizeT_25, bytesT_25, fieldT_25_0, fieldT_25_1, fieldT_25_2, fieldT_25_3, placesT_25, zeroT_25, aggT_23, sizeT_23, bytesT_23, und_23, elemT_23, zero1_23, zeroT_23, aggT_3, sizeT_3, bytesT_3, und_3, zero1_3, zeroT_3, aggT_4, sizeT_4, bytesT_4, und_4, zero1_4, zeroT_4, aggT_44, sizeT_44, bytesT_44, fieldT_44_0, fieldT_44_1, fieldT_44_2, fieldT_44_3, fieldT_44_4, placesT_44, zeroT_44, aggT_53, sizeT_53, bytesT_53, fieldT_53_0, placesT_53, zeroT_53, hu, mkI53, panicA_f]
  (refine Eq.trans ?_ rfl; kernel_rfl)
theorem big26 (hx : ext 26 = none) (nd cd : D) (F u r : Int) (c : Cd) (hu : ¬ u ≥ F) (hr : run Tryd.prog ext (.call 43 [cdV c, iV (wr (200000 - r))] []) = some (.ret [bV false] [])) :
    run Tryd.prog ext (.call 26 [.c (.ptr 0 0), cdV c] (OM nd cd F u r)) = some (.pan (failedV 5) (OM nd cd F u r)) := by
  (rw [run_eq]; simp only [stepA, hx, Tryd.func26, Tryd.f26]; simp only [List.length_cons, List.length_nil, Nat.reduceAdd, Nat.reduceLeDiff, Nat.zero_le, ↓reduceIte, List.zipIdx_cons, List.zipIdx_nil, List.map_cons, List.map_nil])
  simp only [cdV, cdC, iV, bV, OM] at hr ⊢
  simp only [zS, wantedA, opA, eff, boxA, cells, ev, gt, pt, putO, updO, setO, okC, loadA, cutC, fieldAddrA, fieldA, indexAddrA, indexA, builtinA, callOpA, callV, target, ptrV, lenS, binA, intOp, strOp, unA, num, lk, over, allocA, pickA, buildA, fillA, convertA, extractA, ofComp, nilCheckA, makeFuncA, ptrs, ofValue, cellB, Nat.reduceAdd, Nat.reduceSub, Nat.reduceMul, Nat.reduceLT, Nat.reduceLeDiff, Nat.reduceGT, ↓reduceIte, Nat.reduceEqDiff, Nat.reduceBEq, reduceCtorEq, Int.reduceBEq, Int.reduceBNe, Int.reduceLT, Int.reduceLE, Int.reduceGT, Int.reduceGE, aggT_25, sizeT_25, bytesT_25, fieldT_25_0, fieldT_25_1, fieldT_25_2, fieldT_25_3, placesT_25, zeroT_25, aggT_23, sizeT_23, bytesT_23, und_23, elemT_23, zero1_23, zeroT_23, aggT_3, sizeT_3, bytesT_3, und_3, zero1_3, zeroT_3, aggT_4, sizeT_4, bytesT_4, und_4, zero1_4, zeroT_4, aggT_44, sizeT_44, bytesT_44, fieldT_44_0, fieldT_44_1, fieldT_44_2, fieldT_44_3, fieldT_44_4, placesT_44, zeroT_44, drawA, holes_succ, holes_zero, Array.size, List.length, hu, hr]
  rw [afterDraw_some _ _ _ _ (by kernel_rfl)]
  simp only [zS, wantedA, opA, eff, boxA, cells, ev, gt, pt, putO, updO, setO, okC, loadA, cutC, fieldAddrA, fieldA, indexAddrA, indexA, builtinA, callOpA, callV, target, ptrV, lenS, binA, intOp, strOp, unA, num, lk, over, allocA, pickA, buildA, fillA, convertA, extractA, ofComp, nilCheckA, makeFuncA, ptrs, ofValue, cellB, Nat.reduceAdd, Nat.reduceSub, Nat.reduceMul, Nat.reduceLT, Nat.reduceLeDiff, Nat.reduceGT, ↓reduceIte, Nat.reduceEqDiff, Nat.reduceBEq, reduceCtorEq, Int.reduceBEq, Int.reduceBNe, Int.reduceLT, Int.reduceLE, Int.reduceGT, Int.reduceGE, aggT_25, sizeT_25, bytesT_25, fieldT_25_0, fieldT_25_1, fieldT_25_2, fieldT_25_3, placesT_25, zeroT_25, aggT_23, sizeT_23, bytesT_23, und_23, elemT_23, zero1_23, zeroT_23, aggT_3, sizeT_3, bytesT_3, und_3, zero1_3, zeroT_3, aggT_4, sizeT_4, bytesT_4, und_4, zero1_4, zeroT_4, aggT_44, sizeT_44, bytesT_44, fieldT_44_0, fieldT_44_1, fieldT_44_2, fieldT_44_3, fieldT_44_4, placesT_44, zeroT_44, aggT_53, sizeT_53, bytesT_53, fieldT_53_0, placesT_53, zeroT_53, hu, hr, mkI53, panicA_f]
  (refine Eq.trans ?_ rfl; kernel_rfl)
end Go.Proofs.YtmjacokkgfophaaDoor.Am
end
section
/- The functions of the library without a body: counting a byte, finding a byte. -/
namespace Go.Proofs.YtmjacokkgfophaaDoor.Am
open Go
def cntB (s : ByteArray) (c : Int) : Int := s.foldl (fun n x => if x == c.toNat.toUInt8 then n + 1 else n) ((0 : Nat) : Int)
def idxB (s : ByteArray) (c : Int) : Option Nat := (List.range s.size).find? fun i => s[i]! == c.toNat.toUInt8
def idxV (o : Option Nat) : Int := match o with | some i => i | none => -1
def nat80 : List V → List O → Option Out
  | [.c (.d (.v (.string s))), .c (.d (.v (.int .u8 c)))], [] => some (.ret [iV (cntB s c)] [])
  | _, _ => none
def nat87 : List V → List O → Option Out
  | [.c (.d (.v (.string s))), .c (.d (.v (.int .u8 c)))], [] => some (.ret [iV (idxV (idxB s c))] [])
  | _, _ => none
theorem call80 (s : ByteArray) (c : Int) (w : World) : (callFunc 80 #[.string s, .int .u8 c]).run Tryd.prog w = .ok (.value (.int .i64 (cntB s c))) w := by
  have h1 : (Tryd.f80.name == "runtime.NumGoroutine") = false := by kernel_rfl
  have h2 : Tryd.f80.body.isNone = true := by kernel_rfl
  have h3 : Extern.findNext Tryd.f80 = none := by kernel_rfl
  have h4 : Extern.find Tryd.f80 = some Extern.BytealgCount.count := by kernel_rfl
  have h5 : (Extern.BytealgCount.count #[.string s, .int .u8 c]).run Tryd.prog w = .ok (.int .i64 (cntB s c)) w := by kernel_rfl
  have h1' := h1; have h2' := h2
  rw [beq_eq_false_iff_ne] at h1'; rw [Option.isNone_iff_eq_none] at h2'
  simp [callFunc, Tryd.func80, h1', h2', h3, h4, h5]
theorem call87 (s : ByteArray) (c : Int) (w : World) : (callFunc 87 #[.string s, .int .u8 c]).run Tryd.prog w = .ok (.value (.int .i64 (idxV (idxB s c)))) w := by
  have h1 : (Tryd.f87.name == "runtime.NumGoroutine") = false := by kernel_rfl
  have h2 : Tryd.f87.body.isNone = true := by kernel_rfl
  have h3 : Extern.findNext Tryd.f87 = none := by kernel_rfl
  have h4 : Extern.find Tryd.f87 = some Extern.BytealgIndexByte.indexByte := by kernel_rfl
  have h5 : (Extern.BytealgIndexByte.indexByte #[.string s, .int .u8 c]).run Tryd.prog w = .ok (.int .i64 (idxV (idxB s c))) w := by
    show (match idxB s c with | some i => (pure (goInt i) : Sem Value) | none => pure (goInt (-1))).run Tryd.prog w = _
    cases idxB s c <;> rfl
  have h1' := h1; have h2' := h2
  rw [beq_eq_false_iff_ne] at h1'; rw [Option.isNone_iff_eq_none] at h2'
  simp [callFunc, Tryd.func87, h1', h2', h3, h4, h5]
theorem nat80_ok {args : List V} {objs : List O} {out : Out} (h : nat80 args objs = some out) : NatOK Tryd.prog 80 args objs out := by
  unfold nat80 at h
  split at h
  · cases h; exact ⟨[_, _], _, rfl, rfl, rfl, rfl, fun w => call80 _ _ w⟩
  · cases h
theorem nat87_ok {args : List V} {objs : List O} {out : Out} (h : nat87 args objs = some out) : NatOK Tryd.prog 87 args objs out := by
  unfold nat87 at h
  split at h
  · cases h; exact ⟨[_, _], _, rfl, rfl, rfl, rfl, fun w => call87 _ _ w⟩
  · cases h
theorem idxB_lt {s : ByteArray} {c : Int} {i : Nat} (h : idxB s c = some i) : i < s.size := by
  have := List.mem_of_find?_eq_some h
  simpa using this
theorem cntB_bound (s : ByteArray) (c : Int) : 0 ≤ cntB s c ∧ cntB s c ≤ s.size := by
  unfold cntB
  rw [Go.Lib.foldl_data]
  have key : ∀ (l : List UInt8) (n : Int), n ≤ l.foldl (fun n x => if x == c.toNat.toUInt8 then n + 1 else n) n ∧ l.foldl (fun n x => if x == c.toNat.toUInt8 then n + 1 else n) n ≤ n + l.length := by
    intro l
    induction l with
    | nil => intro n; simp
    | cons a l ih =>
      intro n
      simp only [List.foldl_cons, List.length_cons]
      have := ih (if a == c.toNat.toUInt8 then n + 1 else n)
      split at this <;> rename_i h <;> simp only [h] <;> simp at this ⊢ <;> omega
  have := key s.data.toList 0
  have e : s.data.toList.length = s.size := rfl
  constructor
  · exact this.1
  · have := this.2; rw [e] at this; simpa using this
end Go.Proofs.YtmjacokkgfophaaDoor.Am
end
section
/- strings.Split at ";". -/
namespace Go.Proofs.YtmjacokkgfophaaDoor.Am
open Go
variable (ext : Ext)
set_option maxHeartbeats 4000000
def semi : ByteArray := ⟨#[59]⟩
def sV (s : ByteArray) : V := .c (.d (.v (.string s)))
theorem callOut_iV (slot : Nat) (n : Int) : callOut [] [] slot (some (.ret [iV n] [])) = some { res := .val (iV n), upd := [], rd := [] } := id rfl
theorem index83 (hx : ext 83 = none) (h87 : ext 87 = some nat87) (s : ByteArray) (c : Int) : run Tryd.prog ext (.call 83 [sV s, .c (.d (.v (.int .u8 c)))] []) = some (.ret [iV (idxV (idxB s c))] []) := by
  have hn : run Tryd.prog ext (.call 87 [sV s, .c (.d (.v (.int .u8 c)))] []) = some (.ret [iV (idxV (idxB s c))] []) := by
    rw [run_eq]; simp only [stepA, h87]; rfl
  rw [run_eq]
  simp only [stepA, hx, Tryd.func83, Tryd.f83]
  simp only [List.length_cons, List.length_nil, Nat.reduceAdd, Nat.reduceLeDiff, ↓reduceIte, List.zipIdx_cons, List.zipIdx_nil, List.map_cons, List.map_nil]
  simp only [sV, iV] at hn ⊢
  simp only [zS, wantedA, opA, eff, boxA, cells, ev, gt, pt, putO, updO, setO, okC, loadA, cutC, fieldAddrA, fieldA, indexAddrA, indexA, builtinA, callOpA, callV, target, ptrV, lenS, binA, intOp, strOp, unA, num, lk, over, allocA, pickA, buildA, fillA, convertA, extractA, ofComp, nilCheckA, makeFuncA, ptrs, ofValue, cellB, Nat.reduceAdd, Nat.reduceSub, Nat.reduceMul, Nat.reduceLT, Nat.reduceLeDiff, Nat.reduceGT, ↓reduceIte, Nat.reduceEqDiff, Nat.reduceBEq, reduceCtorEq, Int.reduceBEq, Int.reduceBNe, Int.reduceLT, Int.reduceLE, Int.reduceGT, Int.reduceGE, aggT_9, sizeT_9, bytesT_9, und_9, zero1_9, zeroT_9, aggT_3, sizeT_3, bytesT_3, und_3, zero1_3, zeroT_3, aggT_4, sizeT_4, bytesT_4, und_4, zero1_4, zeroT_4, aggT_5, sizeT_5, bytesT_5, und_5, zero1_5, zeroT_5, hn]
  (refine Eq.trans ?_ rfl; kernel_rfl)
theorem index81 (hx : ext 81 = none) (h83 : ext 83 = none) (h87 : ext 87 = some nat87) (s : ByteArray) : run Tryd.prog ext (.call 81 [sV s, sV semi] []) = some (.ret [iV (idxV (idxB s 59))] []) := by
  have hn := index83 ext h83 h87 s 59
  have e0 : ((↑semi.size : Int) == 0) = false := by decide
  have e1 : ((↑semi.size : Int) == 1) = true := by decide
  have e2 : semi[(0 : Int).toNat]? = some 59 := by decide
  have e3 : ((59 : UInt8).toNat : Int) = 59 := by decide
  rw [run_eq]
  simp only [stepA, hx, Tryd.func81, Tryd.f81]
  simp only [List.length_cons, List.length_nil, Nat.reduceAdd, Nat.reduceLeDiff, ↓reduceIte, List.zipIdx_cons, List.zipIdx_nil, List.map_cons, List.map_nil]
  simp only [sV, iV] at hn ⊢
  cases hb : (semi.toList == s.toList) with
  | true =>
    have hs : s = semi := by
      have h1 : semi.toList = s.toList := by simpa using hb
      have h2 : semi.data.toList = s.data.toList := by simpa [ByteArray.toList_eq] using h1
      cases s with
      | mk d => cases d with
        | mk l => simp [semi] at h2; rw [← h2]; rfl
    subst hs
    have e4 : idxV (idxB semi 59) = 0 := by decide
    simp only [zS, wantedA, opA, eff, boxA, cells, ev, gt, pt, putO, updO, setO, okC, loadA, cutC, fieldAddrA, fieldA, indexAddrA, indexA, builtinA, callOpA, callV, target, ptrV, lenS, binA, intOp, strOp, unA, num, lk, over, allocA, pickA, buildA, fillA, convertA, extractA, ofComp, nilCheckA, makeFuncA, ptrs, ofValue, cellB, Nat.reduceAdd, Nat.reduceSub, Nat.reduceMul, Nat.reduceLT, Nat.reduceLeDiff, Nat.reduceGT, ↓reduceIte, Nat.reduceEqDiff, Nat.reduceBEq, reduceCtorEq, Int.reduceBEq, Int.reduceBNe, Int.reduceLT, Int.reduceLE, Int.reduceGT, Int.reduceGE, aggT_9, sizeT_9, bytesT_9, und_9, zero1_9, zeroT_9, aggT_3, sizeT_3, bytesT_3, und_3, zero1_3, zeroT_3, aggT_4, sizeT_4, bytesT_4, und_4, zero1_4, zeroT_4, aggT_5, sizeT_5, bytesT_5, und_5, zero1_5, zeroT_5, hn, e0, e1, e2, e3, hb, e4]
    (refine Eq.trans ?_ rfl; kernel_rfl)
  | false =>
    simp only [zS, wantedA, opA, eff, boxA, cells, ev, gt, pt, putO, updO, setO, okC, loadA, cutC, fieldAddrA, fieldA, indexAddrA, indexA, builtinA, callOpA, callV, target, ptrV, lenS, binA, intOp, strOp, unA, num, lk, over, allocA, pickA, buildA, fillA, convertA, extractA, ofComp, nilCheckA, makeFuncA, ptrs, ofValue, cellB, Nat.reduceAdd, Nat.reduceSub, Nat.reduceMul, Nat.reduceLT, Nat.reduceLeDiff, Nat.reduceGT, ↓reduceIte, Nat.reduceEqDiff, Nat.reduceBEq, reduceCtorEq, Int.reduceBEq, Int.reduceBNe, Int.reduceLT, Int.reduceLE, Int.reduceGT, Int.reduceGE, aggT_9, sizeT_9, bytesT_9, und_9, zero1_9, zeroT_9, aggT_3, sizeT_3, bytesT_3, und_3, zero1_3, zeroT_3, aggT_4, sizeT_4, bytesT_4, und_4, zero1_4, zeroT_4, aggT_5, sizeT_5, bytesT_5, und_5, zero1_5, zeroT_5, hn, e0, e1, e2, e3, hb]
    (refine Eq.trans ?_ rfl; kernel_rfl)
theorem count72 (hx : ext 72 = none) (h80 : ext 80 = some nat80) (s : ByteArray) : run Tryd.prog ext (.call 72 [sV s, sV semi] []) = some (.ret [iV (cntB s 59)] []) := by
  have hn : run Tryd.prog ext (.call 80 [sV s, .c (.d (.v (.int .u8 59)))] []) = some (.ret [iV (cntB s 59)] []) := by
    rw [run_eq]; simp only [stepA, h80]; rfl
  have e0 : ((↑semi.size : Int) == 0) = false := by decide
  have e1 : ((↑semi.size : Int) == 1) = true := by decide
  have e2 : semi[(0 : Int).toNat]? = some 59 := by decide
  have e3 : ((59 : UInt8).toNat : Int) = 59 := by decide
  rw [run_eq]
  simp only [stepA, hx, Tryd.func72, Tryd.f72]
  simp only [List.length_cons, List.length_nil, Nat.reduceAdd, Nat.reduceLeDiff, ↓reduceIte, List.zipIdx_cons, List.zipIdx_nil, List.map_cons, List.map_nil]
  simp only [sV, iV] at hn ⊢
  simp only [zS, wantedA, opA, eff, boxA, cells, ev, gt, pt, putO, updO, setO, okC, loadA, cutC, fieldAddrA, fieldA, indexAddrA, indexA, builtinA, callOpA, callV, target, ptrV, lenS, binA, intOp, strOp, unA, num, lk, over, allocA, pickA, buildA, fillA, convertA, extractA, ofComp, nilCheckA, makeFuncA, ptrs, ofValue, cellB, Nat.reduceAdd, Nat.reduceSub, Nat.reduceMul, Nat.reduceLT, Nat.reduceLeDiff, Nat.reduceGT, ↓reduceIte, Nat.reduceEqDiff, Nat.reduceBEq, reduceCtorEq, Int.reduceBEq, Int.reduceBNe, Int.reduceLT, Int.reduceLE, Int.reduceGT, Int.reduceGE, aggT_9, sizeT_9, bytesT_9, und_9, zero1_9, zeroT_9, aggT_3, sizeT_3, bytesT_3, und_3, zero1_3, zeroT_3, aggT_4, sizeT_4, bytesT_4, und_4, zero1_4, zeroT_4, aggT_5, sizeT_5, bytesT_5, und_5, zero1_5, zeroT_5, hn, e0, e1, e2, e3]
  (refine Eq.trans ?_ rfl; kernel_rfl)
theorem index73 (hx : ext 73 = none) (h81 : ext 81 = none) (h83 : ext 83 = none) (h87 : ext 87 = some nat87) (s : ByteArray) : run Tryd.prog ext (.call 73 [sV s, sV semi] []) = some (.ret [iV (idxV (idxB s 59))] []) := by
  have hn := index81 ext h81 h83 h87 s
  (rw [run_eq]; simp only [stepA, hx, Tryd.func73, Tryd.f73]; simp only [List.length_cons, List.length_nil, Nat.reduceAdd, Nat.reduceLeDiff, Nat.zero_le, ↓reduceIte, List.zipIdx_cons, List.zipIdx_nil, List.map_cons, List.map_nil])
  simp only [sV, iV] at hn ⊢
  simp only [zS, wantedA, opA, eff, boxA, cells, ev, gt, pt, putO, updO, setO, okC, loadA, cutC, fieldAddrA, fieldA, indexAddrA, indexA, builtinA, callOpA, callV, target, ptrV, lenS, binA, intOp, strOp, unA, num, lk, over, allocA, pickA, buildA, fillA, convertA, extractA, ofComp, nilCheckA, makeFuncA, ptrs, ofValue, cellB, Nat.reduceAdd, Nat.reduceSub, Nat.reduceMul, Nat.reduceLT, Nat.reduceLeDiff, Nat.reduceGT, ↓reduceIte, Nat.reduceEqDiff, Nat.reduceBEq, reduceCtorEq, Int.reduceBEq, Int.reduceBNe, Int.reduceLT, Int.reduceLE, Int.reduceGT, Int.reduceGE, aggT_9, sizeT_9, bytesT_9, und_9, zero1_9, zeroT_9, aggT_3, sizeT_3, bytesT_3, und_3, zero1_3, zeroT_3, aggT_4, sizeT_4, bytesT_4, und_4, zero1_4, zeroT_4, hn]
  (refine Eq.trans ?_ rfl; kernel_rfl)
theorem mk22 (slot : Nat) (n : Int) (h0 : 0 ≤ n) (h : n ≤ 4000000000000) : makeSliceA Tryd.prog slot 22 (.c (.d (.v (.int .i64 n)))) (.c (.d (.v (.int .i64 n)))) =
    some { res := .val (.c (.own slot)), upd := [(slot, .arr 1 (List.replicate n.toNat [.v (.string ⟨#[]⟩)]))] } := by
  simp only [makeSliceA, elemT_22, sizeT_9, bytesT_9, zeroT_9, num, toDs, toD, List.append_nil]
  rw [if_pos]
  refine ⟨h0, Int.le_refl _, by omega, ?_, by decide, rfl⟩
  omega
theorem stK_9 {look : Look} {id i : Nat} {els : List (List D)} {row : List D} (s : ByteArray) (hi : els[i]? = some row) (hr : row.length = 1) :
    stK Tryd.prog look 9 (some (.arr 1 els)) id i 0 (.c (.d (.v (.string s)))) = some { res := .val (.c .any), upd := [(id, .arr 1 (els.set i [.v (.string s)]))], rd := [id] } := by
  have e : row.drop 1 = [] := List.drop_eq_nil_of_le (by omega)
  simp [stK, cells, okC, sizeT_9, hi, toDs, toD, kills, e, hr]
noncomputable def B58 : Code := (Tryd.f58.body.getD .skip)
noncomputable def L58 : Code := sub B58 [1, 1, 1, 1, 1, 1, 1, 1, 0, 0, 0]
noncomputable def K58 : List It := [.inBlock 0, .code (sub B58 [1, 1, 1, 1, 1, 1, 1, 1, 1])]
def E58 (s : ByteArray) (q k : Int) : Env := [(0, sV s), (1, sV semi), (2, iV 0), (3, iV q), (9, .c (.own 0)), (10, iV k)]
theorem enter58 (hx : ext 58 = none) (s : ByteArray) (q : Int) (out : Option Out) (h72 : run Tryd.prog ext (.call 72 [sV s, sV semi] []) = some (.ret [iV q] [])) (h1 : ¬ ((s.size : Int) + 1 < q + 1)) (w1 : wr (q + 1) = q + 1) (w2 : wr ((s.size : Int) + 1) = s.size + 1) (w3 : wr (q + 1 - 1) = q)
  (h3 : 0 ≤ q + 1) (h4 : q + 1 ≤ 4000000000000) (h : run Tryd.prog ext (.k ⟨66, 0, [.tmp 8]⟩ (.code L58 :: .inLoop L58 :: K58) (E58 s q 0) [.arr 1 (List.replicate (q + 1).toNat [.v (.string ⟨#[]⟩)])]) = out) :
  run Tryd.prog ext (.call 58 [sV s, sV semi, iV 0, iV (-1)] []) = out := by
  have e0 : ((semi.toList) == (⟨#[]⟩ : ByteArray).toList) = false := by simp [semi, ByteArray.toList_eq]
  have e1 : ((-1 : Int) == 0) = false := by decide
  (rw [run_eq]; simp only [stepA, hx, Tryd.func58, Tryd.f58]; simp only [List.length_cons, List.length_nil, Nat.reduceAdd, Nat.reduceLeDiff, Nat.zero_le, ↓reduceIte, List.zipIdx_cons, List.zipIdx_nil, List.map_cons, List.map_nil])
  simp only [sV, iV] at h72 ⊢
  simp only [zS, wantedA, opA, eff, boxA, cells, ev, gt, pt, putO, updO, setO, okC, loadA, cutC, fieldAddrA, fieldA, indexAddrA, indexA, builtinA, callOpA, callV, target, ptrV, lenS, binA, intOp, strOp, unA, num, lk, over, allocA, pickA, buildA, fillA, convertA, extractA, ofComp, nilCheckA, makeFuncA, ptrs, ofValue, cellB, Nat.reduceAdd, Nat.reduceSub, Nat.reduceMul, Nat.reduceLT, Nat.reduceLeDiff, Nat.reduceGT, ↓reduceIte, Nat.reduceEqDiff, Nat.reduceBEq, reduceCtorEq, Int.reduceBEq, Int.reduceBNe, Int.reduceLT, Int.reduceLE, Int.reduceGT, Int.reduceGE, aggT_9, sizeT_9, bytesT_9, und_9, zero1_9, zeroT_9, aggT_3, sizeT_3, bytesT_3, und_3, zero1_3, zeroT_3, aggT_4, sizeT_4, bytesT_4, und_4, zero1_4, zeroT_4, aggT_5, sizeT_5, bytesT_5, und_5, zero1_5, zeroT_5, aggT_22, sizeT_22, bytesT_22, und_22, elemT_22, zero1_22, zeroT_22, h72, e0, e1, w1, w2, w3, minA, h1, mk22, h3, h4]
  refine (r_inLoop_some ?_).trans h
  kernel_rfl
theorem step58 (s : ByteArray) (q k : Int) (m : Nat) (els : List (List D)) (row : List D) (out : Option Out) (h81 : run Tryd.prog ext (.call 73 [sV s, sV semi] []) = some (.ret [iV m] [])) (hk : k < q) (h0 : 0 ≤ k) (hm : m < s.size) (w1 : wr ((m : Int) + 0) = m) (w2 : wr ((m : Int) + 1) = m + 1)
  (c1 : (m : Int) ≤ s.size) (c2 : (m : Int) + 1 ≤ s.size) (c3 : 0 ≤ (m : Int) + 1) (c4 : ¬ (m : Int) < 0) (c5 : 0 ≤ (m : Int)) (c6 : k < els.length)
  (he : els[k.toNat]? = some row) (hw : row.length = 1)
  (h : run Tryd.prog ext (.k ⟨66, 0, [.tmp 8]⟩ (.code L58 :: .inLoop L58 :: K58) (E58 (s.extract ((m : Int) + 1).toNat s.size) q (wr (k + 1))) [.arr 1 (els.set k.toNat [.v (.string (s.extract 0 (m : Int).toNat))])]) = out) :
  run Tryd.prog ext (.k ⟨66, 0, [.tmp 8]⟩ (.code L58 :: .inLoop L58 :: K58) (E58 s q k) [.arr 1 els]) = out := by
  have esz : (semi.size : Int) = 1 := by decide
  rw [show (It.code L58) = It.code (sub B58 [1, 1, 1, 1, 1, 1, 1, 1, 0, 0, 0]) from rfl]
  simp only [E58, iV, sV] at h81 h ⊢
  simp only [B58, K58, sub, Option.getD_some, Tryd.f58, ↓reduceIte, Nat.one_ne_zero]
  simp only [zS, wantedA, opA, eff, boxA, cells, ev, gt, pt, putO, updO, setO, okC, loadA, cutC, fieldAddrA, fieldA, indexAddrA, indexA, builtinA, callOpA, callV, target, ptrV, lenS, binA, intOp, strOp, unA, num, lk, over, allocA, pickA, buildA, fillA, convertA, extractA, ofComp, nilCheckA, makeFuncA, ptrs, ofValue, cellB, Nat.reduceAdd, Nat.reduceSub, Nat.reduceMul, Nat.reduceLT, Nat.reduceLeDiff, Nat.reduceGT, ↓reduceIte, Nat.reduceEqDiff, Nat.reduceBEq, reduceCtorEq, Int.reduceBEq, Int.reduceBNe, Int.reduceLT, Int.reduceLE, Int.reduceGT, Int.reduceGE, aggT_9, sizeT_9, bytesT_9, und_9, zero1_9, zeroT_9, aggT_3, sizeT_3, bytesT_3, und_3, zero1_3, zeroT_3, aggT_4, sizeT_4, bytesT_4, und_4, zero1_4, zeroT_4, aggT_5, sizeT_5, bytesT_5, und_5, zero1_5, zeroT_5, aggT_22, sizeT_22, bytesT_22, und_22, elemT_22, zero1_22, zeroT_22, sliceA, bound, Option.map_none, h81, hk, w1, w2, esz, c1, c2, c3, c4, c5, c6, h0, stK_9 _ he hw]
  refine (r_inLoop_some ?_).trans h
  kernel_rfl
theorem done58 (s : ByteArray) (q k : Int) (els : List (List D)) (row : List D) (hk : ¬ k < q ∨ (k < q ∧ run Tryd.prog ext (.call 73 [sV s, sV semi] []) = some (.ret [iV (-1)] []))) (h0 : 0 ≤ k) (he : els[k.toNat]? = some row) (hw : row.length = 1)
  (w1 : wr (k + 1) = k + 1) (c1 : 0 ≤ k + 1) (c2 : k + 1 ≤ els.length) (c3 : k < els.length) :
  run Tryd.prog ext (.k ⟨66, 0, [.tmp 8]⟩ (.code L58 :: .inLoop L58 :: K58) (E58 s q k) [.arr 1 els]) = some (.ret [.c (.d (.s 1 ((els.set k.toNat [.v (.string s)]).take (k + 1).toNat)))] []) := by
  rw [show (It.code L58) = It.code (sub B58 [1, 1, 1, 1, 1, 1, 1, 1, 0, 0, 0]) from rfl]
  simp only [E58, iV, sV] at hk ⊢
  simp only [B58, K58, sub, Option.getD_some, Tryd.f58, ↓reduceIte, Nat.one_ne_zero]
  rcases hk with hk | ⟨hk, h81⟩
  · simp only [zS, wantedA, opA, eff, boxA, cells, ev, gt, pt, putO, updO, setO, okC, loadA, cutC, fieldAddrA, fieldA, indexAddrA, indexA, builtinA, callOpA, callV, target, ptrV, lenS, binA, intOp, strOp, unA, num, lk, over, allocA, pickA, buildA, fillA, convertA, extractA, ofComp, nilCheckA, makeFuncA, ptrs, ofValue, cellB, Nat.reduceAdd, Nat.reduceSub, Nat.reduceMul, Nat.reduceLT, Nat.reduceLeDiff, Nat.reduceGT, ↓reduceIte, Nat.reduceEqDiff, Nat.reduceBEq, reduceCtorEq, Int.reduceBEq, Int.reduceBNe, Int.reduceLT, Int.reduceLE, Int.reduceGT, Int.reduceGE, aggT_9, sizeT_9, bytesT_9, und_9, zero1_9, zeroT_9, aggT_3, sizeT_3, bytesT_3, und_3, zero1_3, zeroT_3, aggT_4, sizeT_4, bytesT_4, und_4, zero1_4, zeroT_4, aggT_5, sizeT_5, bytesT_5, und_5, zero1_5, zeroT_5, aggT_22, sizeT_22, bytesT_22, und_22, elemT_22, zero1_22, zeroT_22, sliceA, bound, Option.map_none, hk, w1, c1, c2, c3, h0, stK_9 _ he hw, List.length_set]
    (refine Eq.trans ?_ rfl; kernel_rfl)
  · simp only [zS, wantedA, opA, eff, boxA, cells, ev, gt, pt, putO, updO, setO, okC, loadA, cutC, fieldAddrA, fieldA, indexAddrA, indexA, builtinA, callOpA, callV, target, ptrV, lenS, binA, intOp, strOp, unA, num, lk, over, allocA, pickA, buildA, fillA, convertA, extractA, ofComp, nilCheckA, makeFuncA, ptrs, ofValue, cellB, Nat.reduceAdd, Nat.reduceSub, Nat.reduceMul, Nat.reduceLT, Nat.reduceLeDiff, Nat.reduceGT, ↓reduceIte, Nat.reduceEqDiff, Nat.reduceBEq, reduceCtorEq, Int.reduceBEq, Int.reduceBNe, Int.reduceLT, Int.reduceLE, Int.reduceGT, Int.reduceGE, aggT_9, sizeT_9, bytesT_9, und_9, zero1_9, zeroT_9, aggT_3, sizeT_3, bytesT_3, und_3, zero1_3, zeroT_3, aggT_4, sizeT_4, bytesT_4, und_4, zero1_4, zeroT_4, aggT_5, sizeT_5, bytesT_5, und_5, zero1_5, zeroT_5, aggT_22, sizeT_22, bytesT_22, und_22, elemT_22, zero1_22, zeroT_22, sliceA, bound, Option.map_none, h81, hk, w1, c1, c2, c3, h0, stK_9 _ he hw, List.length_set]
    (refine Eq.trans ?_ rfl; kernel_rfl)
/-- It comes to some list of texts, none longer than the text. -/
theorem genSplit58 (hx : ext 58 = none) (h72 : ext 72 = none) (h73 : ext 73 = none) (h80 : ext 80 = some nat80) (h81 : ext 81 = none) (h83 : ext 83 = none) (h87 : ext 87 = some nat87) (s : ByteArray) (hs : s.size < 2 ^ 40) :
    ∃ l : List ByteArray, run Tryd.prog ext (.call 58 [sV s, sV semi, iV 0, iV (-1)] []) = some (.ret [.c (.d (listS false l))] []) ∧ (∀ x ∈ l, x.size ≤ s.size) ∧ l.length ≤ s.size + 1 := by
  obtain ⟨q0, q1⟩ := cntB_bound s 59
  obtain ⟨q, hq⟩ := Int.eq_ofNat_of_zero_le q0
  have key : ∀ (j k : Nat) (t : ByteArray) (pre : List ByteArray), k + j = q → pre.length = k → t.size ≤ s.size → (∀ x ∈ pre, x.size ≤ s.size) →
      ∃ l : List ByteArray, run Tryd.prog ext (.k ⟨66, 0, [.tmp 8]⟩ (.code L58 :: .inLoop L58 :: K58) (E58 t q k) [.arr 1 ((pre.map fun x => [D.v (.string x)]) ++ List.replicate (j + 1) [D.v (.string ⟨#[]⟩)])]) = some (.ret [.c (.d (listS false l))] []) ∧ (∀ x ∈ l, x.size ≤ s.size) ∧ l.length ≤ q + 1 := by
    have fin : ∀ (j k : Nat) (t : ByteArray) (pre : List ByteArray), k + j = q → pre.length = k → t.size ≤ s.size → (∀ x ∈ pre, x.size ≤ s.size) → (¬ (k : Int) < q ∨ ((k : Int) < q ∧ run Tryd.prog ext (.call 73 [sV t, sV semi] []) = some (.ret [iV (-1)] []))) →
        ∃ l : List ByteArray, run Tryd.prog ext (.k ⟨66, 0, [.tmp 8]⟩ (.code L58 :: .inLoop L58 :: K58) (E58 t q k) [.arr 1 ((pre.map fun x => [D.v (.string x)]) ++ List.replicate (j + 1) [D.v (.string ⟨#[]⟩)])]) = some (.ret [.c (.d (listS false l))] []) ∧ (∀ x ∈ l, x.size ≤ s.size) ∧ l.length ≤ q + 1 := by
      intro j k t pre hk hp ht hpre hor
      refine ⟨pre ++ [t], ?_, fun x hx => ?_, by simp; omega⟩
      · rw [done58 ext t q k _ [D.v (.string ⟨#[]⟩)] hor (by omega) (by rw [List.getElem?_append_right (by simp; omega)]; simp [hp]) rfl (wr_id (by omega) (by omega)) (by omega) (by simp; omega) (by simp; omega)]
        have e : (((pre.map fun x => [D.v (.string x)]) ++ List.replicate (j + 1) [D.v (.string ⟨#[]⟩)]).set (k : Int).toNat [D.v (.string t)]).take ((k : Int) + 1).toNat = (pre ++ [t]).map fun x => [D.v (.string x)] := by
          rw [show ((k : Int) + 1).toNat = k + 1 by omega, show (k : Int).toNat = k by omega]
          rw [List.set_append_right _ _ (by simp; omega)]
          simp only [List.length_map, hp, Nat.sub_self, List.replicate_succ, List.set_cons_zero]
          rw [List.take_append, List.take_of_length_le (by simp; omega)]
          simp [hp]
        rw [e]
        unfold listS
        rw [if_neg (by simp)]
      · rcases List.mem_append.1 hx with h | h
        · exact hpre x h
        · simp at h; subst h; exact ht
    intro j
    induction j with
    | zero => intro k t pre hk hp ht hpre; exact fin 0 k t pre hk hp ht hpre (.inl (by omega))
    | succ j ih =>
      intro k t pre hk hp ht hpre
      have hi := index73 ext h73 h81 h83 h87 t
      cases hx : idxB t 59 with
      | none => rw [hx] at hi; exact fin (j + 1) k t pre hk hp ht hpre (.inr ⟨by omega, hi⟩)
      | some m =>
        rw [hx] at hi
        have hm := idxB_lt hx
        obtain ⟨l, g1, g2, g3⟩ := ih (k + 1) (t.extract (m + 1) t.size) (pre ++ [t.extract 0 m]) (by omega) (by simp [hp]) (by simp; omega) (fun x hx => by
          rcases List.mem_append.1 hx with h | h
          · exact hpre x h
          · simp at h; subst h; simp; omega)
        refine ⟨l, ?_, g2, g3⟩
        refine step58 ext t q k m _ [D.v (.string ⟨#[]⟩)] _ hi (by omega) (by omega) hm (wr_id (by omega) (by omega)) (wr_id (by omega) (by omega)) (by omega) (by omega) (by omega) (by omega) (by omega) (by simp; omega) (by rw [List.getElem?_append_right (by simp; omega)]; simp [hp, List.getElem?_replicate]) rfl ?_
        rw [wr_id (n := (k : Int) + 1) (by omega) (by omega)]
        have e : ((pre.map fun x => [D.v (.string x)]) ++ List.replicate (j + 1 + 1) [D.v (.string ⟨#[]⟩)]).set (k : Int).toNat [D.v (.string (t.extract 0 (m : Int).toNat))] = ((pre ++ [t.extract 0 m]).map fun x => [D.v (.string x)]) ++ List.replicate (j + 1) [D.v (.string ⟨#[]⟩)] := by
          rw [show (k : Int).toNat = k by omega, show (m : Int).toNat = m by omega]
          rw [List.set_append_right _ _ (by simp; omega)]
          simp only [List.length_map, hp, Nat.sub_self, List.replicate_succ, List.set_cons_zero]
          simp
        rw [e, show ((m : Int) + 1).toNat = m + 1 by omega]
        exact_mod_cast g1
  have hc := count72 ext h72 h80 s
  rw [hq] at hc
  obtain ⟨l, g1, g2, g3⟩ := key q 0 s [] (by omega) rfl (Nat.le_refl _) (by simp)
  refine ⟨l, enter58 ext hx s q _ hc (by omega) (wr_id (by omega) (by omega)) (wr_id (by omega) (by omega)) ?_ (by omega) (by omega) ?_, g2, by omega⟩
  · rw [wr_id (by omega) (by omega)]; omega
  · have : ((q : Int) + 1).toNat = q + 1 := by omega
    rw [this]
    simpa using g1
theorem split46 (hx : ext 46 = none) (h58 : ext 58 = none) (h72 : ext 72 = none) (h73 : ext 73 = none) (h80 : ext 80 = some nat80) (h81 : ext 81 = none) (h83 : ext 83 = none) (h87 : ext 87 = some nat87) (s : ByteArray) (hs : s.size < 2 ^ 40) :
    ∃ l : List ByteArray, run Tryd.prog ext (.call 46 [sV s, sV semi] []) = some (.ret [.c (.d (listS false l))] []) ∧ (∀ x ∈ l, x.size ≤ s.size) ∧ l.length ≤ s.size + 1 := by
  obtain ⟨l, h1, h2, h3⟩ := genSplit58 ext h58 h72 h73 h80 h81 h83 h87 s hs
  refine ⟨l, ?_, h2, h3⟩
  (rw [run_eq]; simp only [stepA, hx, Tryd.func46, Tryd.f46]; simp only [List.length_cons, List.length_nil, Nat.reduceAdd, Nat.reduceLeDiff, Nat.zero_le, ↓reduceIte, List.zipIdx_cons, List.zipIdx_nil, List.map_cons, List.map_nil])
  simp only [sV, iV] at h1 ⊢
  simp only [zS, wantedA, opA, eff, boxA, cells, ev, gt, pt, putO, updO, setO, okC, loadA, cutC, fieldAddrA, fieldA, indexAddrA, indexA, builtinA, callOpA, callV, target, ptrV, lenS, binA, intOp, strOp, unA, num, lk, over, allocA, pickA, buildA, fillA, convertA, extractA, ofComp, nilCheckA, makeFuncA, ptrs, ofValue, cellB, Nat.reduceAdd, Nat.reduceSub, Nat.reduceMul, Nat.reduceLT, Nat.reduceLeDiff, Nat.reduceGT, ↓reduceIte, Nat.reduceEqDiff, Nat.reduceBEq, reduceCtorEq, Int.reduceBEq, Int.reduceBNe, Int.reduceLT, Int.reduceLE, Int.reduceGT, Int.reduceGE, aggT_9, sizeT_9, bytesT_9, und_9, zero1_9, zeroT_9, aggT_3, sizeT_3, bytesT_3, und_3, zero1_3, zeroT_3, aggT_4, sizeT_4, bytesT_4, und_4, zero1_4, zeroT_4, aggT_22, sizeT_22, bytesT_22, und_22, elemT_22, zero1_22, zeroT_22, h1]
  (refine Eq.trans ?_ rfl; kernel_rfl)
end Go.Proofs.YtmjacokkgfophaaDoor.Am
end
