/- Part 3 of the proof of the card of TableFamilies, second form: no statement of its own; no conditions. -/
import Derived.Test.YteenjodhmppgjaaGreatDoorPa2
import Derived.Recover
import Derived.Test.YteenjodhmppgjaaGreatDoorProg
set_option linter.unusedSimpArgs false
set_option linter.unusedVariables false
set_option linter.defProp false
set_option linter.unusedSectionVars false
section
/- The abstract machine: runs are sound. -/
namespace Go.Proofs.YteenjodhmppgjaaGreatDoor.Am
open Go
def concs : List It → List Item → Prop
  | [], k => k = []
  | .code c :: K, k => ∃ k', k = .code c :: k' ∧ concs K k'
  | .inBlock id :: K, k => ∃ k', k = .inBlock id :: k' ∧ concs K k'
  | .inLoop c :: K, k => ∃ k', k = .inLoop c :: k' ∧ concs K k'
  | .ops all l :: K, k => ∃ is k', k = .inRegion all is :: k' ∧ is.map (fun i => all[i]?) = l.map some ∧ concs K k'
theorem exit_ok {id : Nat} : ∀ {K K' : List It} {k : List Item}, exitA id K = some K' → concs K k → ∃ k', exitTo id k = some k' ∧ concs K' k'
  | [], _, _, h, _ => by cases h
  | .code c :: K, K', k, h, hc => by
    obtain ⟨k1, rfl, hc⟩ := hc
    simp only [exitTo]; exact exit_ok (K := K) h hc
  | .inLoop c :: K, K', k, h, hc => by
    obtain ⟨k1, rfl, hc⟩ := hc
    simp only [exitTo]; exact exit_ok (K := K) h hc
  | .ops all l :: K, K', k, h, hc => by
    obtain ⟨is, k1, rfl, _, hc⟩ := hc
    simp only [exitTo]; exact exit_ok (K := K) h hc
  | .inBlock id' :: K, K', k, h, hc => by
    obtain ⟨k1, rfl, hc⟩ := hc
    simp only [exitA] at h
    simp only [exitTo]
    split at h
    · rename_i he
      cases h
      exact ⟨k1, by simp [he], hc⟩
    · rename_i he
      obtain ⟨k2, h1, h2⟩ := exit_ok (K := K) h hc
      exact ⟨k2, by simp [he, h1], h2⟩
/-- What a function leaves at its end. -/
def PostK (P : Program) (fn : Func) (m : Nat) (out : Out) (w0 : World) (F : Nat → Prop) (β0 : Nat → Nat) (look0 : Look) : FinK → Act → World → Prop
  | .ret, a', w' => a'.defers = [] ∧ ∃ vs os v β', out = .ret vs os ∧ (results fn a'.tmps).run P w' = .ok v w' ∧ RRes w' F β' (lk os) v vs ∧ Sim w' F β' (lk os) ∧ St (· < m) w0 β0 look0 w' β' (lk os)
  | .pan ch, a', w' => a'.defers = [] ∧ ∃ x os β', out = .pan x os ∧ ch = [{ v := x, recovered := false }] ∧ Sim w' F β' (lk os) ∧ St (· < m) w0 β0 look0 w' β' (lk os)
section
variable {P : Program}
theorem PostK.trans {fn : Func} {m : Nat} {out : Out} {w0 w1 : World} {F : Nat → Prop} {β0 β1 : Nat → Nat} {l0 l1 : Look} (h : St (· < m) w0 β0 l0 w1 β1 l1) {fk : FinK} {a : Act} {w : World} (hp : PostK P fn m out w1 F β1 l1 fk a w) : PostK P fn m out w0 F β0 l0 fk a w := by
  cases fk with
  | ret => obtain ⟨a1, vs, os, v, β', h1, h2, h3, h4, h5⟩ := hp; exact ⟨a1, vs, os, v, β', h1, h2, h3, h4, h.trans h5⟩
  | pan ch => obtain ⟨a1, x, os, β', h1, h2, h3, h4⟩ := hp; exact ⟨a1, x, os, β', h1, h2, h3, h.trans h4⟩
/-- Whoever stands at the head of these items comes to the end that out tells. -/
def At0 (P : Program) (fn : Func) (m : Nat) (out : Out) (F : Nat → Prop) (todo : List It) (items : List Item) (a : Act) (w : World) (β : Nat → Nat) (look : Look) : Prop :=
  match todo, items with
  | .ops _ _ :: _, .inRegion all is :: k => wpOps P all (Qr P k (PostK P fn m out w F β look)) is a w
  | _, _ => Reach P items a w (PostK P fn m out w F β look)
def EOK (P : Program) : Entry → Out → Prop
  | .call f args objs, out => (Bodied P f ∧ CallOK P f args objs out) ∨ NatOK P f args objs out
  | .k cf todo env loc, out => ∀ (fn : Func) (items : List Item) (a : Act) (w : World) (F : Nat → Prop) (β : Nat → Nat), fn.results.toList = cf.res → concs todo items → a.tmps.size = cf.nt → a.defers = [] →
      Sim w F β (lk loc) → EnvR w F β (lk loc) a.tmps env → At0 P fn cf.m out F todo items a w β (lk loc)
theorem at_reach {fn : Func} {m : Nat} {out : Out} {F : Nat → Prop} {todo : List It} {items : List Item} {a : Act} {w : World} {β : Nat → Nat} {look : Look} (hc : concs todo items) (h : At0 P fn m out F todo items a w β look) : Reach P items a w (PostK P fn m out w F β look) := by
  cases todo with
  | nil => exact h
  | cons x K =>
    cases x with
    | code c => obtain ⟨k', rfl, _⟩ := hc; exact h
    | inBlock id => obtain ⟨k', rfl, _⟩ := hc; exact h
    | inLoop c => obtain ⟨k', rfl, _⟩ := hc; exact h
    | ops all l => obtain ⟨is, k', rfl, _, _⟩ := hc; exact reach_ops h
theorem reach_end {items : List Item} {a : Act} {w : World} {Post : FinK → Act → World → Prop} (hs : ∀ (b : Frame) (cs : List Frame), step P (lone (b.at a items) cs w) = .next (lone { b.at a items with mode := .returning } cs w)) (h : Post .ret a w) : Reach P items a w Post :=
  fun b cs => ⟨.ret, a, w, items, h, .one (hs b cs)⟩
theorem ends {fn : Func} {cf : Cf} {env : Env} {loc : List O} {out : Out} {w : World} {F : Nat → Prop} {β : Nat → Nat} {a : Act} (hres : fn.results.toList = cf.res) (hd : a.defers = []) (hS : Sim w F β (lk loc)) (hE : EnvR w F β (lk loc) a.tmps env) (h : finishA P cf env loc = some out) :
    PostK P fn cf.m out w F β (lk loc) .ret a w := by
  obtain ⟨vs, os, v, β', h1, h2, h3, h4, h5⟩ := finish_ok hS hE hres h
  exact ⟨hd, vs, os, v, β', h1, h2, h3, h4, h5⟩
theorem wanted_ok {all : Array Oper} {env : Env} {g : Option (Nat × Bool)} {b : Bool} {w : World} {F : Nat → Prop} {β : Nat → Nat} {look : Look} {a : Act} (hE : EnvR w F β look a.tmps env) (h : wantedA all env g = some b) (o : Oper) (ho : o.guard = g) : Region.wanted o (yielded all a.tmps) = b := by
  unfold wantedA at h
  unfold Region.wanted
  rw [ho]
  cases g with
  | none => simpa using h
  | some p =>
    obtain ⟨j, want⟩ := p
    dsimp only at h ⊢
    cases hj : all[j]? with
    | none => simp [hj] at h
    | some oj =>
      simp only [hj] at h
      cases hd : oj.dst with
      | none => simp [hd] at h
      | some t =>
        simp only [hd] at h
        split at h
        · rename_i c hc
          simp only [Option.some.injEq] at h
          subst h
          have h1 := hE t
          rw [hc] at h1
          have h2 : a.tmps.getD t undef = .bool c := (rv_v h1).1
          have h3 : a.tmps[t]? = some (.bool c) := by
            rw [Array.getD_eq_getD_getElem?] at h2
            cases h4 : a.tmps[t]? with
            | none => rw [h4] at h2; cases h2
            | some y => rw [h4] at h2; simp at h2; rw [h2]
          have h5 : yielded all a.tmps j = some c := by
            unfold yielded
            rw [hj]
            simp only [Option.bind_some, hd, h3]
          rw [h5]
          cases c <;> cases want <;> rfl
        · rename_i hc
          simp only [Option.some.injEq] at h
          subst h
          have h1 := hE t
          rw [hc] at h1
          obtain ⟨u, h2, _⟩ := h1
          have h5 : yielded all a.tmps j = none := by
            unfold yielded
            rw [hj]
            simp only [Option.bind_some, hd]
            rw [Array.getD_eq_getD_getElem?] at h2
            cases h4 : a.tmps[t]? with
            | none => rfl
            | some y => rw [h4] at h2; simp at h2; rw [h2]
          rw [h5]
          rfl
        · cases h
theorem upon_mono {o : Oper} {a : Act} {K K' : Act → World → Prop} {Q Q' : Exit → Act → World → Prop} (h : ∀ a w, K a w → K' a w) (hQ : ∀ e a w, Q e a w → Q' e a w) {r : Result Next} (hh : o.upon P a K Q r) : o.upon P a K' Q' r := by
  cases r with
  | ok n w' =>
    cases n <;> simp only [Oper.upon] at hh ⊢ <;>
      first
        | exact h _ _ hh
        | exact Calls.mono hh (fun e w'' he => by
            cases e with
            | returned v => exact h _ _ he
            | panicked ch => exact hQ _ _ _ he
            | outgrown => obtain ⟨a0, w0, hq⟩ := he; exact ⟨a0, w0, hQ _ _ _ hq⟩)
        | exact Rows.mono hh (fun _ _ he => h _ _ he)
  | halt x w' => cases x <;> simp only [Oper.upon] at hh ⊢ <;> first | exact hQ _ _ _ hh | exact hh
theorem wpOps_mono {ops : Array Oper} {Q Q' : Exit → Act → World → Prop} (hQ : ∀ e a w, Q e a w → Q' e a w) : ∀ (l : List Nat) (a : Act) (w : World), wpOps P ops Q l a w → wpOps P ops Q' l a w
  | [], a, w, h => hQ _ _ _ h
  | i :: rest, a, w, h => by
    simp only [wpOps] at h ⊢
    cases ho : ops[i]? with
    | none => simp only [ho] at h; exact wpOps_mono hQ rest a w h
    | some o =>
      simp only [ho] at h ⊢
      split
      · rename_i hw
        rw [if_pos hw] at h
        rcases h with h | ⟨h1, a0, w0, h2⟩
        · exact .inl (upon_mono (fun a w => wpOps_mono hQ rest a w) hQ h)
        · exact .inr ⟨h1, a0, w0, hQ _ _ _ h2⟩
      · rename_i hw
        rw [if_neg hw] at h
        exact wpOps_mono hQ rest _ w h
theorem runs_sound (hN : Named P) {ext : Ext} (hext : ∀ f g args objs out, ext f = some g → g args objs = some out → (Bodied P f ∧ CallOK P f args objs out) ∨ NatOK P f args objs out)
    (hMix : P.follows .mixedOrders = true) : ∀ (n : Nat) (e : Entry) (out : Out), runN P ext n e = some out → EOK P e out
  | 0, _, _, h => by cases h
  | n + 1, e, out, h => by
    have ih := runs_sound hN hext hMix n
    have hrec : RecOK P (runN P ext n) := fun f args objs o hr => ih _ _ hr
    simp only [runN] at h
    cases e with
    | call f args objs =>
      simp only [stepA] at h
      cases hx : ext f with
      | some g =>
        simp only [hx] at h
        exact hext f g args objs out hx h
      | none =>
        simp only [hx] at h
        cases hf : P.funcs[f]? with
        | none => simp [hf] at h
        | some fn =>
          simp only [hf] at h
          cases hb : fn.body with
          | none => simp [hb] at h
          | some c =>
            simp only [hb] at h
            split at h
            case isFalse => cases h
            rename_i hlen
            refine .inl ⟨⟨fn, hf, by simp [hb]⟩, fun w F β vals hS hargs => ?_⟩
            refine calls_of_reach hf hb ?_
            have hvl : vals.length = args.length := hargs.length
            have hsz : (vals.toArray ++ Array.replicate (fn.ntmps - vals.toArray.size) undef).size = fn.ntmps := by simp; omega
            have hE : EnvR w F β (lk objs) (vals.toArray ++ Array.replicate (fn.ntmps - vals.toArray.size) undef) (args.zipIdx.map fun (v, i) => (i, v)) := by
              intro t
              have key : ∀ (l : List V) (i t : Nat), gt ((l.zipIdx i).map fun (v, i) => (i, v)) t = if i ≤ t then (l[t - i]?).getD (.c .any) else .c .any := by
                intro l
                induction l with
                | nil => intro i t; simp [gt]
                | cons x l ihl =>
                  intro i t
                  simp only [List.zipIdx_cons, List.map_cons, gt, ihl]
                  by_cases e : i = t
                  · subst e; simp
                  · simp only [e, if_false]
                    by_cases h1 : i + 1 ≤ t
                    · rw [if_pos h1, if_pos (by omega), show t - i = (t - (i + 1)) + 1 by omega]; simp
                    · rw [if_neg h1, if_neg (by omega)]
              rw [key args 0 t]
              simp only [Nat.zero_le, if_true, Nat.sub_zero]
              cases ha : args[t]? with
              | none => exact trivial
              | some x =>
                obtain ⟨v, h1, h2⟩ := hargs.get_right ha
                have hlt : t < vals.length := by
                  rcases Nat.lt_or_ge t vals.length with h | h
                  · exact h
                  · rw [List.getElem?_eq_none h] at h1; cases h1
                have : (vals.toArray ++ Array.replicate (fn.ntmps - vals.toArray.size) undef).getD t undef = v := by
                  rw [Array.getD_eq_getD_getElem?, Array.getElem?_append_left (by simpa using hlt)]
                  simp [h1]
                rw [this]
                exact h2
            have hk := ih _ _ h fn [.code c] { tmps := vals.toArray ++ Array.replicate (fn.ntmps - vals.toArray.size) undef, defers := [] } w F β rfl ⟨[], rfl, rfl⟩ hsz rfl hS hE
            refine Reach.mono hk fun fk a' w' hp => ?_
            cases fk with
            | ret =>
              obtain ⟨h1, vs, os, v, β', rfl, h3, h4, h5, h6⟩ := hp
              exact ⟨h1, v, h3, β', v, rfl, h4, h5, h6⟩
            | pan ch =>
              obtain ⟨h1, x, os, β', rfl, rfl, h4, h5⟩ := hp
              exact ⟨h1, β', rfl, h4, h5⟩
    | k cf todo env loc =>
      intro fn items a w F β hres hc hsz hd hS hE
      -- a step that only moves on
      have move : ∀ {K : List It} {items' : List Item}, runN P ext n (.k cf K env loc) = some out → concs K items' → (∀ (b : Frame) (cs : List Frame), step P (lone (b.at a items) cs w) = .next (lone (b.at a items') cs w)) → Reach P items a w (PostK P fn cf.m out w F β (lk loc)) := by
        intro K items' hr hc' hs
        exact reach_step hs (at_reach hc' (ih _ _ hr fn items' a w F β hres hc' hsz hd hS hE))
      cases todo with
      | nil =>
        simp only [concs] at hc
        subst hc
        exact reach_end (fun b cs => step_end) (ends hres hd hS hE h)
      | cons x K =>
        cases x with
        | inBlock id =>
          obtain ⟨k', rfl, hc⟩ := hc
          exact move (K := K) h hc (fun b cs => step_inBlock)
        | inLoop c =>
          obtain ⟨k', rfl, hc⟩ := hc
          simp only [stepA, afterHead] at h
          cases hh : headL cf c K env loc with
          | none => simp [hh] at h
          | some p =>
            obtain ⟨env', os⟩ := p
            simp only [hh] at h
            obtain ⟨β', hS', hE', hst⟩ := head_ok hS (EnvR.pad hE _) hh
            have hc' : concs (.code c :: .inLoop c :: K) (.code c :: .inLoop c :: k') := ⟨_, rfl, _, rfl, hc⟩
            have hr := at_reach hc' (ih _ _ h fn _ a w F β' hres hc' hsz hd hS' hE')
            exact reach_step (fun b cs => step_inLoop) (hr.mono fun _ _ _ hp => PostK.trans hst hp)
        | code c =>
          obtain ⟨k', rfl, hc⟩ := hc
          show Reach P _ a w _
          simp only [stepA] at h
          cases c with
          | skip => exact move (K := K) h hc (fun b cs => step_skip)
          | ret => exact reach_end (fun b cs => step_ret) (ends hres hd hS hE h)
          | seq c1 c2 => exact move (K := .code c1 :: .code c2 :: K) h ⟨_, rfl, _, rfl, hc⟩ (fun b cs => step_seq)
          | block id c1 => exact move (K := .code c1 :: .inBlock id :: K) h ⟨_, rfl, _, rfl, hc⟩ (fun b cs => step_block)
          | cond x c1 c2 =>
            simp only [codeA] at h
            split at h
            · rename_i t ht
              have hx := ev_rep hE x
              rw [ht] at hx
              have hb : a.eval x = .bool t := (rv_v hx).1
              exact move (K := .code (if t then c1 else c2) :: K) h ⟨_, rfl, hc⟩ (fun b cs => step_cond hb)
            · cases h
          | exit id =>
            simp only [codeA] at h
            cases hx : exitA id K with
            | none => simp [hx] at h
            | some K' =>
              simp only [hx] at h
              obtain ⟨k2, h1, h2⟩ := exit_ok hx hc
              exact move (K := K') h h2 (fun b cs => step_exit h1)
          | loop c1 =>
            have hc' : concs (.inLoop c1 :: K) (.inLoop c1 :: k') := ⟨_, rfl, hc⟩
            have hr := at_reach hc' (ih _ _ h fn _ a w F β hres hc' hsz hd hS hE)
            exact reach_step (fun b cs => step_loop) (reach_unstep (fun b cs => step_inLoop) hr)
          | region id ops dr =>
            cases dr with
            | false =>
              have hl : (List.range ops.size).map (fun i => ops[i]?) = ops.toList.map some := by
                apply List.ext_getElem?
                intro i
                rw [List.getElem?_map, List.getElem?_map]
                by_cases hi : i < ops.size
                · rw [List.getElem?_range hi]; simp [hi]
                · rw [List.getElem?_eq_none (by simp; omega), List.getElem?_eq_none (by simp; omega)]; rfl
              exact move (K := .ops ops ops.toList :: K) h ⟨_, _, rfl, hl, hc⟩ (fun b cs => step_region)
            | true =>
              simp only [codeA] at h
              cases hdr : drawA P (runN P ext n) cf.nt ops loc.length ops.toList 0 env (loc ++ holes ops.size) with
              | none =>
                simp only [hdr] at h
                cases hpi : panIx P (runN P ext n) cf.nt ops loc.length ops.toList 0 env (loc ++ holes ops.size) with
                | none => simp [hpi] at h
                | some p =>
                  simp only [hpi] at h
                  unfold afterPan at h
                  split at h
                  case h_2 => cases h
                  rename_i x loc1 fps hdp
                  split at h
                  case isFalse => cases h
                  rename_i hall
                  simp only [Bool.and_eq_true, decide_eq_true_eq] at hall
                  obtain ⟨⟨⟨⟨hok, hpan⟩, hclo⟩, hmb⟩, hlen⟩ := hall
                  intro b cs
                  have hw := sim_frame (w' := { w with drawn := w.drawn + 1 }) hS rfl rfl rfl rfl
                  obtain ⟨hS1, st1⟩ := hw
                  have hE1 := EnvR.mono st1 hE
                  have hany := pan_ok_draw hN hrec hS1 hE1 hsz hd hdp hok hpan (Q := Qr P k' (PostK P fn cf.m out w F β (lk loc)))
                    (fun a' w' β' look' g1 g2 g3 g4 g5 g6 => by
                      have hl2 := lk_listOf (n := loc.length + ops.size) g2 g5
                      rw [← hl2] at g1 g3
                      have hcong := panicOut_congr (cf := cf) (x := x) (loc2 := listOf look' (loc.length + ops.size)) hmb hlen (by simp [listOf]) hclo (fun id hid => by rw [hl2]; exact g4 id hid)
                      rw [← hcong] at h
                      obtain ⟨os, β2, rfl, p1, p2⟩ := panic_ok g1 h
                      exact ⟨g6, x, os, β2, rfl, rfl, p1, (st1.trans g3).some.trans p2⟩)
                  have this : wpOps P ops (Qr P k' (PostK P fn cf.m out w F β (lk loc))) (Region.schedule (P.follows .mixedOrders) ops (w.tape w.drawn (.order b.fn id))) a { w with drawn := w.drawn + 1 } := by
                    simp only [Region.schedule, hMix, Bool.true_or, if_true]
                    exact wpAny_sound ops.size _ _ a _ hany
                  obtain ⟨fk, a', w', todo, p1, p2⟩ := reach_ops this b cs
                  exact ⟨fk, a', w', todo, p1, .head step_region_draw p2⟩
              | some p =>
                obtain ⟨env', loc', fps⟩ := p
                simp only [hdr, afterDraw] at h
                split at h
                case isFalse => cases h
                rename_i hok
                intro b cs
                have hw := sim_frame (w' := { w with drawn := w.drawn + 1 }) hS rfl rfl rfl rfl
                obtain ⟨hS1, st1⟩ := hw
                have hE1 := EnvR.mono st1 hE
                have hany := draw_ok hN hrec hS1 hE1 hsz hd hdr hok (Q := Qr P k' (PostK P fn cf.m out w F β (lk loc)))
                  (fun a' w' β' g1 g2 g3 g4 g5 => by
                    have hr := at_reach hc (ih _ _ h fn k' a' w' F β' hres hc g4 g5 g1 g2)
                    exact hr.mono fun _ _ _ hp => PostK.trans (st1.trans g3).some hp)
                have this : wpOps P ops (Qr P k' (PostK P fn cf.m out w F β (lk loc))) (Region.schedule (P.follows .mixedOrders) ops (w.tape w.drawn (.order b.fn id))) a { w with drawn := w.drawn + 1 } := by
                  simp only [Region.schedule, hMix, Bool.true_or, if_true]
                  exact wpAny_sound ops.size _ _ a _ hany
                obtain ⟨fk, a', w', todo, p1, p2⟩ := reach_ops this b cs
                exact ⟨fk, a', w', todo, p1, .head step_region_draw p2⟩
          | _ => cases h
        | ops all l =>
          obtain ⟨is, k', rfl, hl, hc⟩ := hc
          show wpOps P all _ is a w
          cases l with
          | nil =>
            have : is = [] := by simpa using hl
            subst this
            simp only [stepA] at h
            exact at_reach hc (ih _ _ h fn k' a w F β hres hc hsz hd hS hE)
          | cons o l =>
            cases is with
            | nil => simp at hl
            | cons i is =>
              simp only [List.map_cons, List.cons.injEq] at hl
              obtain ⟨hi, hl⟩ := hl
              simp only [stepA] at h
              split at h
              case isFalse => cases h
              rename_i hdst
              rw [← hsz] at hdst
              simp only [wpOps, hi]
              cases hw : wantedA all env o.guard with
              | none => simp [hw] at h
              | some b =>
                simp only [hw] at h
                have hwant := wanted_ok hE hw o rfl
                rw [hwant]
                cases b with
                | false =>
                  simp only [Bool.false_eq_true, if_false]
                  dsimp only at h
                  exact ih _ _ h fn (.inRegion all is :: k') (a.put o.dst undef) w F β hres ⟨is, k', rfl, hl, hc⟩ (by rw [put_size]; exact hsz) (by rw [put_defers]; exact hd) hS (hE.put rv_und hdst)
                | true =>
                  simp only [if_true]
                  left
                  dsimp only at h
                  cases hop : opA P (runN P ext n) (lk loc) loc.length (ev env) o.op with
                  | none => simp [hop, afterOp] at h
                  | some e =>
                    have hslot : ∀ id, loc.length ≤ id → lk loc id = none := by
                      intro id hid
                      simp [lk, List.getElem?_eq_none hid]
                    have hgo := op_goes hN hrec hS (noHole_lk loc) (hslot _ (Nat.le_refl _)) (a := a) (fun y => ev_rep hE y) hop (fun id h1 _ => hslot id h1)
                    refine hgo _ _ fun w' β' hg => ?_
                    obtain ⟨res, upd, rd⟩ := e
                    obtain ⟨g1, g2⟩ := hg
                    rw [← lk_updO] at g1 g2
                    cases res with
                    | val v =>
                      intro x hx
                      simp only [hop, afterOp] at h
                      dsimp only at hx
                      rw [← lk_updO] at hx
                      have := ih _ _ h fn (.inRegion all is :: k') (a.put o.dst x) w' F β' hres ⟨is, k', rfl, hl, hc⟩ (by rw [put_size]; exact hsz) (by rw [put_defers]; exact hd) g1 ((EnvR.mono g2 hE).put hx hdst)
                      have hmono : ∀ (e : Exit) (a : Act) (w'' : World), Qr P k' (PostK P fn cf.m out w' F β' (lk (updO loc upd))) e a w'' → Qr P k' (PostK P fn cf.m out w F β (lk loc)) e a w'' := by
                        intro e a w'' hq
                        cases e with
                        | normal => exact Reach.mono hq fun _ _ _ hp => PostK.trans g2.some hp
                        | panic ch => exact PostK.trans (P := P) (fn := fn) (fk := .pan ch) g2.some hq
                        | _ => exact hq
                      exact wpOps_mono hmono _ _ _ this
                    | pan x =>
                      simp only [hop, afterOp] at h
                      obtain ⟨os, β2, rfl, p1, p2⟩ := panic_ok g1 h
                      exact ⟨hd, x, os, β2, rfl, rfl, p1, g2.some.trans p2⟩
/-- What a run answers is what the function does. -/
theorem run_sound (hN : Named P) {ext : Ext} (hext : ∀ f g args objs out, ext f = some g → g args objs = some out → (Bodied P f ∧ CallOK P f args objs out) ∨ NatOK P f args objs out) (hMix : P.follows .mixedOrders = true) {f : FuncId} {args : List V} {objs : List O} {out : Out}
    (h : run P ext (.call f args objs) = some out) (hB : Bodied P f) : CallOK P f args objs out := by
  obtain ⟨n, hn⟩ := (run_iff P ext _ _).1 h
  rcases runs_sound hN hext hMix n _ _ hn with ⟨_, h⟩ | ⟨xs, y, _, _, _, _, h⟩
  · exact h
  · have h1 := h default
    rw [run_callFunc hN hB] at h1
    cases h1
end
end Go.Proofs.YteenjodhmppgjaaGreatDoor.Am
end
section
/- The abstract machine: how a run goes on, as rules for simp. -/
namespace Go.Proofs.YteenjodhmppgjaaGreatDoor.Am
open Go
section
variable {P : Program} {ext : Ext} {cf : Cf} {K : List It} {env : Env} {loc : List O} {all : Array Oper} {l : List Oper}
theorem r_end : run P ext (.k cf [] env loc) = finishA P cf env loc := by rw [run_eq]; rfl
theorem r_ret : run P ext (.k cf (.code .ret :: K) env loc) = finishA P cf env loc := by rw [run_eq]; rfl
theorem r_skip : run P ext (.k cf (.code .skip :: K) env loc) = run P ext (.k cf K env loc) := by rw [run_eq]; rfl
theorem r_seq (a b : Code) : run P ext (.k cf (.code (.seq a b) :: K) env loc) = run P ext (.k cf (.code a :: .code b :: K) env loc) := by rw [run_eq]; rfl
theorem r_block (id : Nat) (a : Code) : run P ext (.k cf (.code (.block id a) :: K) env loc) = run P ext (.k cf (.code a :: .inBlock id :: K) env loc) := by rw [run_eq]; rfl
theorem r_inBlock (id : Nat) : run P ext (.k cf (.inBlock id :: K) env loc) = run P ext (.k cf K env loc) := by rw [run_eq]; rfl
theorem r_loop (a : Code) : run P ext (.k cf (.code (.loop a) :: K) env loc) = run P ext (.k cf (.inLoop a :: K) env loc) := by rw [run_eq]; rfl
theorem r_region (n : Nat) (ops : Array Oper) : run P ext (.k cf (.code (.region n ops false) :: K) env loc) = run P ext (.k cf (.ops ops ops.toList :: K) env loc) := by rw [run_eq]; rfl
def panK (P : Program) (rec : Rec) (cf : Cf) (ops : Array Oper) (env : Env) (loc : List O) (b : Option Nat) : Option Out :=
  match b with
  | some p => afterPan cf ops loc.length p (drawP P rec cf.nt ops loc.length p (befs [] ops.toList) ops.toList 0 env (loc ++ holes ops.size))
  | none => none
def drawK (P : Program) (rec : Rec) (cf : Cf) (ops : Array Oper) (K : List It) (env : Env) (loc : List O) (a : Option (Env × List O × List (List Nat × List Nat))) : Option Out :=
  match a with
  | some r => afterDraw rec cf ops K (some r)
  | none => panK P rec cf ops env loc (panIx P rec cf.nt ops loc.length ops.toList 0 env (loc ++ holes ops.size))
theorem r_draw (n : Nat) (ops : Array Oper) : run P ext (.k cf (.code (.region n ops true) :: K) env loc) = drawK P (run P ext) cf ops K env loc (drawA P (run P ext) cf.nt ops loc.length ops.toList 0 env (loc ++ holes ops.size)) := by rw [run_eq]; rfl
theorem drawK_some (rec : Rec) (ops : Array Oper) (r : Env × List O × List (List Nat × List Nat)) : drawK P rec cf ops K env loc (some r) = afterDraw rec cf ops K (some r) := rfl
theorem r_ops_nil : run P ext (.k cf (.ops all [] :: K) env loc) = run P ext (.k cf K env loc) := by rw [run_eq]; rfl
/-- At the head of a loop's round: for `rw` alone. -/
theorem r_inLoop (c : Code) : run P ext (.k cf (.inLoop c :: K) env loc) = afterHead (run P ext) cf (.code c :: .inLoop c :: K) (headL cf c K env loc) := by rw [run_eq]; rfl
def condK (rec : Rec) (cf : Cf) (v : V) (a b : Code) (K : List It) (env : Env) (loc : List O) : Option Out :=
  match v with
  | .c (.d (.v (.bool t))) => rec (.k cf (.code (if t then a else b) :: K) env loc)
  | _ => none
theorem r_cond (x : Operand) (a b : Code) : run P ext (.k cf (.code (.cond x a b) :: K) env loc) = condK (run P ext) cf (ev env x) a b K env loc := by rw [run_eq]; rfl
theorem condK_true (rec : Rec) (a b : Code) : condK rec cf (.c (.d (.v (.bool true)))) a b K env loc = rec (.k cf (.code a :: K) env loc) := rfl
theorem condK_false (rec : Rec) (a b : Code) : condK rec cf (.c (.d (.v (.bool false)))) a b K env loc = rec (.k cf (.code b :: K) env loc) := rfl
def exitK (rec : Rec) (cf : Cf) (r : Option (List It)) (env : Env) (loc : List O) : Option Out :=
  match r with
  | some K => rec (.k cf K env loc)
  | none => none
theorem r_exit (id : Nat) : run P ext (.k cf (.code (.exit id) :: K) env loc) = exitK (run P ext) cf (exitA id K) env loc := by rw [run_eq]; rfl
theorem exitK_some (rec : Rec) (K : List It) : exitK rec cf (some K) env loc = rec (.k cf K env loc) := rfl
theorem exitA_code (id : Nat) (c : Code) (K : List It) : exitA id (.code c :: K) = exitA id K := rfl
theorem exitA_loop (id : Nat) (c : Code) (K : List It) : exitA id (.inLoop c :: K) = exitA id K := rfl
theorem exitA_ops (id : Nat) (K : List It) : exitA id (.ops all l :: K) = exitA id K := rfl
theorem exitA_block (id i : Nat) (K : List It) : exitA id (.inBlock i :: K) = if i == id then some K else exitA id K := rfl
def opK (P : Program) (rec : Rec) (cf : Cf) (all : Array Oper) (d : Option Nat) (o : Op) (l : List Oper) (K : List It) (env : Env) (loc : List O) (w : Option Bool) : Option Out :=
  match w with
  | some true => afterOp rec cf all d l K env loc (opA P rec (lk loc) loc.length (ev env) o)
  | some false => rec (.k cf (.ops all l :: K) (putO env d (.tup [])) loc)
  | none => none
theorem r_op (d : Option Nat) (o : Op) (t : Nat) (p : String) (a : Array Edge) (h : dstOk cf.nt d = true) :
    run P ext (.k cf (.ops all ({ dst := d, op := o, type := t, pos := p, after := a, guard := none } :: l) :: K) env loc) = afterOp (run P ext) cf all d l K env loc (opA P (run P ext) (lk loc) loc.length (ev env) o) := by
  rw [run_eq]; simp only [stepA, h, wantedA, if_true]
theorem r_opg (d : Option Nat) (o : Op) (t : Nat) (p : String) (a : Array Edge) (g : Nat × Bool) (h : dstOk cf.nt d = true) :
    run P ext (.k cf (.ops all ({ dst := d, op := o, type := t, pos := p, after := a, guard := some g } :: l) :: K) env loc) = opK P (run P ext) cf all d o l K env loc (wantedA all env (some g)) := by
  rw [run_eq]; simp only [stepA, h, if_true]; rfl
theorem opK_true (rec : Rec) (d : Option Nat) (o : Op) : opK P rec cf all d o l K env loc (some true) = afterOp rec cf all d l K env loc (opA P rec (lk loc) loc.length (ev env) o) := rfl
theorem opK_false (rec : Rec) (d : Option Nat) (o : Op) : opK P rec cf all d o l K env loc (some false) = rec (.k cf (.ops all l :: K) (putO env d (.tup [])) loc) := rfl
theorem afterOp_val (rec : Rec) (d : Option Nat) (v : V) (u : List (Nat × O)) (rd : List Nat) : afterOp rec cf all d l K env loc (some ⟨.val v, u, rd⟩) = rec (.k cf (.ops all l :: K) (putO env d v) (updO loc u)) := rfl
theorem afterOp_pan (rec : Rec) (d : Option Nat) (x : Value) (u : List (Nat × O)) (rd : List Nat) : afterOp rec cf all d l K env loc (some ⟨.pan x, u, rd⟩) = panicOut cf x (updO loc u) := rfl
theorem afterDraw_some (rec : Rec) (e : Env) (lo : List O) (fps : List (List Nat × List Nat)) (h : drawOk all fps = true) : afterDraw rec cf all K (some (e, lo, fps)) = rec (.k cf K e lo) := by simp only [afterDraw, h, if_true]

/-! ### calls whose arguments are data -/
def dataC : C → Bool
  | .d _ => true
  | .elt _ _ _ _ => true
  | .fn _ [] [] => true
  | _ => false
def dataV : V → Bool
  | .c x => dataC x
  | .agg cs => cs.all dataC
  | .tup _ => false
theorem argC_data {look : Look} {c : C} (h : dataC c = true) : argC look c = some (c, []) ∧ refsC c = [] ∧ ∀ r, renC r c = some c := by
  unfold dataC at h
  split at h
  · exact ⟨rfl, rfl, fun _ => rfl⟩
  · exact ⟨rfl, rfl, fun _ => rfl⟩
  · exact ⟨rfl, rfl, fun _ => rfl⟩
  · cases h
theorem argCs_data {look : Look} : ∀ {cs : List C}, cs.all dataC = true → argCs look cs = some (cs, []) ∧ cs.flatMap refsC = [] ∧ ∀ r, mapO (renC r) cs = some cs
  | [], _ => ⟨rfl, rfl, fun _ => rfl⟩
  | c :: cs, h => by
    simp only [List.all_cons, Bool.and_eq_true] at h
    obtain ⟨h1, h2, h3⟩ := argC_data (look := look) h.1
    obtain ⟨h4, h5, h6⟩ := argCs_data (look := look) h.2
    exact ⟨by simp only [argCs, h1, h4, List.append_nil], by simp only [List.flatMap_cons, h2, h5, List.append_nil], fun r => by simp only [mapO, h3, h6]⟩
theorem argV_data {look : Look} {v : V} (h : dataV v = true) : argV look v = some (v, []) ∧ refsV v = [] ∧ ∀ r, renV r v = some v := by
  cases v with
  | c x => obtain ⟨h1, h2, h3⟩ := argC_data (look := look) h; exact ⟨by simp only [argV, h1], h2, fun r => by simp only [renV, h3]⟩
  | agg cs => obtain ⟨h1, h2, h3⟩ := argCs_data (look := look) h; exact ⟨by simp only [argV, h1], h2, fun r => by simp only [renV, h3]⟩
  | tup vs => cases h
theorem argVs_data {look : Look} : ∀ {vs : List V}, vs.all dataV = true → argVs look vs = some (vs, []) ∧ vs.flatMap refsV = [] ∧ ∀ r, mapO (renV r) vs = some vs
  | [], _ => ⟨rfl, rfl, fun _ => rfl⟩
  | c :: cs, h => by
    simp only [List.all_cons, Bool.and_eq_true] at h
    obtain ⟨h1, h2, h3⟩ := argV_data (look := look) h.1
    obtain ⟨h4, h5, h6⟩ := argVs_data (look := look) h.2
    exact ⟨by simp only [argVs, h1, h4, List.append_nil], by simp only [List.flatMap_cons, h2, h5, List.append_nil], fun r => by simp only [mapO, h3, h6]⟩
theorem argVsK_data {keep : Bool} {look : Look} {vs : List V} (h : vs.all dataV = true) : argVsK keep look vs = some (vs, []) := by
  cases keep with
  | true => rfl
  | false => exact (argVs_data h).1
theorem callPrep_data {f : FuncId} {look : Look} {vs : List V} (h : vs.all dataV = true) : callPrep f look vs = some ([], [], vs, []) := by
  obtain ⟨h1, h2, h3⟩ := argVs_data (look := look) h
  simp only [callPrep, argVsK_data h, h2]
  have : Am.reach look 200 [] [] = [] := rfl
  simp only [this, h3, mapO]
  rfl
theorem callA_data (rec : Rec) {look : Look} {slot : Nat} {f : FuncId} {vs : List V} (h : vs.all dataV = true) : callA rec look slot f vs = callOut [] [] slot (rec (.call f vs [])) := by
  unfold callA; rw [callPrep_data h]; rfl
theorem callOut_one {slot : Nat} {v : V} (h : dataV v = true) : callOut [] [] slot (some (.ret [v] [])) = some { res := .val v, upd := [], rd := [] } := by
  obtain ⟨_, _, h3⟩ := argV_data (look := fun _ => none) h
  simp only [callOut, answer, mapO, h3, results1, List.length_nil, Nat.lt_irrefl, if_false]
  by_cases hs : (([v].all scalarV) && ([] : List O).isEmpty) = true
  · rw [if_pos hs]; rfl
  · rw [if_neg hs]; rfl
theorem dataV_d (x : D) : dataV (.c (.d x)) = true := id rfl
theorem dataV_elt (k : Nat) (els : List (List D)) (i off : Nat) : dataV (.c (.elt k els i off)) = true := id rfl
theorem dataV_fn (f : FuncId) : dataV (.c (.fn f [] [])) = true := id rfl
theorem dataV_agg (cs : List C) : dataV (.agg cs) = cs.all dataC := id rfl
theorem dataC_d (x : D) : dataC (.d x) = true := id rfl
theorem dataC_elt (k : Nat) (els : List (List D)) (i off : Nat) : dataC (.elt k els i off) = true := id rfl
theorem dataC_fn (f : FuncId) : dataC (.fn f [] []) = true := id rfl
/-- Behind the head of a loop's round. -/
theorem r_inLoop_some {e : Env} {lo : List O} {c : Code} (h : headL cf c K env loc = some (e, lo)) : run P ext (.k cf (.inLoop c :: K) env loc) = run P ext (.k cf (.code c :: .inLoop c :: K) e lo) := by rw [r_inLoop, h]; rfl
/-- The part of a code at a path: 0 and 1 of a sequence or a condition, 0 of a block or a loop. -/
def sub : Code → List Nat → Code
  | c, [] => c
  | .seq a b, i :: p => if i = 0 then sub a p else sub b p
  | .cond _ a b, i :: p => if i = 0 then sub a p else sub b p
  | .block _ a, _ :: p => sub a p
  | .loop a, _ :: p => sub a p
  | c, _ :: _ => c
/-! ### ends -/
end
end Go.Proofs.YteenjodhmppgjaaGreatDoor.Am
end
section
/- The abstract machine: pieces of a function that defers. -/
namespace Go.Proofs.YteenjodhmppgjaaGreatDoor.Am
open Go
section
variable {P : Program}
theorem recOK_run (hN : Named P) {ext : Ext} (hext : ∀ f g args objs out, ext f = some g → g args objs = some out → (Bodied P f ∧ CallOK P f args objs out) ∨ NatOK P f args objs out) (hMix : P.follows .mixedOrders = true) : RecOK P (run P ext) := by
  intro f args objs out h
  obtain ⟨n, hn⟩ := (run_iff P ext _ _).1 h
  exact runs_sound hN hext hMix n _ _ hn
/-- What is known behind a piece: the slots, the objects, what has become of the world. -/
def Behind (P : Program) (w : World) (F : Nat → Prop) (β : Nat → Nat) (loc : List O) (a : Act) (env' : Env) (loc' : List O) (a' : Act) (w' : World) (β' : Nat → Nat) : Prop :=
  Sim w' F β' (lk loc') ∧ EnvR w' F β' (lk loc') a'.tmps env' ∧ St (fun _ => True) w β (lk loc) w' β' (lk loc') ∧ a'.tmps.size = a.tmps.size ∧ a'.defers = a.defers
end
end Go.Proofs.YteenjodhmppgjaaGreatDoor.Am
end
section
/- The facts of the program's types, as rules for simp. Printed by a program (gen/facts.py). -/
namespace Go.Proofs.YteenjodhmppgjaaGreatDoor.Am
open Go
theorem named : Named Tryz.prog := by unfold Named; kernel_rfl
theorem mixes : Tryz.prog.follows .mixedOrders = true := by kernel_rfl
theorem aggT_3 : aggT Tryz.prog 3 = some false := by kernel_rfl
theorem sizeT_3 : sizeT Tryz.prog 3 = some 1 := by kernel_rfl
theorem bytesT_3 : bytesT Tryz.prog 3 = some 8 := by kernel_rfl
theorem und_3 : Tryz.prog.underlying 3 = some (.int .i64) := by kernel_rfl
theorem zero1_3 : zero1 Tryz.prog 3 = some (.int .i64 0) := by kernel_rfl
theorem zeroT_3 : zeroT Tryz.prog 3 = some [.d (.v (.int .i64 0))] := by kernel_rfl
theorem aggT_4 : aggT Tryz.prog 4 = some false := by kernel_rfl
theorem sizeT_4 : sizeT Tryz.prog 4 = some 1 := by kernel_rfl
theorem bytesT_4 : bytesT Tryz.prog 4 = some 1 := by kernel_rfl
theorem und_4 : Tryz.prog.underlying 4 = some .bool := by kernel_rfl
theorem zero1_4 : zero1 Tryz.prog 4 = some (.bool false) := by kernel_rfl
theorem zeroT_4 : zeroT Tryz.prog 4 = some [.d (.v (.bool false))] := by kernel_rfl
theorem aggT_9 : aggT Tryz.prog 9 = some false := by kernel_rfl
theorem sizeT_9 : sizeT Tryz.prog 9 = some 1 := by kernel_rfl
theorem bytesT_9 : bytesT Tryz.prog 9 = some 16 := by kernel_rfl
theorem und_9 : Tryz.prog.underlying 9 = some .string := by kernel_rfl
theorem zero1_9 : zero1 Tryz.prog 9 = some (.string ⟨#[]⟩) := by kernel_rfl
theorem zeroT_9 : zeroT Tryz.prog 9 = some [.d (.v (.string ⟨#[]⟩))] := by kernel_rfl
theorem aggT_22 : aggT Tryz.prog 22 = some false := by kernel_rfl
theorem sizeT_22 : sizeT Tryz.prog 22 = some 1 := by kernel_rfl
theorem bytesT_22 : bytesT Tryz.prog 22 = some 24 := by kernel_rfl
theorem und_22 : Tryz.prog.underlying 22 = some (.slice 39) := by kernel_rfl
theorem elemT_22 : elemT Tryz.prog 22 = some 39 := by kernel_rfl
theorem isSliceT_22 : isSliceT Tryz.prog 22 = true := by kernel_rfl
theorem zero1_22 : zero1 Tryz.prog 22 = some (.slice none 0 0) := by kernel_rfl
theorem zeroT_22 : zeroT Tryz.prog 22 = some [.d (.v (.slice none 0 0))] := by kernel_rfl
theorem aggT_24 : aggT Tryz.prog 24 = some true := by kernel_rfl
theorem sizeT_24 : sizeT Tryz.prog 24 = some 1 := by kernel_rfl
theorem bytesT_24 : bytesT Tryz.prog 24 = some 24 := by kernel_rfl
theorem fieldT_24_0 : fieldT Tryz.prog 24 0 = some (0, 22) := by kernel_rfl
theorem placesT_24 : placesT Tryz.prog 24 = some [(0, 1)] := by kernel_rfl
theorem zeroT_24 : zeroT Tryz.prog 24 = some [.d (.v (.slice none 0 0))] := by kernel_rfl
theorem aggT_27 : aggT Tryz.prog 27 = some false := by kernel_rfl
theorem sizeT_27 : sizeT Tryz.prog 27 = some 1 := by kernel_rfl
theorem bytesT_27 : bytesT Tryz.prog 27 = some 8 := by kernel_rfl
theorem und_27 : Tryz.prog.underlying 27 = some (.int .i64) := by kernel_rfl
theorem zero1_27 : zero1 Tryz.prog 27 = some (.int .i64 0) := by kernel_rfl
theorem zeroT_27 : zeroT Tryz.prog 27 = some [.d (.v (.int .i64 0))] := by kernel_rfl
theorem aggT_30 : aggT Tryz.prog 30 = some false := by kernel_rfl
theorem sizeT_30 : sizeT Tryz.prog 30 = some 1 := by kernel_rfl
theorem bytesT_30 : bytesT Tryz.prog 30 = some 24 := by kernel_rfl
theorem und_30 : Tryz.prog.underlying 30 = some (.slice 36) := by kernel_rfl
theorem elemT_30 : elemT Tryz.prog 30 = some 36 := by kernel_rfl
theorem isSliceT_30 : isSliceT Tryz.prog 30 = true := by kernel_rfl
theorem zero1_30 : zero1 Tryz.prog 30 = some (.slice none 0 0) := by kernel_rfl
theorem zeroT_30 : zeroT Tryz.prog 30 = some [.d (.v (.slice none 0 0))] := by kernel_rfl
theorem aggT_31 : aggT Tryz.prog 31 = some false := by kernel_rfl
theorem sizeT_31 : sizeT Tryz.prog 31 = some 1 := by kernel_rfl
theorem bytesT_31 : bytesT Tryz.prog 31 = some 24 := by kernel_rfl
theorem und_31 : Tryz.prog.underlying 31 = some (.slice 33) := by kernel_rfl
theorem elemT_31 : elemT Tryz.prog 31 = some 33 := by kernel_rfl
theorem isSliceT_31 : isSliceT Tryz.prog 31 = true := by kernel_rfl
theorem zero1_31 : zero1 Tryz.prog 31 = some (.slice none 0 0) := by kernel_rfl
theorem zeroT_31 : zeroT Tryz.prog 31 = some [.d (.v (.slice none 0 0))] := by kernel_rfl
theorem aggT_33 : aggT Tryz.prog 33 = some true := by kernel_rfl
theorem sizeT_33 : sizeT Tryz.prog 33 = some 5 := by kernel_rfl
theorem bytesT_33 : bytesT Tryz.prog 33 = some 80 := by kernel_rfl
theorem fieldT_33_0 : fieldT Tryz.prog 33 0 = some (0, 3) := by kernel_rfl
theorem fieldT_33_1 : fieldT Tryz.prog 33 1 = some (1, 3) := by kernel_rfl
theorem fieldT_33_2 : fieldT Tryz.prog 33 2 = some (2, 9) := by kernel_rfl
theorem fieldT_33_3 : fieldT Tryz.prog 33 3 = some (3, 30) := by kernel_rfl
theorem fieldT_33_4 : fieldT Tryz.prog 33 4 = some (4, 31) := by kernel_rfl
theorem placesT_33 : placesT Tryz.prog 33 = some [(0, 1), (1, 1), (2, 1), (3, 1), (4, 1)] := by kernel_rfl
theorem zeroT_33 : zeroT Tryz.prog 33 = some [.d (.v (.int .i64 0)), .d (.v (.int .i64 0)), .d (.v (.string ⟨#[]⟩)), .d (.v (.slice none 0 0)), .d (.v (.slice none 0 0))] := by kernel_rfl
theorem aggT_34 : aggT Tryz.prog 34 = some false := by kernel_rfl
theorem sizeT_34 : sizeT Tryz.prog 34 = some 1 := by kernel_rfl
theorem bytesT_34 : bytesT Tryz.prog 34 = some 24 := by kernel_rfl
theorem und_34 : Tryz.prog.underlying 34 = some (.slice 110) := by kernel_rfl
theorem elemT_34 : elemT Tryz.prog 34 = some 110 := by kernel_rfl
theorem isSliceT_34 : isSliceT Tryz.prog 34 = true := by kernel_rfl
theorem zero1_34 : zero1 Tryz.prog 34 = some (.slice none 0 0) := by kernel_rfl
theorem zeroT_34 : zeroT Tryz.prog 34 = some [.d (.v (.slice none 0 0))] := by kernel_rfl
theorem aggT_36 : aggT Tryz.prog 36 = some true := by kernel_rfl
theorem sizeT_36 : sizeT Tryz.prog 36 = some 2 := by kernel_rfl
theorem bytesT_36 : bytesT Tryz.prog 36 = some 32 := by kernel_rfl
theorem fieldT_36_0 : fieldT Tryz.prog 36 0 = some (0, 3) := by kernel_rfl
theorem fieldT_36_1 : fieldT Tryz.prog 36 1 = some (1, 34) := by kernel_rfl
theorem placesT_36 : placesT Tryz.prog 36 = some [(0, 1), (1, 1)] := by kernel_rfl
theorem zeroT_36 : zeroT Tryz.prog 36 = some [.d (.v (.int .i64 0)), .d (.v (.slice none 0 0))] := by kernel_rfl
theorem aggT_37 : aggT Tryz.prog 37 = some false := by kernel_rfl
theorem sizeT_37 : sizeT Tryz.prog 37 = some 1 := by kernel_rfl
theorem bytesT_37 : bytesT Tryz.prog 37 = some 24 := by kernel_rfl
theorem und_37 : Tryz.prog.underlying 37 = some (.slice 98) := by kernel_rfl
theorem elemT_37 : elemT Tryz.prog 37 = some 98 := by kernel_rfl
theorem isSliceT_37 : isSliceT Tryz.prog 37 = true := by kernel_rfl
theorem zero1_37 : zero1 Tryz.prog 37 = some (.slice none 0 0) := by kernel_rfl
theorem zeroT_37 : zeroT Tryz.prog 37 = some [.d (.v (.slice none 0 0))] := by kernel_rfl
theorem aggT_39 : aggT Tryz.prog 39 = some true := by kernel_rfl
theorem sizeT_39 : sizeT Tryz.prog 39 = some 23 := by kernel_rfl
theorem bytesT_39 : bytesT Tryz.prog 39 = some 360 := by kernel_rfl
theorem fieldT_39_0 : fieldT Tryz.prog 39 0 = some (0, 9) := by kernel_rfl
theorem fieldT_39_1 : fieldT Tryz.prog 39 1 = some (1, 3) := by kernel_rfl
theorem fieldT_39_2 : fieldT Tryz.prog 39 2 = some (2, 3) := by kernel_rfl
theorem fieldT_39_3 : fieldT Tryz.prog 39 3 = some (3, 33) := by kernel_rfl
theorem fieldT_39_4 : fieldT Tryz.prog 39 4 = some (8, 33) := by kernel_rfl
theorem fieldT_39_5 : fieldT Tryz.prog 39 5 = some (13, 33) := by kernel_rfl
theorem fieldT_39_6 : fieldT Tryz.prog 39 6 = some (18, 36) := by kernel_rfl
theorem fieldT_39_7 : fieldT Tryz.prog 39 7 = some (20, 36) := by kernel_rfl
theorem fieldT_39_8 : fieldT Tryz.prog 39 8 = some (22, 37) := by kernel_rfl
theorem placesT_39 : placesT Tryz.prog 39 = some [(0, 1), (1, 1), (2, 1), (3, 5), (8, 5), (13, 5), (18, 2), (20, 2), (22, 1)] := by kernel_rfl
theorem zeroT_39 : zeroT Tryz.prog 39 = some [.d (.v (.string ⟨#[]⟩)), .d (.v (.int .i64 0)), .d (.v (.int .i64 0)), .d (.v (.int .i64 0)), .d (.v (.int .i64 0)), .d (.v (.string ⟨#[]⟩)), .d (.v (.slice none 0 0)), .d (.v (.slice none 0 0)), .d (.v (.int .i64 0)), .d (.v (.int .i64 0)), .d (.v (.string ⟨#[]⟩)), .d (.v (.slice none 0 0)), .d (.v (.slice none 0 0)), .d (.v (.int .i64 0)), .d (.v (.int .i64 0)), .d (.v (.string ⟨#[]⟩)), .d (.v (.slice none 0 0)), .d (.v (.slice none 0 0)), .d (.v (.int .i64 0)), .d (.v (.slice none 0 0)), .d (.v (.int .i64 0)), .d (.v (.slice none 0 0)), .d (.v (.slice none 0 0))] := by kernel_rfl
theorem aggT_67 : aggT Tryz.prog 67 = some true := by kernel_rfl
theorem sizeT_67 : sizeT Tryz.prog 67 = some 13 := by kernel_rfl
theorem bytesT_67 : bytesT Tryz.prog 67 = some 208 := by kernel_rfl
theorem fieldT_67_0 : fieldT Tryz.prog 67 0 = some (0, 9) := by kernel_rfl
theorem fieldT_67_1 : fieldT Tryz.prog 67 1 = some (1, 30) := by kernel_rfl
theorem fieldT_67_2 : fieldT Tryz.prog 67 2 = some (2, 3) := by kernel_rfl
theorem fieldT_67_3 : fieldT Tryz.prog 67 3 = some (3, 33) := by kernel_rfl
theorem fieldT_67_4 : fieldT Tryz.prog 67 4 = some (8, 33) := by kernel_rfl
theorem placesT_67 : placesT Tryz.prog 67 = some [(0, 1), (1, 1), (2, 1), (3, 5), (8, 5)] := by kernel_rfl
theorem zeroT_67 : zeroT Tryz.prog 67 = some [.d (.v (.string ⟨#[]⟩)), .d (.v (.slice none 0 0)), .d (.v (.int .i64 0)), .d (.v (.int .i64 0)), .d (.v (.int .i64 0)), .d (.v (.string ⟨#[]⟩)), .d (.v (.slice none 0 0)), .d (.v (.slice none 0 0)), .d (.v (.int .i64 0)), .d (.v (.int .i64 0)), .d (.v (.string ⟨#[]⟩)), .d (.v (.slice none 0 0)), .d (.v (.slice none 0 0))] := by kernel_rfl
theorem aggT_98 : aggT Tryz.prog 98 = some true := by kernel_rfl
theorem sizeT_98 : sizeT Tryz.prog 98 = some 6 := by kernel_rfl
theorem bytesT_98 : bytesT Tryz.prog 98 = some 96 := by kernel_rfl
theorem fieldT_98_0 : fieldT Tryz.prog 98 0 = some (0, 9) := by kernel_rfl
theorem fieldT_98_1 : fieldT Tryz.prog 98 1 = some (1, 33) := by kernel_rfl
theorem placesT_98 : placesT Tryz.prog 98 = some [(0, 1), (1, 5)] := by kernel_rfl
theorem zeroT_98 : zeroT Tryz.prog 98 = some [.d (.v (.string ⟨#[]⟩)), .d (.v (.int .i64 0)), .d (.v (.int .i64 0)), .d (.v (.string ⟨#[]⟩)), .d (.v (.slice none 0 0)), .d (.v (.slice none 0 0))] := by kernel_rfl
theorem aggT_110 : aggT Tryz.prog 110 = some true := by kernel_rfl
theorem sizeT_110 : sizeT Tryz.prog 110 = some 2 := by kernel_rfl
theorem bytesT_110 : bytesT Tryz.prog 110 = some 16 := by kernel_rfl
theorem fieldT_110_0 : fieldT Tryz.prog 110 0 = some (0, 3) := by kernel_rfl
theorem fieldT_110_1 : fieldT Tryz.prog 110 1 = some (1, 3) := by kernel_rfl
theorem placesT_110 : placesT Tryz.prog 110 = some [(0, 1), (1, 1)] := by kernel_rfl
theorem zeroT_110 : zeroT Tryz.prog 110 = some [.d (.v (.int .i64 0)), .d (.v (.int .i64 0))] := by kernel_rfl
theorem aggT_144 : aggT Tryz.prog 144 = some false := by kernel_rfl
theorem sizeT_144 : sizeT Tryz.prog 144 = some 1 := by kernel_rfl
theorem bytesT_144 : bytesT Tryz.prog 144 = some 24 := by kernel_rfl
theorem und_144 : Tryz.prog.underlying 144 = some (.slice 110) := by kernel_rfl
theorem elemT_144 : elemT Tryz.prog 144 = some 110 := by kernel_rfl
theorem isSliceT_144 : isSliceT Tryz.prog 144 = true := by kernel_rfl
theorem zero1_144 : zero1 Tryz.prog 144 = some (.slice none 0 0) := by kernel_rfl
theorem zeroT_144 : zeroT Tryz.prog 144 = some [.d (.v (.slice none 0 0))] := by kernel_rfl
theorem aggT_156 : aggT Tryz.prog 156 = some false := by kernel_rfl
theorem sizeT_156 : sizeT Tryz.prog 156 = some 1 := by kernel_rfl
theorem bytesT_156 : bytesT Tryz.prog 156 = some 8 := by kernel_rfl
theorem zero1_156 : zero1 Tryz.prog 156 = some (.nilFunc) := by kernel_rfl
theorem zeroT_156 : zeroT Tryz.prog 156 = some [.d (.v (.nilFunc))] := by kernel_rfl
theorem aggT_230 : aggT Tryz.prog 230 = some false := by kernel_rfl
theorem sizeT_230 : sizeT Tryz.prog 230 = some 1 := by kernel_rfl
theorem bytesT_230 : bytesT Tryz.prog 230 = some 8 := by kernel_rfl
theorem und_230 : Tryz.prog.underlying 230 = some (.int .u64) := by kernel_rfl
theorem zero1_230 : zero1 Tryz.prog 230 = some (.int .u64 0) := by kernel_rfl
theorem zeroT_230 : zeroT Tryz.prog 230 = some [.d (.v (.int .u64 0))] := by kernel_rfl
end Go.Proofs.YteenjodhmppgjaaGreatDoor.Am
end
section
/- Levels, terms, declarations as data; loops over lists. -/
open Go Go.Proofs Go.Proofs.YteenjodhmppgjaaGreatDoor.Am
namespace Go.Proofs.YteenjodhmppgjaaGreatDoor.Am
/-! ### rules for simp -/
def iV (n : Int) : V := .c (.d (.v (.int .i64 n)))
def bV (b : Bool) : V := .c (.d (.v (.bool b)))
def sV (s : ByteArray) : V := .c (.d (.v (.string s)))
def dV (x : D) : V := .c (.d x)
def wr (n : Int) : Int := IntKind.i64.wrap n
theorem dstOk_none (n : Nat) : dstOk n none = true := id rfl
theorem dstOk_some (n t : Nat) : dstOk n (some t) = decide (t < n) := id rfl
theorem beq_ft : (false == true) = false := by decide
theorem beq_tf : (true == false) = false := by decide
theorem ib_ne {a b : Int} (h : ¬ a = b) : (a == b) = false := beq_false_of_ne h
theorem ib_bne {a b : Int} (h : ¬ a = b) : (a != b) = true := by simp [bne, ib_ne h]
theorem ib_bne_self (a : Int) : (a != a) = false := by simp [bne]
theorem holes_succ (n : Nat) : holes (n + 1) = .hole :: holes n := rfl
theorem holes_zero : holes 0 = [] := rfl
theorem wrap_wr (n : Int) : IntKind.i64.wrap n = wr n := rfl
theorem wr_id {n : Int} (h1 : -(2 ^ 63) ≤ n) (h2 : n < 2 ^ 63) : wr n = n := by
  unfold wr
  have e : IntKind.i64.wrap n = (n + 9223372036854775808) % 18446744073709551616 - 9223372036854775808 := by
    simp [IntKind.wrap, IntKind.bits, IntKind.signed]
    try (split <;> omega)
  rw [e]; omega
theorem lenA_s (look : Look) (k : Nat) (els : List (List D)) : lenA look (.c (.d (.s k els))) = eff (.c (.d (.v (.int .i64 els.length)))) := id rfl
theorem lenA_nil (look : Look) : lenA look (.c (.d (.v (.slice none 0 0)))) = eff (.c (.d (.v (.int .i64 0)))) := id rfl
def lnK (i : Nat) (o : Option O) : Option Eff :=
  match o with
  | some (.arr _ els) => eff (.c (.d (.v (.int .i64 els.length)))) [i]
  | _ => none
theorem lenA_own (look : Look) (i : Nat) : lenA look (.c (.own i)) = lnK i (look i) := id rfl
theorem lnK_arr (i k : Nat) (els : List (List D)) : lnK i (some (.arr k els)) = eff (.c (.d (.v (.int .i64 els.length)))) [i] := id rfl
section
variable (P : Program) (op : BinOp) (t : TypeId) (c : Bool)
theorem binB_int (k : IntKind) (a : Int) (y : V) : binB P op t c (.c (.d (.v (.int k a)))) y = binA P op t (.c (.d (.v (.int k a)))) y := id rfl
theorem binB_str (s : ByteArray) (y : V) : binB P op t c (.c (.d (.v (.string s)))) y = binA P op t (.c (.d (.v (.string s)))) y := id rfl
theorem binB_bool (b : Bool) (y : V) : binB P op t c (.c (.d (.v (.bool b)))) y = binA P op t (.c (.d (.v (.bool b)))) y := id rfl
theorem binB_agg (cs ds : List C) : binB P op t c (.agg cs) (.agg ds) = structA P op t cs ds := id rfl
theorem binB_i (u : TypeId) (xs : List D) : binB P op t c (.c (.d (.i u xs))) (.c (.d (.v .nilIface))) = if isIfaceT P t = true then nilEq op false else none := id rfl
theorem binB_iface (u : TypeId) (x : Value) : binB P op t c (.c (.d (.v (.iface u x)))) (.c (.d (.v .nilIface))) = if isIfaceT P t = true then nilEq op false else none := id rfl
theorem binB_nil : binB P op t c (.c (.d (.v .nilIface))) (.c (.d (.v .nilIface))) = if isIfaceT P t = true ∧ c = true then nilEq op true else none := id rfl
theorem binB_slice (a : Option Addr) (n m : Nat) : binB P op t c (.c (.d (.v (.slice a n m)))) (.c (.d (.v (.slice none 0 0)))) = if isSliceT P t = true then nilEq op a.isNone else none := id rfl
theorem binB_s (k : Nat) (l : List D) (els : List (List D)) : binB P op t c (.c (.d (.s k (l :: els)))) (.c (.d (.v (.slice none 0 0)))) = if isSliceT P t = true then nilEq op false else none := id rfl
theorem binB_ptr (i o : Nat) : binB P op t c (.c (.ptr i o)) (.c (.d (.v (.pointer none)))) = if isPtrT P t = true then nilEq op false else none := id rfl
end
theorem storeA_ptr (P : Program) (look : Look) (t : TypeId) (id off : Nat) (x : V) : storeA P look t (.c (.ptr id off)) x =
    match cells x with
    | none => none
    | some ys => if sizeT P t = some ys.length then match look id with
      | some (.box cs) => if off + ys.length ≤ cs.length then some { res := .val (.c .any), upd := [(id, .box (over cs off ys))], rd := [id] } else none
      | _ => none
      else none := rfl
def stK (P : Program) (look : Look) (t : TypeId) (o : Option O) (id i off : Nat) (x : V) : Option Eff :=
  match cells x with
  | none => none
  | some ys => if sizeT P t = some ys.length then match o with
    | some (.arr k els) => match els[i]? with
      | some l => match toDs look ys with
        | some (ds, own) =>
          if off + ds.length ≤ l.length ∧ own.contains id = false then
            some { res := .val (.c .any), upd := kills own ++ [(id, .arr k (els.set i (l.take off ++ ds ++ l.drop (off + ds.length))))], rd := own ++ [id] }
          else none
        | none => none
      | none => none
    | _ => none
    else none
theorem storeA_ap (P : Program) (look : Look) (t : TypeId) (id i off : Nat) (x : V) : storeA P look t (.c (.ap id i off)) x = stK P look t (look id) id i off x := rfl
/-! ### slices of elements as data -/
/-- A slice: z: made, and nil where it has no element. -/
def listD (z : Bool) (k : Nat) (els : List (List D)) : D := if z = true ∧ els = [] then .v (.slice none 0 0) else .s k els
theorem listD_ne {z : Bool} {k : Nat} {els : List (List D)} (h : els ≠ []) : listD z k els = .s k els := by unfold listD; rw [if_neg]; exact fun e => h e.2
theorem listD_of_lt {z : Bool} {k : Nat} {els : List (List D)} {b : Int} (h0 : 0 ≤ b) (h : b < els.length) : listD z k els = .s k els := listD_ne (by rintro rfl; simp at h; omega)
theorem listD_false (k : Nat) (els : List (List D)) : listD false k els = .s k els := by simp [listD]
theorem lenA_listD (look : Look) (z : Bool) (k : Nat) (els : List (List D)) : lenA look (.c (.d (listD z k els))) = eff (.c (.d (.v (.int .i64 els.length)))) := by
  unfold listD
  split
  · rename_i h; rw [h.2]; rfl
  · rfl
/-! ### levels, terms, declarations -/
structure LV where
  v : Int
  p : Int
deriving DecidableEq
def lvD (x : LV) : List D := [.v (.int .i64 x.v), .v (.int .i64 x.p)]
def lvC (x : LV) : List C := [.d (.v (.int .i64 x.v)), .d (.v (.int .i64 x.p))]
def lvV (x : LV) : V := .agg (lvC x)
structure Lev where
  c : Int
  vs : List LV
  z : Bool
def Lev.d (x : Lev) : D := listD x.z 2 (x.vs.map lvD)
def levD (x : Lev) : List D := [.v (.int .i64 x.c), x.d]
def levC (x : Lev) : List C := [.d (.v (.int .i64 x.c)), .d x.d]
def levV (x : Lev) : V := .agg (levC x)
inductive Tm where
  | mk (op n : Int) (s : ByteArray) (u : List Lev) (zu : Bool) (l : List Tm) (zl : Bool)
namespace Tm
def op : Tm → Int | .mk a _ _ _ _ _ _ => a
def n : Tm → Int | .mk _ a _ _ _ _ _ => a
def s : Tm → ByteArray | .mk _ _ a _ _ _ _ => a
def u : Tm → List Lev | .mk _ _ _ a _ _ _ => a
def zu : Tm → Bool | .mk _ _ _ _ a _ _ => a
def l : Tm → List Tm | .mk _ _ _ _ _ a _ => a
def zl : Tm → Bool | .mk _ _ _ _ _ _ a => a
end Tm
def tmD : Tm → List D
  | .mk a b s u zu l zl => [.v (.int .i64 a), .v (.int .i64 b), .v (.string s), listD zu 2 (u.map levD), listD zl 5 (tmDs l)]
where tmDs : List Tm → List (List D)
  | [] => []
  | x :: r => tmD x :: tmDs r
theorem tmDs_eq (l : List Tm) : tmD.tmDs l = l.map tmD := by induction l <;> simp_all [tmD.tmDs]
def Tm.uD (x : Tm) : D := listD x.zu 2 (x.u.map levD)
def Tm.lD (x : Tm) : D := listD x.zl 5 (x.l.map tmD)
theorem tmD_eq (x : Tm) : tmD x = [.v (.int .i64 x.op), .v (.int .i64 x.n), .v (.string x.s), x.uD, x.lD] := by
  cases x; simp [tmD, tmDs_eq, Tm.op, Tm.n, Tm.s, Tm.uD, Tm.lD, Tm.u, Tm.zu, Tm.l, Tm.zl]
def tmC (x : Tm) : List C := [.d (.v (.int .i64 x.op)), .d (.v (.int .i64 x.n)), .d (.v (.string x.s)), .d x.uD, .d x.lD]
def tmV (x : Tm) : V := .agg (tmC x)
structure Con where
  name : ByteArray
  arg : Tm
def conD (x : Con) : List D := .v (.string x.name) :: tmD x.arg
structure Dc where
  name : ByteArray
  kind : Int
  levels : Int
  type : Tm
  body : Tm
  param : Tm
  over : Lev
  sort : Lev
  cons : List Con
  z : Bool
def Dc.d (x : Dc) : D := listD x.z 6 (x.cons.map conD)
def dcD (x : Dc) : List D := [.v (.string x.name), .v (.int .i64 x.kind), .v (.int .i64 x.levels)] ++ tmD x.type ++ tmD x.body ++ tmD x.param ++ levD x.over ++ levD x.sort ++ [x.d]
def dcC (x : Dc) : List C := [.d (.v (.string x.name)), .d (.v (.int .i64 x.kind)), .d (.v (.int .i64 x.levels)), .d (.v (.int .i64 x.type.op)), .d (.v (.int .i64 x.type.n)), .d (.v (.string x.type.s)), .d x.type.uD, .d x.type.lD,
  .d (.v (.int .i64 x.body.op)), .d (.v (.int .i64 x.body.n)), .d (.v (.string x.body.s)), .d x.body.uD, .d x.body.lD, .d (.v (.int .i64 x.param.op)), .d (.v (.int .i64 x.param.n)), .d (.v (.string x.param.s)), .d x.param.uD, .d x.param.lD,
  .d (.v (.int .i64 x.over.c)), .d x.over.d, .d (.v (.int .i64 x.sort.c)), .d x.sort.d, .d x.d]
theorem dcD_eq (x : Dc) : dcD x = [.v (.string x.name), .v (.int .i64 x.kind), .v (.int .i64 x.levels), .v (.int .i64 x.type.op), .v (.int .i64 x.type.n), .v (.string x.type.s), x.type.uD, x.type.lD,
  .v (.int .i64 x.body.op), .v (.int .i64 x.body.n), .v (.string x.body.s), x.body.uD, x.body.lD, .v (.int .i64 x.param.op), .v (.int .i64 x.param.n), .v (.string x.param.s), x.param.uD, x.param.lD,
  .v (.int .i64 x.over.c), x.over.d, .v (.int .i64 x.sort.c), x.sort.d, x.d] := by
  simp [dcD, tmD_eq, levD]
def dcV (x : Dc) : V := .agg (dcC x)
/-- A table: its declarations. -/
structure Tb where
  ds : List Dc
  z : Bool
def Tb.d (x : Tb) : D := listD x.z 23 (x.ds.map dcD)
def tbC (x : Tb) : List C := [.d x.d]
def tbV (x : Tb) : V := .agg (tbC x)
/-! ### sizes -/
def Lev.sz (x : Lev) : Nat := 1 + x.vs.length
def Tm.sz : Tm → Nat
  | .mk _ _ _ u _ l _ => 1 + (u.map Lev.sz).sum + szs l
where szs : List Tm → Nat
  | [] => 0
  | x :: r => x.sz + szs r
theorem Tm.szs_eq (l : List Tm) : Tm.sz.szs l = (l.map Tm.sz).sum := by induction l <;> simp_all [Tm.sz.szs]
theorem Tm.sz_eq (x : Tm) : x.sz = 1 + (x.u.map Lev.sz).sum + (x.l.map Tm.sz).sum := by cases x; simp [Tm.sz, Tm.szs_eq, Tm.u, Tm.l]
theorem Tm.sz_pos (x : Tm) : 0 < x.sz := by rw [x.sz_eq]; omega
theorem le_sum {l : List Nat} {n : Nat} (h : n ∈ l) : n ≤ l.sum := by
  induction l with
  | nil => cases h
  | cons a r ih =>
    simp only [List.sum_cons]
    rcases List.mem_cons.1 h with rfl | h
    · omega
    · have := ih h; omega
theorem len_le_sum {α : Type} (f : α → Nat) (h : ∀ x, 0 < f x) : ∀ l : List α, l.length ≤ (l.map f).sum
  | [] => Nat.le_refl _
  | a :: r => by have := len_le_sum f h r; have := h a; simp; omega
theorem Lev.sz_pos (x : Lev) : 0 < x.sz := by unfold Lev.sz; omega
theorem Tm.sz_lt {x y : Tm} (h : y ∈ x.l) : y.sz < x.sz := by
  have := le_sum (List.mem_map.2 ⟨y, h, rfl⟩ : y.sz ∈ x.l.map Tm.sz)
  rw [x.sz_eq]; omega
theorem Tm.len_lt (x : Tm) : x.l.length < x.sz := by
  have := len_le_sum _ Tm.sz_pos x.l
  rw [x.sz_eq]; omega
theorem Tm.ulen_lt (x : Tm) : x.u.length < x.sz := by
  have := len_le_sum _ Lev.sz_pos x.u
  rw [x.sz_eq]; omega
theorem Tm.lev_lt {x : Tm} {u : Lev} (h : u ∈ x.u) : u.sz < x.sz := by
  have := le_sum (List.mem_map.2 ⟨u, h, rfl⟩ : u.sz ∈ x.u.map Lev.sz)
  rw [x.sz_eq]; omega
theorem callA_of {rec : Rec} {look : Look} {slot : Nat} {f : FuncId} {args args' : List V} {ids bor : List Nat} {objs' : List O} {out : Out} {e : Eff} (h1 : callPrep f look args = some (ids, bor, args', objs')) (h2 : rec (.call f args' objs') = some out) (h3 : answer ids bor slot out = some e) :
    callA rec look slot f args = some e := by simp only [callA, callFin, callOut, h1, h2, h3]
/-! ### loops over lists -/
/-- A loop over a list with a state that may end early. -/
def foldE {α σ ρ : Type} (f : σ → α → σ ⊕ ρ) : σ → List α → σ ⊕ ρ
  | s, [] => .inl s
  | s, x :: l => match f s x with
    | .inl s' => foldE f s' l
    | .inr r => .inr r
theorem loop_foldE {α σ ρ : Type} (l : List α) (S : Int → σ → Option Out) (f : σ → α → σ ⊕ ρ) (g : ρ → Option Out) (fin : σ → Option Out) (hl : l.length < 2 ^ 62)
    (hstep : ∀ (k : Nat) (x : α) (s : σ), l[k]? = some x → (k : Int) < l.length → match f s x with | .inl s' => ∀ out, S (wr ((k : Int) + 1)) s' = out → S k s = out | .inr r => S k s = g r)
    (hdone : ∀ s, S l.length s = fin s) (s0 : σ) : S 0 s0 = match foldE f s0 l with | .inl s => fin s | .inr r => g r := by
  have key : ∀ (m k : Nat) (s : σ), k + m = l.length → S k s = match foldE f s (l.drop k) with | .inl s => fin s | .inr r => g r := by
    intro m
    induction m with
    | zero =>
      intro k s hk
      rw [List.drop_eq_nil_of_le (by omega)]
      rw [show k = l.length by omega]
      exact hdone s
    | succ m ih =>
      intro k s hk
      have hlt : k < l.length := by omega
      rw [List.drop_eq_getElem_cons hlt]
      have h := hstep k l[k] s (by simp [hlt]) (by omega)
      simp only [foldE]
      cases hf : f s l[k] with
      | inl s' =>
        rw [hf] at h
        dsimp only at h
        refine h _ ?_
        rw [wr_id (by omega) (by omega)]
        have := ih (k + 1) s' (by omega)
        exact_mod_cast this
      | inr r => rw [hf] at h; exact h
  simpa using key l.length 0 s0 (by omega)
/-- A loop of which it is known only that it comes to an end. -/
theorem loop_ex {α σ : Type} (l : List α) (S : Int → σ → Option Out) (Q : Out → Prop) (hl : l.length < 2 ^ 62)
    (hstep : ∀ (k : Nat) (x : α) (s : σ), l[k]? = some x → (k : Int) < l.length → (∃ s', ∀ out, S (wr ((k : Int) + 1)) s' = out → S k s = out) ∨ (∃ o, S k s = some o ∧ Q o))
    (hdone : ∀ s, ∃ o, S l.length s = some o ∧ Q o) (s0 : σ) : ∃ o, S 0 s0 = some o ∧ Q o := by
  have key : ∀ (m k : Nat) (s : σ), k + m = l.length → ∃ o, S k s = some o ∧ Q o := by
    intro m
    induction m with
    | zero => intro k s hk; rw [show k = l.length by omega]; exact hdone s
    | succ m ih =>
      intro k s hk
      have hlt : k < l.length := by omega
      rcases hstep k l[k] s (by simp [hlt]) (by omega) with ⟨s', h⟩ | h
      · obtain ⟨o, h1, h2⟩ := ih (k + 1) s' (by omega)
        refine ⟨o, h _ ?_, h2⟩
        rw [wr_id (by omega) (by omega)]
        exact_mod_cast h1
      · exact h
  exact key l.length 0 s0 (by omega)
def isB (o : Out) : Prop := ∃ b, o = .ret [bV b] []
def isI (o : Out) : Prop := ∃ n, o = .ret [iV n] []
theorem lt_of_get {α : Type} {l : List α} {k : Nat} {x : α} (h : l[k]? = some x) : k < l.length := by
  rcases Nat.lt_or_ge k l.length with h' | h'
  · exact h'
  · rw [List.getElem?_eq_none h'] at h; cases h
/-- A loop that looks for the first element with a property. -/
theorem loop_find {α : Type} (l : List α) (S : Int → Option Out) (p : α → Bool) (g : Nat → Option Out) (fin : Option Out) (hl : l.length < 2 ^ 62)
    (hstep : ∀ (k : Nat) (x : α), l[k]? = some x → (k : Int) < l.length → (p x = true → S k = g k) ∧ (p x = false → ∀ out, S (wr ((k : Int) + 1)) = out → S k = out))
    (hdone : S l.length = fin) : S 0 = match l.findIdx? p with | some k => g k | none => fin := by
  have key : ∀ (m k : Nat), k + m = l.length → S k = match (l.drop k).findIdx? p with | some i => g (k + i) | none => fin := by
    intro m
    induction m with
    | zero =>
      intro k hk
      rw [List.drop_eq_nil_of_le (by omega), show k = l.length by omega]
      exact hdone
    | succ m ih =>
      intro k hk
      have hlt : k < l.length := by omega
      rw [List.drop_eq_getElem_cons hlt, List.findIdx?_cons]
      obtain ⟨h1, h2⟩ := hstep k l[k] (by simp [hlt]) (by omega)
      cases hp : p l[k] with
      | true => simpa using h1 hp
      | false =>
        refine h2 hp _ ?_
        rw [wr_id (by omega) (by omega)]
        have := ih (k + 1) (by omega)
        rw [show ((k : Int) + 1) = ((k + 1 : Nat) : Int) by omega, this]
        cases (l.drop (k + 1)).findIdx? p with
        | none => rfl
        | some i => simp only [Option.map_some]; congr 1; omega
  simpa using key l.length 0 (by omega)
/-- The first place, from k on, at which an element has a property that may depend on the place. -/
def idxFrom {α : Type} (p : Nat → α → Bool) : Nat → List α → Option Nat
  | _, [] => none
  | k, x :: l => if p k x then some k else idxFrom p (k + 1) l
theorem loop_findK {α : Type} (l : List α) (S : Int → Option Out) (p : Nat → α → Bool) (g : Nat → Option Out) (fin : Option Out) (hl : l.length < 2 ^ 62)
    (hstep : ∀ (k : Nat) (x : α), l[k]? = some x → (k : Int) < l.length → (p k x = true → S k = g k) ∧ (p k x = false → ∀ out, S (wr ((k : Int) + 1)) = out → S k = out))
    (hdone : S l.length = fin) : S 0 = match idxFrom p 0 l with | some k => g k | none => fin := by
  have key : ∀ (m k : Nat), k + m = l.length → S k = match idxFrom p k (l.drop k) with | some i => g i | none => fin := by
    intro m
    induction m with
    | zero =>
      intro k hk
      rw [List.drop_eq_nil_of_le (by omega), show k = l.length by omega]
      exact hdone
    | succ m ih =>
      intro k hk
      have hlt : k < l.length := by omega
      rw [List.drop_eq_getElem_cons hlt, idxFrom]
      obtain ⟨h1, h2⟩ := hstep k l[k] (by simp [hlt]) (by omega)
      cases hp : p k l[k] with
      | true => simpa using h1 hp
      | false =>
        refine h2 hp _ ?_
        rw [wr_id (by omega) (by omega)]
        rw [show ((k : Int) + 1) = ((k + 1 : Nat) : Int) by omega, ih (k + 1) (by omega)]
        simp
  simpa using key l.length 0 (by omega)
theorem find_some {α : Type} {l : List α} {p : α → Bool} : (l.findIdx? p).isSome = l.any p := by
  induction l with
  | nil => rfl
  | cons a l ih =>
    rw [List.findIdx?_cons, List.any_cons, ← ih]
    cases p a <;> simp
/-- The place of the first element with a property, or -1. -/
def idxI {α : Type} (p : α → Bool) (l : List α) : Int := match l.findIdx? p with | some k => k | none => -1
theorem idxI_ge {α : Type} (p : α → Bool) (l : List α) : (decide (idxI p l ≥ 0)) = l.any p := by
  rw [← find_some]
  unfold idxI
  cases l.findIdx? p <;> simp <;> omega
/-- The rules of a step. -/
def zS := And.intro @lenA_listD <| And.intro @lenA_own <| And.intro @lnK_arr <| And.intro @wrap_wr <| And.intro @binB_int <| And.intro @binB_str <| And.intro @binB_bool <| And.intro @binB_agg <| And.intro @binB_i <| And.intro @binB_iface <| And.intro @binB_nil <| And.intro @binB_slice <| And.intro @binB_s <| And.intro @binB_ptr <| And.intro @callA_data <| And.intro @callOut_one <| And.intro @dataV_d <| And.intro @dataV_elt <| And.intro @dataV_fn <| And.intro @dataV_agg <| And.intro @dataC_d <| And.intro @dataC_elt <| And.intro @dataC_fn <| And.intro @r_seq <| And.intro @r_region <| And.intro @r_draw <| And.intro @drawK_some <| And.intro @afterDraw_some <| And.intro @r_ops_nil <| And.intro @r_block <| And.intro @r_loop <| And.intro @r_inBlock <| And.intro @r_skip <| And.intro @r_ret <| And.intro @r_end <| And.intro @r_op <| And.intro @r_opg <| And.intro @opK_true <| And.intro @opK_false <| And.intro @afterOp_val <| And.intro @afterOp_pan <| And.intro @r_cond <| And.intro @condK_true <| And.intro @condK_false <| And.intro @r_exit <| And.intro @exitK_some <| And.intro @exitA_code <| And.intro @exitA_loop <| And.intro @exitA_ops <| And.intro @exitA_block <| And.intro @dstOk_none <| And.intro @dstOk_some <| And.intro @lenA_s <| And.intro @lenA_nil <| And.intro @storeA_ptr <| And.intro @storeA_ap <| And.intro (@List.all_cons.{0}) <| And.intro (@List.all_nil.{0}) <| And.intro (@List.length_nil.{0}) <| And.intro (@List.length_cons.{0}) <| And.intro (@List.length_append.{0}) <| And.intro @Bool.and_self <| And.intro @Bool.and_true <| And.intro @Bool.true_and <| And.intro @Bool.not_true <| And.intro @Bool.not_false <| And.intro @decide_true <| And.intro @decide_false <| And.intro @Nat.lt_irrefl <| And.intro (@List.nil_append.{0}) <| And.intro (@List.cons_append.{0}) <| And.intro (@List.append_nil.{0}) <| And.intro (@List.map_cons.{0,0}) <| And.intro (@List.map_nil.{0,0}) <| And.intro (@List.getElem?_toArray.{0}) <| And.intro (@List.getElem?_cons_zero.{0}) <| And.intro (@List.getElem?_cons_succ.{0}) <| And.intro (@List.take_succ_cons.{0}) <| And.intro (@List.take_zero.{0}) <| And.intro (@List.drop_succ_cons.{0}) <| And.intro (@List.drop_zero.{0}) <| And.intro @Nat.sub_self <| And.intro (@List.replicate_zero.{0}) <| And.intro (@Option.map_some.{0,0}) <| And.intro (@Option.map_none.{0,0}) <| And.intro (@List.length_map.{0,0}) <| And.intro (@List.getElem?_map.{0,0}) <| And.intro @Nat.zero_add <| And.intro @Nat.add_zero <| And.intro @or_false <| And.intro @or_true <| And.intro @true_or <| And.intro @and_self <| And.intro @and_true <| And.intro @true_and <| And.intro @Bool.false_eq_true <| And.intro (@List.set_cons_zero.{0}) <| And.intro (@List.set_cons_succ.{0}) <| And.intro (@beq_self_eq_true.{0}) <| And.intro @beq_ft <| And.intro @beq_tf <| And.intro @ib_ne <| And.intro @ib_bne <| And.intro @ib_bne_self <| And.intro @not_false_eq_true <| @not_true_eq_false
end Go.Proofs.YteenjodhmppgjaaGreatDoor.Am
end
section
/- Levels: find, Valid. -/
namespace Go.Proofs.YteenjodhmppgjaaGreatDoor.Am
open Go
variable (ext : Ext)
set_option maxHeartbeats 4000000
noncomputable def B234 : Code := (Tryz.f234.body.getD .skip)
noncomputable def L234a : Code := sub B234 [1, 0, 1, 0, 0]
noncomputable def K234a : List It := [.inBlock 0, .code (sub B234 [1, 1])]
noncomputable def H234a (ext : Ext) (m : Nat) (env : Env) (loc : List O) : Option Out := run Tryz.prog ext (.k ⟨19, m, [.tmp 4], false⟩ (.code L234a :: .inLoop L234a :: K234a) env loc)
noncomputable def B120 : Code := (Tryz.f120.body.getD .skip)
noncomputable def L120a : Code := sub B120 [1, 1, 0, 1, 0, 0]
noncomputable def K120a : List It := [.inBlock 0, .code (sub B120 [1, 1, 1])]
noncomputable def H120a (ext : Ext) (m : Nat) (env : Env) (loc : List O) : Option Out := run Tryz.prog ext (.k ⟨56, m, [.tmp 2], false⟩ (.code L120a :: .inLoop L120a :: K120a) env loc)
theorem clo235 (hx : ext 235 = none) (x : LV) (v : Int) : run Tryz.prog ext (.call 235 [lvV x, .c (.ptr 0 0)] [.box [.d (.v (.int .i64 v))]]) = some (.ret [bV (x.v == v)] [.box [.d (.v (.int .i64 v))]]) := by
  (rw [run_eq]; simp only [stepA, hx, Tryz.func235, Tryz.f235, show retF 235 = false from rfl]; simp only [List.length_cons, List.length_nil, Nat.reduceAdd, Nat.reduceLeDiff, Nat.zero_le, ↓reduceIte, List.zipIdx_cons, List.zipIdx_nil, List.map_cons, List.map_nil])
  simp only [lvV, lvC, bV]
  simp only [zS, nilEq, wantedA, opA, eff, boxA, cells, ev, gt, pt, putO, updO, setO, okC, loadA, cutC, fieldAddrA, fieldA, indexAddrA, indexA, builtinA, callOpA, callV, target, ptrV, lenS, binA, intOp, strOp, unA, num, lk, over, allocA, pickA, buildA, fillA, convertA, extractA, ofComp, nilCheckA, makeFuncA, ptrs, ofValue, cellB, Nat.reduceAdd, Nat.reduceSub, Nat.reduceMul, Nat.reduceLT, Nat.reduceLeDiff, Nat.reduceGT, ↓reduceIte, Nat.reduceEqDiff, Nat.reduceBEq, reduceCtorEq, Int.reduceBEq, Int.reduceBNe, Int.reduceLT, Int.reduceLE, Int.reduceGT, Int.reduceGE, aggT_110, sizeT_110, bytesT_110, fieldT_110_0, fieldT_110_1, placesT_110, zeroT_110, aggT_3, sizeT_3, bytesT_3, und_3, zero1_3, zeroT_3]
  (refine Eq.trans ?_ rfl; kernel_rfl)
def E234 (z : Bool) (l : List LV) (k : Int) : Env := [(0, dV (listD z 2 (l.map lvD))), (1, .c (.fn 235 [] [0])), (7, iV l.length), (8, iV k)]
def O234 (v : Int) : List O := [.box [.d (.v (.int .i64 v))]]
theorem enter234 (hx : ext 234 = none) (z : Bool) (l : List LV) (v : Int) (out : Option Out) (h : H234a ext 1 (E234 z l 0) (O234 v) = out) : run Tryz.prog ext (.call 234 [dV (listD z 2 (l.map lvD)), .c (.fn 235 [] [0])] (O234 v)) = out := by
  unfold H234a at h
  (rw [run_eq]; simp only [stepA, hx, Tryz.func234, Tryz.f234, show retF 234 = false from rfl]; simp only [List.length_cons, List.length_nil, Nat.reduceAdd, Nat.reduceLeDiff, Nat.zero_le, ↓reduceIte, List.zipIdx_cons, List.zipIdx_nil, List.map_cons, List.map_nil])
  simp only [dV, E234, O234, iV] at h ⊢
  simp only [zS, nilEq, wantedA, opA, eff, boxA, cells, ev, gt, pt, putO, updO, setO, okC, loadA, cutC, fieldAddrA, fieldA, indexAddrA, indexA, builtinA, callOpA, callV, target, ptrV, lenS, binA, intOp, strOp, unA, num, lk, over, allocA, pickA, buildA, fillA, convertA, extractA, ofComp, nilCheckA, makeFuncA, ptrs, ofValue, cellB, Nat.reduceAdd, Nat.reduceSub, Nat.reduceMul, Nat.reduceLT, Nat.reduceLeDiff, Nat.reduceGT, ↓reduceIte, Nat.reduceEqDiff, Nat.reduceBEq, reduceCtorEq, Int.reduceBEq, Int.reduceBNe, Int.reduceLT, Int.reduceLE, Int.reduceGT, Int.reduceGE, aggT_144, sizeT_144, bytesT_144, und_144, elemT_144, isSliceT_144, zero1_144, zeroT_144, aggT_110, sizeT_110, bytesT_110, fieldT_110_0, fieldT_110_1, placesT_110, zeroT_110, aggT_3, sizeT_3, bytesT_3, und_3, zero1_3, zeroT_3]
  (refine (r_inLoop_some ?_).trans h; kernel_rfl)
theorem step234 (hx : ext 235 = none) (z : Bool) (l : List LV) (x : LV) (v : Int) (k : Nat) (hk : l[k]? = some x) (hl : (k : Int) < l.length) :
    ((x.v == v) = true → H234a ext 1 (E234 z l k) (O234 v) = some (.ret [iV k] (O234 v))) ∧ ((x.v == v) = false → ∀ out, H234a ext 1 (E234 z l (wr ((k : Int) + 1))) (O234 v) = out → H234a ext 1 (E234 z l k) (O234 v) = out) := by
  have h0 : (0 : Int) ≤ k := by omega
  have hd : listD z 2 (l.map lvD) = .s 2 (l.map lvD) := listD_of_lt h0 (by simpa using hl)
  have hr := clo235 ext hx x v
  have e := callA_of (rec := run Tryz.prog ext) (look := lk (O234 v)) (slot := 1) (f := 235) (args := [lvV x, .c (.ptr 0 0)]) (ids := [0]) (bor := []) (e := ⟨.val (bV (x.v == v)), [(0, .box [.d (.v (.int .i64 v))])], [0]⟩) (by kernel_rfl) hr (by kernel_rfl)
  unfold H234a
  refine ⟨fun hp => ?_, fun hp out h => ?_⟩
  · rw [hp] at e
    simp only [dV, E234, O234, iV, bV, hd, lvV, lvC] at e ⊢
    (rw [show (It.code L234a) = It.code (sub B234 [1, 0, 1, 0, 0]) from rfl]; simp only [B234, K234a, sub, Option.getD_some, Tryz.f234, ↓reduceIte, Nat.one_ne_zero])
    simp only [zS, nilEq, wantedA, opA, eff, boxA, cells, ev, gt, pt, putO, updO, setO, okC, loadA, cutC, fieldAddrA, fieldA, indexAddrA, indexA, builtinA, callOpA, callV, target, ptrV, lenS, binA, intOp, strOp, unA, num, lk, over, allocA, pickA, buildA, fillA, convertA, extractA, ofComp, nilCheckA, makeFuncA, ptrs, ofValue, cellB, Nat.reduceAdd, Nat.reduceSub, Nat.reduceMul, Nat.reduceLT, Nat.reduceLeDiff, Nat.reduceGT, ↓reduceIte, Nat.reduceEqDiff, Nat.reduceBEq, reduceCtorEq, Int.reduceBEq, Int.reduceBNe, Int.reduceLT, Int.reduceLE, Int.reduceGT, Int.reduceGE, aggT_144, sizeT_144, bytesT_144, und_144, elemT_144, isSliceT_144, zero1_144, zeroT_144, aggT_110, sizeT_110, bytesT_110, fieldT_110_0, fieldT_110_1, placesT_110, zeroT_110, aggT_3, sizeT_3, bytesT_3, und_3, zero1_3, zeroT_3, h0, hl, Int.toNat_natCast, hk, lvD, e]
    (refine Eq.trans ?_ rfl; kernel_rfl)
  · rw [hp] at e
    simp only [dV, E234, O234, iV, bV, hd, lvV, lvC] at e h ⊢
    (rw [show (It.code L234a) = It.code (sub B234 [1, 0, 1, 0, 0]) from rfl]; simp only [B234, K234a, sub, Option.getD_some, Tryz.f234, ↓reduceIte, Nat.one_ne_zero])
    simp only [zS, nilEq, wantedA, opA, eff, boxA, cells, ev, gt, pt, putO, updO, setO, okC, loadA, cutC, fieldAddrA, fieldA, indexAddrA, indexA, builtinA, callOpA, callV, target, ptrV, lenS, binA, intOp, strOp, unA, num, lk, over, allocA, pickA, buildA, fillA, convertA, extractA, ofComp, nilCheckA, makeFuncA, ptrs, ofValue, cellB, Nat.reduceAdd, Nat.reduceSub, Nat.reduceMul, Nat.reduceLT, Nat.reduceLeDiff, Nat.reduceGT, ↓reduceIte, Nat.reduceEqDiff, Nat.reduceBEq, reduceCtorEq, Int.reduceBEq, Int.reduceBNe, Int.reduceLT, Int.reduceLE, Int.reduceGT, Int.reduceGE, aggT_144, sizeT_144, bytesT_144, und_144, elemT_144, isSliceT_144, zero1_144, zeroT_144, aggT_110, sizeT_110, bytesT_110, fieldT_110_0, fieldT_110_1, placesT_110, zeroT_110, aggT_3, sizeT_3, bytesT_3, und_3, zero1_3, zeroT_3, h0, hl, Int.toNat_natCast, hk, lvD, e]
    (refine (r_inLoop_some ?_).trans h; kernel_rfl)
theorem done234 (z : Bool) (l : List LV) (v : Int) : H234a ext 1 (E234 z l l.length) (O234 v) = some (.ret [iV (-1)] (O234 v)) := by
  unfold H234a
  simp only [dV, E234, O234, iV]
  (rw [show (It.code L234a) = It.code (sub B234 [1, 0, 1, 0, 0]) from rfl]; simp only [B234, K234a, sub, Option.getD_some, Tryz.f234, ↓reduceIte, Nat.one_ne_zero])
  simp only [zS, nilEq, wantedA, opA, eff, boxA, cells, ev, gt, pt, putO, updO, setO, okC, loadA, cutC, fieldAddrA, fieldA, indexAddrA, indexA, builtinA, callOpA, callV, target, ptrV, lenS, binA, intOp, strOp, unA, num, lk, over, allocA, pickA, buildA, fillA, convertA, extractA, ofComp, nilCheckA, makeFuncA, ptrs, ofValue, cellB, Nat.reduceAdd, Nat.reduceSub, Nat.reduceMul, Nat.reduceLT, Nat.reduceLeDiff, Nat.reduceGT, ↓reduceIte, Nat.reduceEqDiff, Nat.reduceBEq, reduceCtorEq, Int.reduceBEq, Int.reduceBNe, Int.reduceLT, Int.reduceLE, Int.reduceGT, Int.reduceGE, aggT_144, sizeT_144, bytesT_144, und_144, elemT_144, isSliceT_144, zero1_144, zeroT_144, aggT_110, sizeT_110, bytesT_110, fieldT_110_0, fieldT_110_1, placesT_110, zeroT_110, aggT_3, sizeT_3, bytesT_3, und_3, zero1_3, zeroT_3, Int.lt_irrefl]
  (refine Eq.trans ?_ rfl; kernel_rfl)
theorem idx234 (hx : ext 234 = none) (hx' : ext 235 = none) (z : Bool) (l : List LV) (v : Int) (hl : l.length < 2 ^ 62) : run Tryz.prog ext (.call 234 [dV (listD z 2 (l.map lvD)), .c (.fn 235 [] [0])] (O234 v)) = some (.ret [iV (idxI (fun x => x.v == v) l)] (O234 v)) := by
  refine enter234 ext hx z l v _ ?_
  have := loop_find l (fun k => H234a ext 1 (E234 z l k) (O234 v)) (fun x => x.v == v) (fun k => some (.ret [iV k] (O234 v))) (some (.ret [iV (-1)] (O234 v))) hl (fun k x hk hkl => step234 ext hx' z l x v k hk hkl) (done234 ext z l v)
  rw [this]
  unfold idxI
  cases l.findIdx? (fun x => x.v == v) <;> rfl
theorem find190 (hx : ext 190 = none) (hx1 : ext 234 = none) (hx2 : ext 235 = none) (z : Bool) (l : List LV) (v : Int) (hl : l.length < 2 ^ 62) : run Tryz.prog ext (.call 190 [dV (listD z 2 (l.map lvD)), iV v] []) = some (.ret [iV (idxI (fun x => x.v == v) l)] []) := by
  have hr := idx234 ext hx1 hx2 z l v hl
  have e := callA_of (rec := run Tryz.prog ext) (look := lk (O234 v)) (slot := 1) (f := 234) (args := [dV (listD z 2 (l.map lvD)), .c (.fn 235 [] [0])]) (ids := [0]) (bor := []) (e := ⟨.val (iV (idxI (fun x => x.v == v) l)), [(0, .box [.d (.v (.int .i64 v))])], [0]⟩) (by kernel_rfl) hr (by kernel_rfl)
  (rw [run_eq]; simp only [stepA, hx, Tryz.func190, Tryz.f190, show retF 190 = false from rfl]; simp only [List.length_cons, List.length_nil, Nat.reduceAdd, Nat.reduceLeDiff, Nat.zero_le, ↓reduceIte, List.zipIdx_cons, List.zipIdx_nil, List.map_cons, List.map_nil])
  simp only [dV, O234, iV] at e ⊢
  simp only [zS, nilEq, wantedA, opA, eff, boxA, cells, ev, gt, pt, putO, updO, setO, okC, loadA, cutC, fieldAddrA, fieldA, indexAddrA, indexA, builtinA, callOpA, callV, target, ptrV, lenS, binA, intOp, strOp, unA, num, lk, over, allocA, pickA, buildA, fillA, convertA, extractA, ofComp, nilCheckA, makeFuncA, ptrs, ofValue, cellB, Nat.reduceAdd, Nat.reduceSub, Nat.reduceMul, Nat.reduceLT, Nat.reduceLeDiff, Nat.reduceGT, ↓reduceIte, Nat.reduceEqDiff, Nat.reduceBEq, reduceCtorEq, Int.reduceBEq, Int.reduceBNe, Int.reduceLT, Int.reduceLE, Int.reduceGT, Int.reduceGE, aggT_144, sizeT_144, bytesT_144, und_144, elemT_144, isSliceT_144, zero1_144, zeroT_144, aggT_3, sizeT_3, bytesT_3, und_3, zero1_3, zeroT_3, e]
  (refine Eq.trans ?_ rfl; kernel_rfl)
def E120 (x : Lev) (k : Int) : Env := [(1, .c (.ptr 0 0)), (20, dV x.d), (21, iV x.vs.length), (22, iV k)]
def O120 (x : Lev) : List O := [.box (levC x)]
theorem enter120 (hx : ext 120 = none) (x : Lev) (out : Option Out) (h1 : ¬ x.c < 0) (h2 : ¬ x.c > 1000) (h3 : ¬ (x.vs.length : Int) > 8) (h : H120a ext 0 (E120 x 0) (O120 x) = out) : run Tryz.prog ext (.call 120 [levV x] []) = out := by
  unfold H120a at h
  (rw [run_eq]; simp only [stepA, hx, Tryz.func120, Tryz.f120, show retF 120 = false from rfl]; simp only [List.length_cons, List.length_nil, Nat.reduceAdd, Nat.reduceLeDiff, Nat.zero_le, ↓reduceIte, List.zipIdx_cons, List.zipIdx_nil, List.map_cons, List.map_nil])
  simp only [levV, E120, O120, levC, Lev.d, dV, iV] at h ⊢
  simp only [zS, nilEq, wantedA, opA, eff, boxA, cells, ev, gt, pt, putO, updO, setO, okC, loadA, cutC, fieldAddrA, fieldA, indexAddrA, indexA, builtinA, callOpA, callV, target, ptrV, lenS, binA, intOp, strOp, unA, num, lk, over, allocA, pickA, buildA, fillA, convertA, extractA, ofComp, nilCheckA, makeFuncA, ptrs, ofValue, cellB, Nat.reduceAdd, Nat.reduceSub, Nat.reduceMul, Nat.reduceLT, Nat.reduceLeDiff, Nat.reduceGT, ↓reduceIte, Nat.reduceEqDiff, Nat.reduceBEq, reduceCtorEq, Int.reduceBEq, Int.reduceBNe, Int.reduceLT, Int.reduceLE, Int.reduceGT, Int.reduceGE, aggT_36, sizeT_36, bytesT_36, fieldT_36_0, fieldT_36_1, placesT_36, zeroT_36, aggT_34, sizeT_34, bytesT_34, und_34, elemT_34, isSliceT_34, zero1_34, zeroT_34, aggT_110, sizeT_110, bytesT_110, fieldT_110_0, fieldT_110_1, placesT_110, zeroT_110, aggT_3, sizeT_3, bytesT_3, und_3, zero1_3, zeroT_3, h1, h2, h3]
  (refine (r_inLoop_some ?_).trans h; kernel_rfl)
theorem bad120 (hx : ext 120 = none) (x : Lev) (h : x.c < 0 ∨ x.c > 1000 ∨ (x.vs.length : Int) > 8) : run Tryz.prog ext (.call 120 [levV x] []) = some (.ret [bV false] []) := by
  by_cases h1 : x.c < 0
  · (rw [run_eq]; simp only [stepA, hx, Tryz.func120, Tryz.f120, show retF 120 = false from rfl]; simp only [List.length_cons, List.length_nil, Nat.reduceAdd, Nat.reduceLeDiff, Nat.zero_le, ↓reduceIte, List.zipIdx_cons, List.zipIdx_nil, List.map_cons, List.map_nil])
    simp only [levV, levC, Lev.d]
    simp only [zS, nilEq, wantedA, opA, eff, boxA, cells, ev, gt, pt, putO, updO, setO, okC, loadA, cutC, fieldAddrA, fieldA, indexAddrA, indexA, builtinA, callOpA, callV, target, ptrV, lenS, binA, intOp, strOp, unA, num, lk, over, allocA, pickA, buildA, fillA, convertA, extractA, ofComp, nilCheckA, makeFuncA, ptrs, ofValue, cellB, Nat.reduceAdd, Nat.reduceSub, Nat.reduceMul, Nat.reduceLT, Nat.reduceLeDiff, Nat.reduceGT, ↓reduceIte, Nat.reduceEqDiff, Nat.reduceBEq, reduceCtorEq, Int.reduceBEq, Int.reduceBNe, Int.reduceLT, Int.reduceLE, Int.reduceGT, Int.reduceGE, aggT_36, sizeT_36, bytesT_36, fieldT_36_0, fieldT_36_1, placesT_36, zeroT_36, aggT_34, sizeT_34, bytesT_34, und_34, elemT_34, isSliceT_34, zero1_34, zeroT_34, aggT_110, sizeT_110, bytesT_110, fieldT_110_0, fieldT_110_1, placesT_110, zeroT_110, aggT_3, sizeT_3, bytesT_3, und_3, zero1_3, zeroT_3, h1]
    (refine Eq.trans ?_ rfl; kernel_rfl)
  by_cases h2 : x.c > 1000
  · (rw [run_eq]; simp only [stepA, hx, Tryz.func120, Tryz.f120, show retF 120 = false from rfl]; simp only [List.length_cons, List.length_nil, Nat.reduceAdd, Nat.reduceLeDiff, Nat.zero_le, ↓reduceIte, List.zipIdx_cons, List.zipIdx_nil, List.map_cons, List.map_nil])
    simp only [levV, levC, Lev.d]
    simp only [zS, nilEq, wantedA, opA, eff, boxA, cells, ev, gt, pt, putO, updO, setO, okC, loadA, cutC, fieldAddrA, fieldA, indexAddrA, indexA, builtinA, callOpA, callV, target, ptrV, lenS, binA, intOp, strOp, unA, num, lk, over, allocA, pickA, buildA, fillA, convertA, extractA, ofComp, nilCheckA, makeFuncA, ptrs, ofValue, cellB, Nat.reduceAdd, Nat.reduceSub, Nat.reduceMul, Nat.reduceLT, Nat.reduceLeDiff, Nat.reduceGT, ↓reduceIte, Nat.reduceEqDiff, Nat.reduceBEq, reduceCtorEq, Int.reduceBEq, Int.reduceBNe, Int.reduceLT, Int.reduceLE, Int.reduceGT, Int.reduceGE, aggT_36, sizeT_36, bytesT_36, fieldT_36_0, fieldT_36_1, placesT_36, zeroT_36, aggT_34, sizeT_34, bytesT_34, und_34, elemT_34, isSliceT_34, zero1_34, zeroT_34, aggT_110, sizeT_110, bytesT_110, fieldT_110_0, fieldT_110_1, placesT_110, zeroT_110, aggT_3, sizeT_3, bytesT_3, und_3, zero1_3, zeroT_3, h1, h2]
    (refine Eq.trans ?_ rfl; kernel_rfl)
  have h3 : (x.vs.length : Int) > 8 := by omega
  (rw [run_eq]; simp only [stepA, hx, Tryz.func120, Tryz.f120, show retF 120 = false from rfl]; simp only [List.length_cons, List.length_nil, Nat.reduceAdd, Nat.reduceLeDiff, Nat.zero_le, ↓reduceIte, List.zipIdx_cons, List.zipIdx_nil, List.map_cons, List.map_nil])
  simp only [levV, levC, Lev.d]
  simp only [zS, nilEq, wantedA, opA, eff, boxA, cells, ev, gt, pt, putO, updO, setO, okC, loadA, cutC, fieldAddrA, fieldA, indexAddrA, indexA, builtinA, callOpA, callV, target, ptrV, lenS, binA, intOp, strOp, unA, num, lk, over, allocA, pickA, buildA, fillA, convertA, extractA, ofComp, nilCheckA, makeFuncA, ptrs, ofValue, cellB, Nat.reduceAdd, Nat.reduceSub, Nat.reduceMul, Nat.reduceLT, Nat.reduceLeDiff, Nat.reduceGT, ↓reduceIte, Nat.reduceEqDiff, Nat.reduceBEq, reduceCtorEq, Int.reduceBEq, Int.reduceBNe, Int.reduceLT, Int.reduceLE, Int.reduceGT, Int.reduceGE, aggT_36, sizeT_36, bytesT_36, fieldT_36_0, fieldT_36_1, placesT_36, zeroT_36, aggT_34, sizeT_34, bytesT_34, und_34, elemT_34, isSliceT_34, zero1_34, zeroT_34, aggT_110, sizeT_110, bytesT_110, fieldT_110_0, fieldT_110_1, placesT_110, zeroT_110, aggT_3, sizeT_3, bytesT_3, und_3, zero1_3, zeroT_3, h1, h2, h3]
  (refine Eq.trans ?_ rfl; kernel_rfl)
def okLV (x : LV) : Bool := decide (0 ≤ x.v) && decide (x.v < 1200) && decide (0 ≤ x.p) && decide (x.p ≤ 1000)
def badLV (l : List LV) (k : Nat) (x : LV) : Bool := !okLV x || (l.take k).any fun y => y.v == x.v
def Lev.valid (x : Lev) : Bool := decide (0 ≤ x.c) && decide (x.c ≤ 1000) && decide (x.vs.length ≤ 8) && (idxFrom (badLV x.vs) 0 x.vs).isNone
theorem find190' (hx : ext 190 = none) (hx1 : ext 234 = none) (hx2 : ext 235 = none) (l : List LV) (v : Int) (hl : l.length < 2 ^ 62) : run Tryz.prog ext (.call 190 [dV (.s 2 (l.map lvD)), iV v] []) = some (.ret [iV (idxI (fun x => x.v == v) l)] []) := by
  have := find190 ext hx hx1 hx2 false l v hl
  rwa [listD_false] at this
theorem step120 (hx : ext 190 = none) (hx1 : ext 234 = none) (hx2 : ext 235 = none) (x : Lev) (y : LV) (k : Nat) (hk : x.vs[k]? = some y) (hl : (k : Int) < x.vs.length) (hs : x.vs.length < 2 ^ 62) :
    (badLV x.vs k y = true → H120a ext 0 (E120 x k) (O120 x) = some (.ret [bV false] [])) ∧ (badLV x.vs k y = false → ∀ out, H120a ext 0 (E120 x (wr ((k : Int) + 1))) (O120 x) = out → H120a ext 0 (E120 x k) (O120 x) = out) := by
  have h0 : (0 : Int) ≤ k := by omega
  have hkl : (k : Int) ≤ x.vs.length := by omega
  have hd : listD x.z 2 (x.vs.map lvD) = .s 2 (x.vs.map lvD) := listD_of_lt h0 (by simpa using hl)
  have hr := find190' ext hx hx1 hx2 (x.vs.take k) y.v (by simp; omega)
  have hi := idxI_ge (fun z => z.v == y.v) (x.vs.take k)
  rw [List.map_take] at hr
  unfold H120a
  generalize hI : idxI (fun z => z.v == y.v) (x.vs.take k) = i at hr hi
  by_cases a1 : y.v < 0
  · refine ⟨fun hp => ?_, fun hp out h => ?_⟩
    · simp only [dV, E120, O120, levC, Lev.d, iV, bV, hd] at hr ⊢
      (rw [show (It.code L120a) = It.code (sub B120 [1, 1, 0, 1, 0, 0]) from rfl]; simp only [B120, K120a, sub, Option.getD_some, Tryz.f120, ↓reduceIte, Nat.one_ne_zero])
      simp only [zS, nilEq, wantedA, opA, eff, boxA, cells, ev, gt, pt, putO, updO, setO, okC, loadA, cutC, fieldAddrA, fieldA, indexAddrA, indexA, builtinA, callOpA, callV, target, ptrV, lenS, binA, intOp, strOp, unA, num, lk, over, allocA, pickA, buildA, fillA, convertA, extractA, ofComp, nilCheckA, makeFuncA, ptrs, ofValue, cellB, Nat.reduceAdd, Nat.reduceSub, Nat.reduceMul, Nat.reduceLT, Nat.reduceLeDiff, Nat.reduceGT, ↓reduceIte, Nat.reduceEqDiff, Nat.reduceBEq, reduceCtorEq, Int.reduceBEq, Int.reduceBNe, Int.reduceLT, Int.reduceLE, Int.reduceGT, Int.reduceGE, aggT_34, sizeT_34, bytesT_34, und_34, elemT_34, isSliceT_34, zero1_34, zeroT_34, aggT_36, sizeT_36, bytesT_36, fieldT_36_0, fieldT_36_1, placesT_36, zeroT_36, aggT_110, sizeT_110, bytesT_110, fieldT_110_0, fieldT_110_1, placesT_110, zeroT_110, aggT_3, sizeT_3, bytesT_3, und_3, zero1_3, zeroT_3, drawA, holes_succ, holes_zero, Array.size, List.length, h0, hl, Int.toNat_natCast, hk, lvD, a1]
      rw [afterDraw_some _ _ _ _ (by kernel_rfl)]
      simp only [zS, nilEq, wantedA, opA, eff, boxA, cells, ev, gt, pt, putO, updO, setO, okC, loadA, cutC, fieldAddrA, fieldA, indexAddrA, indexA, builtinA, callOpA, callV, target, ptrV, lenS, binA, intOp, strOp, unA, num, lk, over, allocA, pickA, buildA, fillA, convertA, extractA, ofComp, nilCheckA, makeFuncA, ptrs, ofValue, cellB, Nat.reduceAdd, Nat.reduceSub, Nat.reduceMul, Nat.reduceLT, Nat.reduceLeDiff, Nat.reduceGT, ↓reduceIte, Nat.reduceEqDiff, Nat.reduceBEq, reduceCtorEq, Int.reduceBEq, Int.reduceBNe, Int.reduceLT, Int.reduceLE, Int.reduceGT, Int.reduceGE]
      (refine Eq.trans ?_ rfl; kernel_rfl)
    · exfalso
      simp [badLV, okLV] at hp; omega
  by_cases a2 : y.v ≥ 1200
  · refine ⟨fun hp => ?_, fun hp out h => ?_⟩
    · simp only [dV, E120, O120, levC, Lev.d, iV, bV, hd] at hr ⊢
      (rw [show (It.code L120a) = It.code (sub B120 [1, 1, 0, 1, 0, 0]) from rfl]; simp only [B120, K120a, sub, Option.getD_some, Tryz.f120, ↓reduceIte, Nat.one_ne_zero])
      simp only [zS, nilEq, wantedA, opA, eff, boxA, cells, ev, gt, pt, putO, updO, setO, okC, loadA, cutC, fieldAddrA, fieldA, indexAddrA, indexA, builtinA, callOpA, callV, target, ptrV, lenS, binA, intOp, strOp, unA, num, lk, over, allocA, pickA, buildA, fillA, convertA, extractA, ofComp, nilCheckA, makeFuncA, ptrs, ofValue, cellB, Nat.reduceAdd, Nat.reduceSub, Nat.reduceMul, Nat.reduceLT, Nat.reduceLeDiff, Nat.reduceGT, ↓reduceIte, Nat.reduceEqDiff, Nat.reduceBEq, reduceCtorEq, Int.reduceBEq, Int.reduceBNe, Int.reduceLT, Int.reduceLE, Int.reduceGT, Int.reduceGE, aggT_34, sizeT_34, bytesT_34, und_34, elemT_34, isSliceT_34, zero1_34, zeroT_34, aggT_36, sizeT_36, bytesT_36, fieldT_36_0, fieldT_36_1, placesT_36, zeroT_36, aggT_110, sizeT_110, bytesT_110, fieldT_110_0, fieldT_110_1, placesT_110, zeroT_110, aggT_3, sizeT_3, bytesT_3, und_3, zero1_3, zeroT_3, drawA, holes_succ, holes_zero, Array.size, List.length, h0, hl, Int.toNat_natCast, hk, lvD, a1, a2]
      rw [afterDraw_some _ _ _ _ (by kernel_rfl)]
      simp only [zS, nilEq, wantedA, opA, eff, boxA, cells, ev, gt, pt, putO, updO, setO, okC, loadA, cutC, fieldAddrA, fieldA, indexAddrA, indexA, builtinA, callOpA, callV, target, ptrV, lenS, binA, intOp, strOp, unA, num, lk, over, allocA, pickA, buildA, fillA, convertA, extractA, ofComp, nilCheckA, makeFuncA, ptrs, ofValue, cellB, Nat.reduceAdd, Nat.reduceSub, Nat.reduceMul, Nat.reduceLT, Nat.reduceLeDiff, Nat.reduceGT, ↓reduceIte, Nat.reduceEqDiff, Nat.reduceBEq, reduceCtorEq, Int.reduceBEq, Int.reduceBNe, Int.reduceLT, Int.reduceLE, Int.reduceGT, Int.reduceGE]
      (refine Eq.trans ?_ rfl; kernel_rfl)
    · exfalso
      simp [badLV, okLV] at hp; omega
  by_cases a3 : y.p < 0
  · refine ⟨fun hp => ?_, fun hp out h => ?_⟩
    · simp only [dV, E120, O120, levC, Lev.d, iV, bV, hd] at hr ⊢
      (rw [show (It.code L120a) = It.code (sub B120 [1, 1, 0, 1, 0, 0]) from rfl]; simp only [B120, K120a, sub, Option.getD_some, Tryz.f120, ↓reduceIte, Nat.one_ne_zero])
      simp only [zS, nilEq, wantedA, opA, eff, boxA, cells, ev, gt, pt, putO, updO, setO, okC, loadA, cutC, fieldAddrA, fieldA, indexAddrA, indexA, builtinA, callOpA, callV, target, ptrV, lenS, binA, intOp, strOp, unA, num, lk, over, allocA, pickA, buildA, fillA, convertA, extractA, ofComp, nilCheckA, makeFuncA, ptrs, ofValue, cellB, Nat.reduceAdd, Nat.reduceSub, Nat.reduceMul, Nat.reduceLT, Nat.reduceLeDiff, Nat.reduceGT, ↓reduceIte, Nat.reduceEqDiff, Nat.reduceBEq, reduceCtorEq, Int.reduceBEq, Int.reduceBNe, Int.reduceLT, Int.reduceLE, Int.reduceGT, Int.reduceGE, aggT_34, sizeT_34, bytesT_34, und_34, elemT_34, isSliceT_34, zero1_34, zeroT_34, aggT_36, sizeT_36, bytesT_36, fieldT_36_0, fieldT_36_1, placesT_36, zeroT_36, aggT_110, sizeT_110, bytesT_110, fieldT_110_0, fieldT_110_1, placesT_110, zeroT_110, aggT_3, sizeT_3, bytesT_3, und_3, zero1_3, zeroT_3, drawA, holes_succ, holes_zero, Array.size, List.length, h0, hl, Int.toNat_natCast, hk, lvD, a1, a2, a3]
      rw [afterDraw_some _ _ _ _ (by kernel_rfl)]
      simp only [zS, nilEq, wantedA, opA, eff, boxA, cells, ev, gt, pt, putO, updO, setO, okC, loadA, cutC, fieldAddrA, fieldA, indexAddrA, indexA, builtinA, callOpA, callV, target, ptrV, lenS, binA, intOp, strOp, unA, num, lk, over, allocA, pickA, buildA, fillA, convertA, extractA, ofComp, nilCheckA, makeFuncA, ptrs, ofValue, cellB, Nat.reduceAdd, Nat.reduceSub, Nat.reduceMul, Nat.reduceLT, Nat.reduceLeDiff, Nat.reduceGT, ↓reduceIte, Nat.reduceEqDiff, Nat.reduceBEq, reduceCtorEq, Int.reduceBEq, Int.reduceBNe, Int.reduceLT, Int.reduceLE, Int.reduceGT, Int.reduceGE]
      (refine Eq.trans ?_ rfl; kernel_rfl)
    · exfalso
      simp [badLV, okLV] at hp; omega
  by_cases a4 : y.p > 1000
  · refine ⟨fun hp => ?_, fun hp out h => ?_⟩
    · simp only [dV, E120, O120, levC, Lev.d, iV, bV, hd] at hr ⊢
      (rw [show (It.code L120a) = It.code (sub B120 [1, 1, 0, 1, 0, 0]) from rfl]; simp only [B120, K120a, sub, Option.getD_some, Tryz.f120, ↓reduceIte, Nat.one_ne_zero])
      simp only [zS, nilEq, wantedA, opA, eff, boxA, cells, ev, gt, pt, putO, updO, setO, okC, loadA, cutC, fieldAddrA, fieldA, indexAddrA, indexA, builtinA, callOpA, callV, target, ptrV, lenS, binA, intOp, strOp, unA, num, lk, over, allocA, pickA, buildA, fillA, convertA, extractA, ofComp, nilCheckA, makeFuncA, ptrs, ofValue, cellB, Nat.reduceAdd, Nat.reduceSub, Nat.reduceMul, Nat.reduceLT, Nat.reduceLeDiff, Nat.reduceGT, ↓reduceIte, Nat.reduceEqDiff, Nat.reduceBEq, reduceCtorEq, Int.reduceBEq, Int.reduceBNe, Int.reduceLT, Int.reduceLE, Int.reduceGT, Int.reduceGE, aggT_34, sizeT_34, bytesT_34, und_34, elemT_34, isSliceT_34, zero1_34, zeroT_34, aggT_36, sizeT_36, bytesT_36, fieldT_36_0, fieldT_36_1, placesT_36, zeroT_36, aggT_110, sizeT_110, bytesT_110, fieldT_110_0, fieldT_110_1, placesT_110, zeroT_110, aggT_3, sizeT_3, bytesT_3, und_3, zero1_3, zeroT_3, drawA, holes_succ, holes_zero, Array.size, List.length, h0, hl, Int.toNat_natCast, hk, lvD, a1, a2, a3, a4]
      rw [afterDraw_some _ _ _ _ (by kernel_rfl)]
      simp only [zS, nilEq, wantedA, opA, eff, boxA, cells, ev, gt, pt, putO, updO, setO, okC, loadA, cutC, fieldAddrA, fieldA, indexAddrA, indexA, builtinA, callOpA, callV, target, ptrV, lenS, binA, intOp, strOp, unA, num, lk, over, allocA, pickA, buildA, fillA, convertA, extractA, ofComp, nilCheckA, makeFuncA, ptrs, ofValue, cellB, Nat.reduceAdd, Nat.reduceSub, Nat.reduceMul, Nat.reduceLT, Nat.reduceLeDiff, Nat.reduceGT, ↓reduceIte, Nat.reduceEqDiff, Nat.reduceBEq, reduceCtorEq, Int.reduceBEq, Int.reduceBNe, Int.reduceLT, Int.reduceLE, Int.reduceGT, Int.reduceGE]
      (refine Eq.trans ?_ rfl; kernel_rfl)
    · exfalso
      simp [badLV, okLV] at hp; omega
  have hok : okLV y = true := by simp [okLV]; omega
  by_cases a5 : i ≥ 0
  · refine ⟨fun hp => ?_, fun hp out h => ?_⟩
    · simp only [dV, E120, O120, levC, Lev.d, iV, bV, hd] at hr ⊢
      (rw [show (It.code L120a) = It.code (sub B120 [1, 1, 0, 1, 0, 0]) from rfl]; simp only [B120, K120a, sub, Option.getD_some, Tryz.f120, ↓reduceIte, Nat.one_ne_zero])
      simp only [zS, nilEq, wantedA, opA, eff, boxA, cells, ev, gt, pt, putO, updO, setO, okC, loadA, cutC, fieldAddrA, fieldA, indexAddrA, indexA, builtinA, callOpA, callV, target, ptrV, lenS, binA, intOp, strOp, unA, num, lk, over, allocA, pickA, buildA, fillA, convertA, extractA, ofComp, nilCheckA, makeFuncA, ptrs, ofValue, cellB, Nat.reduceAdd, Nat.reduceSub, Nat.reduceMul, Nat.reduceLT, Nat.reduceLeDiff, Nat.reduceGT, ↓reduceIte, Nat.reduceEqDiff, Nat.reduceBEq, reduceCtorEq, Int.reduceBEq, Int.reduceBNe, Int.reduceLT, Int.reduceLE, Int.reduceGT, Int.reduceGE, aggT_34, sizeT_34, bytesT_34, und_34, elemT_34, isSliceT_34, zero1_34, zeroT_34, aggT_36, sizeT_36, bytesT_36, fieldT_36_0, fieldT_36_1, placesT_36, zeroT_36, aggT_110, sizeT_110, bytesT_110, fieldT_110_0, fieldT_110_1, placesT_110, zeroT_110, aggT_3, sizeT_3, bytesT_3, und_3, zero1_3, zeroT_3, drawA, holes_succ, holes_zero, Array.size, List.length, sliceA, bound, h0, hl, hkl, Int.toNat_natCast, hk, lvD, a1, a2, a3, a4, a5, hr]
      rw [afterDraw_some _ _ _ _ (by kernel_rfl)]
      simp only [zS, nilEq, wantedA, opA, eff, boxA, cells, ev, gt, pt, putO, updO, setO, okC, loadA, cutC, fieldAddrA, fieldA, indexAddrA, indexA, builtinA, callOpA, callV, target, ptrV, lenS, binA, intOp, strOp, unA, num, lk, over, allocA, pickA, buildA, fillA, convertA, extractA, ofComp, nilCheckA, makeFuncA, ptrs, ofValue, cellB, Nat.reduceAdd, Nat.reduceSub, Nat.reduceMul, Nat.reduceLT, Nat.reduceLeDiff, Nat.reduceGT, ↓reduceIte, Nat.reduceEqDiff, Nat.reduceBEq, reduceCtorEq, Int.reduceBEq, Int.reduceBNe, Int.reduceLT, Int.reduceLE, Int.reduceGT, Int.reduceGE]
      (refine Eq.trans ?_ rfl; kernel_rfl)
    · exfalso
      rw [badLV, hok, ← hi] at hp
      simp [a5] at hp
  · refine ⟨fun hp => ?_, fun hp out h => ?_⟩
    · exfalso
      rw [badLV, hok, ← hi] at hp
      simp [a5] at hp
    · simp only [dV, E120, O120, levC, Lev.d, iV, bV, hd] at hr h ⊢
      (rw [show (It.code L120a) = It.code (sub B120 [1, 1, 0, 1, 0, 0]) from rfl]; simp only [B120, K120a, sub, Option.getD_some, Tryz.f120, ↓reduceIte, Nat.one_ne_zero])
      simp only [zS, nilEq, wantedA, opA, eff, boxA, cells, ev, gt, pt, putO, updO, setO, okC, loadA, cutC, fieldAddrA, fieldA, indexAddrA, indexA, builtinA, callOpA, callV, target, ptrV, lenS, binA, intOp, strOp, unA, num, lk, over, allocA, pickA, buildA, fillA, convertA, extractA, ofComp, nilCheckA, makeFuncA, ptrs, ofValue, cellB, Nat.reduceAdd, Nat.reduceSub, Nat.reduceMul, Nat.reduceLT, Nat.reduceLeDiff, Nat.reduceGT, ↓reduceIte, Nat.reduceEqDiff, Nat.reduceBEq, reduceCtorEq, Int.reduceBEq, Int.reduceBNe, Int.reduceLT, Int.reduceLE, Int.reduceGT, Int.reduceGE, aggT_34, sizeT_34, bytesT_34, und_34, elemT_34, isSliceT_34, zero1_34, zeroT_34, aggT_36, sizeT_36, bytesT_36, fieldT_36_0, fieldT_36_1, placesT_36, zeroT_36, aggT_110, sizeT_110, bytesT_110, fieldT_110_0, fieldT_110_1, placesT_110, zeroT_110, aggT_3, sizeT_3, bytesT_3, und_3, zero1_3, zeroT_3, drawA, holes_succ, holes_zero, Array.size, List.length, sliceA, bound, h0, hl, hkl, Int.toNat_natCast, hk, lvD, a1, a2, a3, a4, a5, hr]
      rw [afterDraw_some _ _ _ _ (by kernel_rfl)]
      simp only [zS, nilEq, wantedA, opA, eff, boxA, cells, ev, gt, pt, putO, updO, setO, okC, loadA, cutC, fieldAddrA, fieldA, indexAddrA, indexA, builtinA, callOpA, callV, target, ptrV, lenS, binA, intOp, strOp, unA, num, lk, over, allocA, pickA, buildA, fillA, convertA, extractA, ofComp, nilCheckA, makeFuncA, ptrs, ofValue, cellB, Nat.reduceAdd, Nat.reduceSub, Nat.reduceMul, Nat.reduceLT, Nat.reduceLeDiff, Nat.reduceGT, ↓reduceIte, Nat.reduceEqDiff, Nat.reduceBEq, reduceCtorEq, Int.reduceBEq, Int.reduceBNe, Int.reduceLT, Int.reduceLE, Int.reduceGT, Int.reduceGE]
      (refine (r_inLoop_some ?_).trans h; kernel_rfl)
end Go.Proofs.YteenjodhmppgjaaGreatDoor.Am
end
section
/- Rules for slices that are made: literals of one element, append. -/
namespace Go.Proofs.YteenjodhmppgjaaGreatDoor.Am
open Go
set_option maxHeartbeats 4000000
theorem bs_one {P : Program} {look : Look} {slot : Nat} {t e : TypeId} {k : Nat} {v : V} {cs : List C} {ds : List D} {own : List Nat} (h1 : elemT P t = some e) (h2 : sizeT P e = some k) (h3 : (zeroT P e).isSome = true) (h4 : cells v = some cs) (h5 : toDs look cs = some (ds, own)) (h6 : ds.length = k) (h7 : 0 < k) (h8 : k ≤ 100) :
    buildSliceA P look slot t 1 [(0, v)] = some ⟨.val (.c (.own slot)), kills own ++ [(slot, .arr k [ds])], own⟩ := by
  simp only [buildSliceA, h1, h2, List.map_cons, List.map_nil, toDss, h4, h5, List.append_nil, List.zip_cons_cons, List.zip_nil_right, inOrder]
  rw [if_pos]
  refine ⟨rfl, h7, by omega, ?_, h3⟩
  simp [inOrder, h6]
/-- A slice that is being made: nil as long as it has no element. -/
def mkV (i : Nat) (els : List (List D)) : V := match els with | [] => .c (.d (.v (.slice none 0 0))) | _ :: _ => .c (.own i)
def mkO (k : Nat) (els : List (List D)) : List O := match els with | [] => [] | a :: r => [.arr k (a :: r)]
theorem mkV_nil (i : Nat) : mkV i [] = .c (.d (.v (.slice none 0 0))) := rfl
theorem mkV_cons (i : Nat) (a : List D) (r : List (List D)) : mkV i (a :: r) = .c (.own i) := rfl
theorem mkO_nil (k : Nat) : mkO k [] = [] := rfl
theorem mkO_cons (k : Nat) (a : List D) (r : List (List D)) : mkO k (a :: r) = [.arr k (a :: r)] := rfl
theorem mkV_snoc (i : Nat) (els : List (List D)) (x : List D) : mkV i (els ++ [x]) = .c (.own i) := by cases els <;> rfl
theorem mkO_snoc (k : Nat) (els : List (List D)) (x : List D) : mkO k (els ++ [x]) = [.arr k (els ++ [x])] := by cases els <;> rfl
theorem z34 : (zeroT Tryz.prog 110).map List.length = some 2 := by rw [zeroT_110]; rfl
theorem z30 : (zeroT Tryz.prog 36).map List.length = some 2 := by rw [zeroT_36]; rfl
theorem z31 : (zeroT Tryz.prog 33).map List.length = some 5 := by rw [zeroT_33]; rfl
theorem i34 : (zeroT Tryz.prog 110).isSome = true := by rw [zeroT_110]; rfl
theorem i30 : (zeroT Tryz.prog 36).isSome = true := by rw [zeroT_36]; rfl
theorem i31 : (zeroT Tryz.prog 33).isSome = true := by rw [zeroT_33]; rfl
theorem bsLV {look : Look} {slot : Nat} {a b : Int} : buildSliceA Tryz.prog look slot 34 1 [(0, .agg [.d (.v (.int .i64 a)), .d (.v (.int .i64 b))])] = some ⟨.val (.c (.own slot)), [(slot, .arr 2 [[.v (.int .i64 a), .v (.int .i64 b)]])], []⟩ :=
  bs_one (cs := [.d (.v (.int .i64 a)), .d (.v (.int .i64 b))]) elemT_34 sizeT_110 i34 rfl rfl rfl (by decide) (by decide)
/-- Appends to a slice that is being made, as rules for simp. -/
def apG (k b slot id j : Nat) (o1 o2 : Option O) : Option Eff :=
  match o2 with
  | some (.arr k2 new) => if k2 = k then match o1 with
    | some (.arr k1 els) => if k1 = k ∧ (els.length + new.length) * b ≤ 140737488355328 ∧ els.length + new.length ≤ 9223372036854775807 ∧ [j].contains id = false then some ⟨.val (.c (.own slot)), kills [j] ++ [(id, .gone), (slot, .arr k (els ++ new))], [j] ++ [id]⟩ else none
    | _ => none
    else none
  | _ => none
def apH (k b slot j : Nat) (o2 : Option O) : Option Eff :=
  match o2 with
  | some (.arr k2 new) => if k2 = k then match new with
    | [] => some ⟨.val (.c (.d (.v (.slice none 0 0)))), [], [j]⟩
    | _ :: _ => if new.length * b ≤ 140737488355328 ∧ new.length ≤ 9223372036854775807 then some ⟨.val (.c (.own slot)), kills [j] ++ [(slot, .arr k new)], [j]⟩ else none
    else none
  | _ => none
def apI (k b slot id : Nat) (new : List (List D)) (o1 : Option O) : Option Eff :=
  match o1 with
  | some (.arr k1 els) => if k1 = k ∧ (els.length + new.length) * b ≤ 140737488355328 ∧ els.length + new.length ≤ 9223372036854775807 ∧ ([] : List Nat).contains id = false then some ⟨.val (.c (.own slot)), kills [] ++ [(id, .gone), (slot, .arr k (els ++ new))], [] ++ [id]⟩ else none
  | _ => none
section
variable {P : Program} {look : Look} {slot : Nat} {t e : TypeId} {k b : Nat} (h1 : elemT P t = some e) (h2 : sizeT P e = some k) (h3 : bytesT P e = some b) (h4 : (zeroT P e).map List.length = some k) (h5 : 0 < k)
include h1 h2 h3 h4 h5
theorem app_oo (id j : Nat) : appendA P look slot [t, t] [.c (.own id), .c (.own j)] = apG k b slot id j (look id) (look j) := by
  simp only [appendA, h1, h2, h3, h4, h5, addedA, ne_eq, not_true_eq_false, if_false, and_self, if_true]
  unfold apG
  cases look j with
  | none => rfl
  | some o =>
    cases o with
    | arr k2 new =>
      dsimp only
      by_cases hk : k2 = k
      · rw [if_pos hk, if_pos hk]
        cases look id with
        | none => rfl
        | some o => cases o <;> rfl
      · rw [if_neg hk, if_neg hk]
    | _ => rfl
theorem app_no (j : Nat) : appendA P look slot [t, t] [.c (.d (.v (.slice none 0 0))), .c (.own j)] = apH k b slot j (look j) := by
  simp only [appendA, h1, h2, h3, h4, h5, addedA, ne_eq, not_true_eq_false, if_false, and_self, if_true]
  unfold apH
  cases look j with
  | none => rfl
  | some o =>
    cases o with
    | arr k2 new =>
      dsimp only
      by_cases hk : k2 = k
      · rw [if_pos hk, if_pos hk]
        cases new <;> rfl
      · rw [if_neg hk, if_neg hk]
    | _ => rfl
theorem app_os (id : Nat) (new : List (List D)) : appendA P look slot [t, t] [.c (.own id), .c (.d (.s k new))] = apI k b slot id new (look id) := by
  simp only [appendA, h1, h2, h3, h4, h5, addedA, ne_eq, not_true_eq_false, if_false, and_self, if_true, true_or]
  unfold apI
  cases look id with
  | none => rfl
  | some o => cases o <;> rfl
theorem app_on (id : Nat) : appendA P look slot [t, t] [.c (.own id), .c (.d (.v (.slice none 0 0)))] = apI k b slot id [] (look id) := by
  simp only [appendA, h1, h2, h3, h4, h5, addedA, ne_eq, not_true_eq_false, if_false, and_self, if_true, true_or]
  unfold apI
  cases look id with
  | none => rfl
  | some o => cases o <;> rfl
theorem app_nn : appendA P look slot [t, t] [.c (.d (.v (.slice none 0 0))), .c (.d (.v (.slice none 0 0)))] = some ⟨.val (.c (.d (.v (.slice none 0 0)))), [], []⟩ := by
  simp only [appendA, h1, h2, h3, h4, h5, addedA, ne_eq, not_true_eq_false, if_false, and_self, if_true, true_or]
theorem app_ns {x : List D} {new : List (List D)} (hn : new.length < 1000000000) (hb : b ≤ 1000) : appendA P look slot [t, t] [.c (.d (.v (.slice none 0 0))), .c (.d (.s k (x :: new)))] = some ⟨.val (.c (.own slot)), [(slot, .arr k (x :: new))], []⟩ :=
  by
    have h6 : (new.length + 1) * b ≤ 140737488355328 := Nat.le_trans (Nat.mul_le_mul (by omega : new.length + 1 ≤ 1000000000) hb) (by decide)
    have h7 : new.length + 1 ≤ 9223372036854775807 := by omega
    simp only [appendA, h1, h2, h3, h4, h5, addedA, ne_eq, not_true_eq_false, if_false, and_self, if_true, true_or]
    rw [if_pos ⟨h6, h7⟩]
    rfl
end
theorem mk34 (slot : Nat) {c : Int} (h0 : 0 ≤ c) (h1 : c ≤ 1000000000) : makeSliceA Tryz.prog slot 34 (.c (.d (.v (.int .i64 0)))) (.c (.d (.v (.int .i64 c)))) = some ⟨.val (.c (.own slot)), [(slot, .arr 2 [])], []⟩ := by
  simp only [makeSliceA, elemT_34, sizeT_110, bytesT_110, zeroT_110, num, toDs, toD, List.append_nil]
  rw [if_pos]
  · rfl
  · exact ⟨by omega, h0, by omega, by omega, by decide, rfl⟩
theorem apG_arr {k b slot id j : Nat} {els new : List (List D)} (h6 : els.length ≤ 1000000000) (h7 : new.length ≤ 1000000000) (hne : ¬ j = id) (hb : b ≤ 1000) : apG k b slot id j (some (.arr k els)) (some (.arr k new)) = some ⟨.val (.c (.own slot)), [(j, .gone), (id, .gone), (slot, .arr k (els ++ new))], [j, id]⟩ := by
  have hc : ([j].contains id) = false := by simp; exact fun e => hne e.symm
  unfold apG
  dsimp only
  rw [if_pos rfl, if_pos ⟨rfl, Nat.le_trans (Nat.mul_le_mul (Nat.add_le_add h6 h7) hb) (by decide), by omega, hc⟩]
  rfl
theorem apH_arr {k b slot j : Nat} {x : List D} {new : List (List D)} (h7 : new.length ≤ 1000000000) (hb : b ≤ 1000) : apH k b slot j (some (.arr k (x :: new))) = some ⟨.val (.c (.own slot)), [(j, .gone), (slot, .arr k (x :: new))], [j]⟩ := by
  unfold apH
  dsimp only
  rw [if_pos rfl, if_pos ⟨Nat.le_trans (Nat.mul_le_mul (Nat.le_refl _) hb) (by simp only [List.length_cons]; omega), by simp only [List.length_cons]; omega⟩]
  rfl
theorem apI_arr {k b slot id : Nat} {els new : List (List D)} (h6 : els.length ≤ 1000000000) (h7 : new.length ≤ 1000000000) (hb : b ≤ 1000) : apI k b slot id new (some (.arr k els)) = some ⟨.val (.c (.own slot)), [(id, .gone), (slot, .arr k (els ++ new))], [id]⟩ := by
  unfold apI
  dsimp only
  rw [if_pos ⟨rfl, Nat.le_trans (Nat.mul_le_mul (Nat.add_le_add h6 h7) hb) (by decide), by omega, rfl⟩]
  rfl
section
variable (look : Look) (slot id j : Nat) (new : List (List D))
theorem oo34 : appendA Tryz.prog look slot [34, 34] [.c (.own id), .c (.own j)] = apG 2 16 slot id j (look id) (look j) := app_oo elemT_34 sizeT_110 bytesT_110 z34 (by decide) id j
theorem no34 : appendA Tryz.prog look slot [34, 34] [.c (.d (.v (.slice none 0 0))), .c (.own j)] = apH 2 16 slot j (look j) := app_no elemT_34 sizeT_110 bytesT_110 z34 (by decide) j
theorem os34 : appendA Tryz.prog look slot [34, 34] [.c (.own id), .c (.d (.s 2 new))] = apI 2 16 slot id new (look id) := app_os elemT_34 sizeT_110 bytesT_110 z34 (by decide) id new
theorem on34 : appendA Tryz.prog look slot [34, 34] [.c (.own id), .c (.d (.v (.slice none 0 0)))] = apI 2 16 slot id [] (look id) := app_on elemT_34 sizeT_110 bytesT_110 z34 (by decide) id
theorem nn34 : appendA Tryz.prog look slot [34, 34] [.c (.d (.v (.slice none 0 0))), .c (.d (.v (.slice none 0 0)))] = some ⟨.val (.c (.d (.v (.slice none 0 0)))), [], []⟩ := app_nn elemT_34 sizeT_110 bytesT_110 z34 (by decide)
theorem ns34 {x : List D} {l : List (List D)} (hn : l.length < 1000000000) : appendA Tryz.prog look slot [34, 34] [.c (.d (.v (.slice none 0 0))), .c (.d (.s 2 (x :: l)))] = some ⟨.val (.c (.own slot)), [(slot, .arr 2 (x :: l))], []⟩ := app_ns elemT_34 sizeT_110 bytesT_110 z34 (by decide) hn (by decide)
theorem ol34 (z : Bool) : appendA Tryz.prog look slot [34, 34] [.c (.own id), .c (.d (listD z 2 new))] = apI 2 16 slot id new (look id) := by
  unfold listD
  split
  · rename_i h; rw [h.2]; exact on34 look slot id
  · exact os34 look slot id new
theorem bs0 : buildSliceA Tryz.prog look slot 144 0 [] = some ⟨.val (.c (.own slot)), [(slot, .arr 2 [])], []⟩ := by
  simp only [buildSliceA, elemT_144, sizeT_110, List.map_nil, toDss]
  rw [if_pos]
  · rfl
  · exact ⟨rfl, by decide, by decide, rfl, i34⟩
theorem os144 : appendA Tryz.prog look slot [144, 144] [.c (.own id), .c (.d (.s 2 new))] = apI 2 16 slot id new (look id) := app_os elemT_144 sizeT_110 bytesT_110 z34 (by decide) id new
theorem oo30 : appendA Tryz.prog look slot [30, 30] [.c (.own id), .c (.own j)] = apG 2 32 slot id j (look id) (look j) := app_oo elemT_30 sizeT_36 bytesT_36 z30 (by decide) id j
theorem no30 : appendA Tryz.prog look slot [30, 30] [.c (.d (.v (.slice none 0 0))), .c (.own j)] = apH 2 32 slot j (look j) := app_no elemT_30 sizeT_36 bytesT_36 z30 (by decide) j
theorem oo31 : appendA Tryz.prog look slot [31, 31] [.c (.own id), .c (.own j)] = apG 5 80 slot id j (look id) (look j) := app_oo elemT_31 sizeT_33 bytesT_33 z31 (by decide) id j
theorem no31 : appendA Tryz.prog look slot [31, 31] [.c (.d (.v (.slice none 0 0))), .c (.own j)] = apH 5 80 slot j (look j) := app_no elemT_31 sizeT_33 bytesT_33 z31 (by decide) j
end
/-! ### calls that take an own slice as data -/
def coK (rec : Rec) (slot : Nat) (f : FuncId) (pre : List V) (id : Nat) (post : List V) (o : Option O) : Option Eff :=
  match o with
  | some (.arr k els) => callOut [] [id] slot (rec (.call f (pre ++ .c (.d (.s k els)) :: post) []))
  | _ => none
theorem argVs_append {look : Look} : ∀ {pre xs ys : List V} {a : List Nat}, pre.all dataV = true → argVs look xs = some (ys, a) → argVs look (pre ++ xs) = some (pre ++ ys, a)
  | [], _, _, _, _, h => h
  | v :: pre, xs, ys, a, hp, h => by
    simp only [List.all_cons, Bool.and_eq_true] at hp
    obtain ⟨h1, _, _⟩ := argV_data (look := look) hp.1
    have := argVs_append hp.2 h
    simp only [List.cons_append, argVs, h1, this, List.nil_append]
theorem callA_own (rec : Rec) (look : Look) (slot : Nat) (f : FuncId) (pre : List V) (id : Nat) (post : List V) (hf : ownF f = false) (hp : pre.all dataV = true) (hq : post.all dataV = true) :
    callA rec look slot f (pre ++ .c (.own id) :: post) = coK rec slot f pre id post (look id) := by
  obtain ⟨h1, h2, h3⟩ := argVs_data (look := look) hp
  obtain ⟨k1, k2, k3⟩ := argVs_data (look := look) hq
  unfold callA callPrep coK
  have e1 : argVs look (.c (.own id) :: post) = match look id with | some (.arr k els) => some (.c (.d (.s k els)) :: post, [id]) | _ => none := by
    simp only [argVs, argV, argC, k1]
    cases look id with
    | none => rfl
    | some o => cases o <;> rfl
  rw [hf]
  simp only [argVsK]
  cases hl : look id with
  | none =>
    have : argVs look (pre ++ .c (.own id) :: post) = none := by
      rw [hl] at e1
      clear h1 h2 h3
      induction pre with
      | nil => exact e1
      | cons v pre ih =>
        simp only [List.all_cons, Bool.and_eq_true] at hp
        simp only [List.cons_append, argVs, (argV_data (look := look) hp.1).1, ih hp.2]
    rw [this]; rfl
  | some o =>
    cases o with
    | arr k els =>
      rw [hl] at e1
      rw [argVs_append hp e1]
      dsimp only
      have e2 : (pre ++ V.c (C.d (D.s k els)) :: post).flatMap refsV = [] := by rw [List.flatMap_append, List.flatMap_cons, h2, k2]; rfl
      rw [e2]
      have hr : Am.reach look 200 [] [] = [] := rfl
      have hm : mapO (renV (pos [])) (pre ++ V.c (C.d (D.s k els)) :: post) = some (pre ++ V.c (C.d (D.s k els)) :: post) := (argVs_data (look := look) (by rw [List.all_append, List.all_cons, hp, hq]; rfl)).2.2 _
      rw [hr, hm]
      rfl
    | box _ | raw _ | gone | hole =>
      rw [hl] at e1
      have : argVs look (pre ++ .c (.own id) :: post) = none := by
        clear h1 h2 h3
        induction pre with
        | nil => exact e1
        | cons v pre ih =>
          simp only [List.all_cons, Bool.and_eq_true] at hp
          simp only [List.cons_append, argVs, (argV_data (look := look) hp.1).1, ih hp.2]
      rw [this]; rfl
theorem callA_o0 (rec : Rec) (look : Look) (slot : Nat) (f : FuncId) (id : Nat) (hf : ownF f = false) : callA rec look slot f [.c (.own id)] = coK rec slot f [] id [] (look id) := callA_own rec look slot f [] id [] hf rfl rfl
theorem callA_o1 (rec : Rec) (look : Look) (slot : Nat) (f : FuncId) (v : V) (id : Nat) (hf : ownF f = false) (hv : dataV v = true) : callA rec look slot f [v, .c (.own id)] = coK rec slot f [v] id [] (look id) := callA_own rec look slot f [v] id [] hf (by simp [hv]) rfl
theorem callA_o1p (rec : Rec) (look : Look) (slot : Nat) (f : FuncId) (v u w : V) (id : Nat) (hf : ownF f = false) (hv : dataV v = true) (hu : dataV u = true) (hw : dataV w = true) : callA rec look slot f [v, .c (.own id), u, w] = coK rec slot f [v] id [u, w] (look id) := callA_own rec look slot f [v] id [u, w] hf (by simp [hv]) (by simp [hu, hw])
theorem coK_arr (rec : Rec) (slot : Nat) (f : FuncId) (pre : List V) (id : Nat) (post : List V) (k : Nat) (els : List (List D)) : coK rec slot f pre id post (some (.arr k els)) = callOut [] [id] slot (rec (.call f (pre ++ .c (.d (.s k els)) :: post) [])) := rfl
theorem callOut_bor {bor : List Nat} {slot : Nat} {v : V} {b : Bool} (h : dataV v = true) (hb : scalarV v = b) : callOut [] bor slot (some (.ret [v] [])) = some { res := .val v, upd := if b = true then [] else kills bor, rd := bor } := by
  obtain ⟨_, _, h3⟩ := argV_data (look := fun _ => none) h
  simp only [callOut, answer, mapO, h3, results1, List.length_nil, Nat.lt_irrefl, if_false, List.all_cons, List.all_nil, Bool.and_true, hb, List.isEmpty_nil]
  cases b <;> rfl
/-! ### calls that are handed an own slice as it is -/
def cwK (rec : Rec) (look : Look) (slot : Nat) (f : FuncId) (id : Nat) (post : List V) (o : Option O) : Option Eff :=
  match o with
  | some (.arr k els) => callOut [id] [] slot (rec (.call f (.c (.own 0) :: post) [.arr k els]))
  | _ => callA rec look slot f (.c (.own id) :: post)
theorem callA_keep (rec : Rec) (look : Look) (slot : Nat) (f : FuncId) (id : Nat) (post : List V) (hf : ownF f = true) (hq : post.all dataV = true) : callA rec look slot f (.c (.own id) :: post) = cwK rec look slot f id post (look id) := by
  cases hl : look id with
  | none => rfl
  | some o =>
    cases o with
    | arr k els =>
      obtain ⟨k1, k2, k3⟩ := argVs_data (look := look) hq
      unfold callA callPrep cwK
      rw [hf]
      simp only [argVsK]
      have a2 : (V.c (C.own id) :: post).flatMap refsV = [id] := by rw [List.flatMap_cons, k2]; rfl
      have a3 : Am.reach look 200 [] [id] = [id] := by
        show (if ([] : List Nat).contains id = true then _ else Am.reach look 199 ([] ++ [id]) ([] ++ refsO (look id))) = [id]
        rw [hl]
        rfl
      have a4 : mapO (renV (pos [id])) (.c (.own id) :: post) = some (.c (.own 0) :: post) := by
        have e : renV (pos [id]) (.c (.own id)) = some (.c (.own 0)) := by simp [renV, renC, pos]
        simp only [mapO, e, k3]
      have a5 : mapO look [id] = some [.arr k els] := by simp only [mapO, hl]
      have a6 : mapO (renO (pos [id])) [.arr k els] = some [.arr k els] := rfl
      simp only [a2, a3, a4, a5, a6]
      simp [callFin]
    | _ => rfl
theorem cwK_arr (rec : Rec) (look : Look) (slot : Nat) (f : FuncId) (id : Nat) (post : List V) (k : Nat) (els : List (List D)) : cwK rec look slot f id post (some (.arr k els)) = callOut [id] [] slot (rec (.call f (.c (.own 0) :: post) [.arr k els])) := rfl
theorem callOut_kept (id slot k : Nat) (els : List (List D)) : callOut [id] [] slot (some (.ret [] [.arr k els])) = some ⟨.val (.tup []), [(id, .arr k els)], [id]⟩ := rfl
/-- A call that hands an own slice back as it is. -/
theorem callOut_own (slot k : Nat) (els : List (List D)) : callOut [] [] slot (some (.ret [.c (.own 0)] [.arr k els])) = some ⟨.val (.c (.own slot)), [(slot, .arr k els)], []⟩ := rfl
end Go.Proofs.YteenjodhmppgjaaGreatDoor.Am
end
section
/- Levels: the canonical form, by the program; Valid by the reference. -/
namespace Go.Proofs.YteenjodhmppgjaaGreatDoor.Am
open Go
variable (ext : Ext)
set_option maxHeartbeats 4000000
noncomputable def B126 : Code := (Tryz.f126.body.getD .skip)
noncomputable def L126a : Code := sub B126 [1, 1, 0, 1, 0, 0]
noncomputable def K126a : List It := [.inBlock 0, .code (sub B126 [1, 1, 1])]
noncomputable def H126a (ext : Ext) (m : Nat) (env : Env) (loc : List O) : Option Out := run Tryz.prog ext (.k ⟨64, m, [.tmp 2], false⟩ (.code L126a :: .inLoop L126a :: K126a) env loc)
noncomputable def L126b : Code := sub B126 [1, 1, 0, 1, 0, 0, 1, 0, 0, 1, 1, 1, 0, 0]
noncomputable def K126b : List It := [.inBlock 2, .inBlock 1, .code (sub B126 [1, 1, 0, 1, 0, 0, 1, 1]), .inLoop L126a, .inBlock 0, .code (sub B126 [1, 1, 1])]
noncomputable def H126b (ext : Ext) (m : Nat) (env : Env) (loc : List O) : Option Out := run Tryz.prog ext (.k ⟨64, m, [.tmp 2], false⟩ (.code L126b :: .inLoop L126b :: K126b) env loc)
noncomputable def B195 : Code := (Tryz.f195.body.getD .skip)
noncomputable def L195a : Code := sub B195 [1, 1, 0, 1, 0, 0]
noncomputable def K195a : List It := [.inBlock 0, .code (sub B195 [1, 1, 1])]
noncomputable def H195a (ext : Ext) (m : Nat) (env : Env) (loc : List O) : Option Out := run Tryz.prog ext (.k ⟨18, m, [.tmp 2], false⟩ (.code L195a :: .inLoop L195a :: K195a) env loc)
def zLev : Lev := ⟨0, [], true⟩
theorem levC_z : levC zLev = [.d (.v (.int .i64 0)), .d (.v (.slice none 0 0))] := rfl
/-! ### Valid -/
theorem none_iff {α : Type} {p : Nat → α → Bool} : ∀ {l : List α} {k : Nat}, idxFrom p k l = none ↔ ∀ (i : Nat) x, l[i]? = some x → p (k + i) x = false
  | [], k => by simp [idxFrom]
  | a :: l, k => by
    rw [idxFrom]
    constructor
    · intro h i x hx
      split at h
      · cases h
      · rename_i hp
        cases i with
        | zero => simp at hx; subst hx; simpa using hp
        | succ i => have := (none_iff.1 h) i x (by simpa using hx); rw [← this]; congr 1; omega
    · intro h
      have h0 := h 0 a (by simp)
      rw [if_neg (by simpa using h0)]
      exact none_iff.2 fun i x hx => by have := h (i + 1) x (by simpa using hx); rw [← this]; congr 1; omega
theorem valid120 (h120 : ext 120 = none) (hx : ext 190 = none) (hx1 : ext 234 = none) (hx2 : ext 235 = none) (x : Lev) : run Tryz.prog ext (.call 120 [levV x] []) = some (.ret [bV x.valid] []) := by
  by_cases h : x.c < 0 ∨ x.c > 1000 ∨ (x.vs.length : Int) > 8
  · rw [bad120 ext h120 x h]
    have : x.valid = false := by
      unfold Lev.valid
      rcases h with h | h | h
      · have : decide (0 ≤ x.c) = false := decide_eq_false (by omega)
        simp [this]
      · have : decide (x.c ≤ 1000) = false := decide_eq_false (by omega)
        simp [this]
      · have : decide (x.vs.length ≤ 8) = false := decide_eq_false (by omega)
        simp [this]
    rw [this]
  · have a1 : ¬ x.c < 0 := fun e => h (.inl e)
    have a2 : ¬ x.c > 1000 := fun e => h (.inr (.inl e))
    have a3 : ¬ (x.vs.length : Int) > 8 := fun e => h (.inr (.inr e))
    refine enter120 ext h120 x _ a1 a2 a3 ?_
    have hd : H120a ext 0 (E120 x x.vs.length) (O120 x) = some (.ret [bV true] []) := by
      unfold H120a
      simp only [dV, E120, O120, levC, iV, bV]
      (rw [show (It.code L120a) = It.code (sub B120 [1, 1, 0, 1, 0, 0]) from rfl]; simp only [B120, K120a, sub, Option.getD_some, Tryz.f120, ↓reduceIte, Nat.one_ne_zero])
      simp only [zS, nilEq, wantedA, opA, eff, boxA, cells, ev, gt, pt, putO, updO, setO, okC, loadA, cutC, fieldAddrA, fieldA, indexAddrA, indexA, builtinA, callOpA, callV, target, ptrV, lenS, binA, intOp, strOp, unA, num, lk, over, allocA, pickA, buildA, fillA, convertA, extractA, ofComp, nilCheckA, makeFuncA, ptrs, ofValue, cellB, Nat.reduceAdd, Nat.reduceSub, Nat.reduceMul, Nat.reduceLT, Nat.reduceLeDiff, Nat.reduceGT, ↓reduceIte, Nat.reduceEqDiff, Nat.reduceBEq, reduceCtorEq, Int.reduceBEq, Int.reduceBNe, Int.reduceLT, Int.reduceLE, Int.reduceGT, Int.reduceGE, aggT_34, sizeT_34, bytesT_34, und_34, elemT_34, isSliceT_34, zero1_34, zeroT_34, aggT_36, sizeT_36, bytesT_36, fieldT_36_0, fieldT_36_1, placesT_36, zeroT_36, aggT_110, sizeT_110, bytesT_110, fieldT_110_0, fieldT_110_1, placesT_110, zeroT_110, aggT_3, sizeT_3, bytesT_3, und_3, zero1_3, zeroT_3, Int.lt_irrefl]
      (refine Eq.trans ?_ rfl; kernel_rfl)
    have := loop_findK x.vs (fun k => H120a ext 0 (E120 x k) (O120 x)) (badLV x.vs) (fun _ => some (.ret [bV false] [])) (some (.ret [bV true] [])) (by omega) (fun k y hk hl => step120 ext hx hx1 hx2 x y k hk hl (by omega)) hd
    rw [this]
    have b1 : decide (0 ≤ x.c) = true := decide_eq_true (by omega)
    have b2 : decide (x.c ≤ 1000) = true := decide_eq_true (by omega)
    have b3 : decide (x.vs.length ≤ 8) = true := decide_eq_true (by omega)
    unfold Lev.valid
    rw [b1, b2, b3]
    cases idxFrom (badLV x.vs) 0 x.vs <;> rfl
def E126 (k : Int) : Env := [(1, .c (.ptr 0 0)), (3, iV k)]
theorem enter126 (hx : ext 126 = none) (x : Lev) (out : Option Out) (h1 : ¬ x.c < 0) (h2 : ¬ x.c > 1000) (h3 : ¬ (x.vs.length : Int) > 8) (h : H126a ext 0 (E126 0) (O120 x) = out) : run Tryz.prog ext (.call 126 [levV x] []) = out := by
  unfold H126a at h
  (rw [run_eq]; simp only [stepA, hx, Tryz.func126, Tryz.f126, show retF 126 = false from rfl]; simp only [List.length_cons, List.length_nil, Nat.reduceAdd, Nat.reduceLeDiff, Nat.zero_le, ↓reduceIte, List.zipIdx_cons, List.zipIdx_nil, List.map_cons, List.map_nil])
  simp only [levV, E126, O120, levC, Lev.d, dV, iV] at h ⊢
  simp only [zS, nilEq, wantedA, opA, eff, boxA, cells, ev, gt, pt, putO, updO, setO, okC, loadA, cutC, fieldAddrA, fieldA, indexAddrA, indexA, builtinA, callOpA, callV, target, ptrV, lenS, binA, intOp, strOp, unA, num, lk, over, allocA, pickA, buildA, fillA, convertA, extractA, ofComp, nilCheckA, makeFuncA, ptrs, ofValue, cellB, Nat.reduceAdd, Nat.reduceSub, Nat.reduceMul, Nat.reduceLT, Nat.reduceLeDiff, Nat.reduceGT, ↓reduceIte, Nat.reduceEqDiff, Nat.reduceBEq, reduceCtorEq, Int.reduceBEq, Int.reduceBNe, Int.reduceLT, Int.reduceLE, Int.reduceGT, Int.reduceGE, aggT_36, sizeT_36, bytesT_36, fieldT_36_0, fieldT_36_1, placesT_36, zeroT_36, aggT_34, sizeT_34, bytesT_34, und_34, elemT_34, isSliceT_34, zero1_34, zeroT_34, aggT_110, sizeT_110, bytesT_110, fieldT_110_0, fieldT_110_1, placesT_110, zeroT_110, aggT_3, sizeT_3, bytesT_3, und_3, zero1_3, zeroT_3, h1, h2, h3]
  (refine (r_inLoop_some ?_).trans h; kernel_rfl)
theorem bad126 (hx : ext 126 = none) (x : Lev) (h : x.c < 0 ∨ x.c > 1000 ∨ (x.vs.length : Int) > 8) : run Tryz.prog ext (.call 126 [levV x] []) = some (.ret [bV false] []) := by
  by_cases h1 : x.c < 0
  · (rw [run_eq]; simp only [stepA, hx, Tryz.func126, Tryz.f126, show retF 126 = false from rfl]; simp only [List.length_cons, List.length_nil, Nat.reduceAdd, Nat.reduceLeDiff, Nat.zero_le, ↓reduceIte, List.zipIdx_cons, List.zipIdx_nil, List.map_cons, List.map_nil])
    simp only [levV, levC, Lev.d]
    simp only [zS, nilEq, wantedA, opA, eff, boxA, cells, ev, gt, pt, putO, updO, setO, okC, loadA, cutC, fieldAddrA, fieldA, indexAddrA, indexA, builtinA, callOpA, callV, target, ptrV, lenS, binA, intOp, strOp, unA, num, lk, over, allocA, pickA, buildA, fillA, convertA, extractA, ofComp, nilCheckA, makeFuncA, ptrs, ofValue, cellB, Nat.reduceAdd, Nat.reduceSub, Nat.reduceMul, Nat.reduceLT, Nat.reduceLeDiff, Nat.reduceGT, ↓reduceIte, Nat.reduceEqDiff, Nat.reduceBEq, reduceCtorEq, Int.reduceBEq, Int.reduceBNe, Int.reduceLT, Int.reduceLE, Int.reduceGT, Int.reduceGE, aggT_36, sizeT_36, bytesT_36, fieldT_36_0, fieldT_36_1, placesT_36, zeroT_36, aggT_34, sizeT_34, bytesT_34, und_34, elemT_34, isSliceT_34, zero1_34, zeroT_34, aggT_110, sizeT_110, bytesT_110, fieldT_110_0, fieldT_110_1, placesT_110, zeroT_110, aggT_3, sizeT_3, bytesT_3, und_3, zero1_3, zeroT_3, h1]
    (refine Eq.trans ?_ rfl; kernel_rfl)
  by_cases h2 : x.c > 1000
  · (rw [run_eq]; simp only [stepA, hx, Tryz.func126, Tryz.f126, show retF 126 = false from rfl]; simp only [List.length_cons, List.length_nil, Nat.reduceAdd, Nat.reduceLeDiff, Nat.zero_le, ↓reduceIte, List.zipIdx_cons, List.zipIdx_nil, List.map_cons, List.map_nil])
    simp only [levV, levC, Lev.d]
    simp only [zS, nilEq, wantedA, opA, eff, boxA, cells, ev, gt, pt, putO, updO, setO, okC, loadA, cutC, fieldAddrA, fieldA, indexAddrA, indexA, builtinA, callOpA, callV, target, ptrV, lenS, binA, intOp, strOp, unA, num, lk, over, allocA, pickA, buildA, fillA, convertA, extractA, ofComp, nilCheckA, makeFuncA, ptrs, ofValue, cellB, Nat.reduceAdd, Nat.reduceSub, Nat.reduceMul, Nat.reduceLT, Nat.reduceLeDiff, Nat.reduceGT, ↓reduceIte, Nat.reduceEqDiff, Nat.reduceBEq, reduceCtorEq, Int.reduceBEq, Int.reduceBNe, Int.reduceLT, Int.reduceLE, Int.reduceGT, Int.reduceGE, aggT_36, sizeT_36, bytesT_36, fieldT_36_0, fieldT_36_1, placesT_36, zeroT_36, aggT_34, sizeT_34, bytesT_34, und_34, elemT_34, isSliceT_34, zero1_34, zeroT_34, aggT_110, sizeT_110, bytesT_110, fieldT_110_0, fieldT_110_1, placesT_110, zeroT_110, aggT_3, sizeT_3, bytesT_3, und_3, zero1_3, zeroT_3, h1, h2]
    (refine Eq.trans ?_ rfl; kernel_rfl)
  have h3 : (x.vs.length : Int) > 8 := by omega
  (rw [run_eq]; simp only [stepA, hx, Tryz.func126, Tryz.f126, show retF 126 = false from rfl]; simp only [List.length_cons, List.length_nil, Nat.reduceAdd, Nat.reduceLeDiff, Nat.zero_le, ↓reduceIte, List.zipIdx_cons, List.zipIdx_nil, List.map_cons, List.map_nil])
  simp only [levV, levC, Lev.d]
  simp only [zS, nilEq, wantedA, opA, eff, boxA, cells, ev, gt, pt, putO, updO, setO, okC, loadA, cutC, fieldAddrA, fieldA, indexAddrA, indexA, builtinA, callOpA, callV, target, ptrV, lenS, binA, intOp, strOp, unA, num, lk, over, allocA, pickA, buildA, fillA, convertA, extractA, ofComp, nilCheckA, makeFuncA, ptrs, ofValue, cellB, Nat.reduceAdd, Nat.reduceSub, Nat.reduceMul, Nat.reduceLT, Nat.reduceLeDiff, Nat.reduceGT, ↓reduceIte, Nat.reduceEqDiff, Nat.reduceBEq, reduceCtorEq, Int.reduceBEq, Int.reduceBNe, Int.reduceLT, Int.reduceLE, Int.reduceGT, Int.reduceGE, aggT_36, sizeT_36, bytesT_36, fieldT_36_0, fieldT_36_1, placesT_36, zeroT_36, aggT_34, sizeT_34, bytesT_34, und_34, elemT_34, isSliceT_34, zero1_34, zeroT_34, aggT_110, sizeT_110, bytesT_110, fieldT_110_0, fieldT_110_1, placesT_110, zeroT_110, aggT_3, sizeT_3, bytesT_3, und_3, zero1_3, zeroT_3, h1, h2, h3]
  (refine Eq.trans ?_ rfl; kernel_rfl)
def E126b (k j : Int) : Env := [(1, .c (.ptr 0 0)), (3, iV k), (4, .c (.ptr 1 0)), (5, iV j)]
def O126b (x : Lev) (y : LV) : List O := [.box (levC x), .box (lvC y)]
theorem bad126a (x : Lev) (y : LV) (k : Nat) (hk : x.vs[k]? = some y) (hl : (k : Int) < x.vs.length) (hb : okLV y = false) : H126a ext 0 (E126 k) (O120 x) = some (.ret [bV false] []) := by
  have h0 : (0 : Int) ≤ k := by omega
  have hd : listD x.z 2 (x.vs.map lvD) = .s 2 (x.vs.map lvD) := listD_of_lt h0 (by simpa using hl)
  unfold H126a
  simp only [dV, E126, O120, levC, Lev.d, iV, bV, hd]
  (rw [show (It.code L126a) = It.code (sub B126 [1, 1, 0, 1, 0, 0]) from rfl]; simp only [B126, K126a, sub, Option.getD_some, Tryz.f126, ↓reduceIte, Nat.one_ne_zero])
  by_cases a1 : y.v < 0
  · simp only [zS, nilEq, wantedA, opA, eff, boxA, cells, ev, gt, pt, putO, updO, setO, okC, loadA, cutC, fieldAddrA, fieldA, indexAddrA, indexA, builtinA, callOpA, callV, target, ptrV, lenS, binA, intOp, strOp, unA, num, lk, over, allocA, pickA, buildA, fillA, convertA, extractA, ofComp, nilCheckA, makeFuncA, ptrs, ofValue, cellB, Nat.reduceAdd, Nat.reduceSub, Nat.reduceMul, Nat.reduceLT, Nat.reduceLeDiff, Nat.reduceGT, ↓reduceIte, Nat.reduceEqDiff, Nat.reduceBEq, reduceCtorEq, Int.reduceBEq, Int.reduceBNe, Int.reduceLT, Int.reduceLE, Int.reduceGT, Int.reduceGE, aggT_34, sizeT_34, bytesT_34, und_34, elemT_34, isSliceT_34, zero1_34, zeroT_34, aggT_36, sizeT_36, bytesT_36, fieldT_36_0, fieldT_36_1, placesT_36, zeroT_36, aggT_110, sizeT_110, bytesT_110, fieldT_110_0, fieldT_110_1, placesT_110, zeroT_110, aggT_3, sizeT_3, bytesT_3, und_3, zero1_3, zeroT_3, h0, hl, Int.toNat_natCast, hk, lvD, a1]
    (refine Eq.trans ?_ rfl; kernel_rfl)
  by_cases a2 : y.v ≥ 1200
  · simp only [zS, nilEq, wantedA, opA, eff, boxA, cells, ev, gt, pt, putO, updO, setO, okC, loadA, cutC, fieldAddrA, fieldA, indexAddrA, indexA, builtinA, callOpA, callV, target, ptrV, lenS, binA, intOp, strOp, unA, num, lk, over, allocA, pickA, buildA, fillA, convertA, extractA, ofComp, nilCheckA, makeFuncA, ptrs, ofValue, cellB, Nat.reduceAdd, Nat.reduceSub, Nat.reduceMul, Nat.reduceLT, Nat.reduceLeDiff, Nat.reduceGT, ↓reduceIte, Nat.reduceEqDiff, Nat.reduceBEq, reduceCtorEq, Int.reduceBEq, Int.reduceBNe, Int.reduceLT, Int.reduceLE, Int.reduceGT, Int.reduceGE, aggT_34, sizeT_34, bytesT_34, und_34, elemT_34, isSliceT_34, zero1_34, zeroT_34, aggT_36, sizeT_36, bytesT_36, fieldT_36_0, fieldT_36_1, placesT_36, zeroT_36, aggT_110, sizeT_110, bytesT_110, fieldT_110_0, fieldT_110_1, placesT_110, zeroT_110, aggT_3, sizeT_3, bytesT_3, und_3, zero1_3, zeroT_3, h0, hl, Int.toNat_natCast, hk, lvD, a1, a2]
    (refine Eq.trans ?_ rfl; kernel_rfl)
  by_cases a3 : y.p < 0
  · simp only [zS, nilEq, wantedA, opA, eff, boxA, cells, ev, gt, pt, putO, updO, setO, okC, loadA, cutC, fieldAddrA, fieldA, indexAddrA, indexA, builtinA, callOpA, callV, target, ptrV, lenS, binA, intOp, strOp, unA, num, lk, over, allocA, pickA, buildA, fillA, convertA, extractA, ofComp, nilCheckA, makeFuncA, ptrs, ofValue, cellB, Nat.reduceAdd, Nat.reduceSub, Nat.reduceMul, Nat.reduceLT, Nat.reduceLeDiff, Nat.reduceGT, ↓reduceIte, Nat.reduceEqDiff, Nat.reduceBEq, reduceCtorEq, Int.reduceBEq, Int.reduceBNe, Int.reduceLT, Int.reduceLE, Int.reduceGT, Int.reduceGE, aggT_34, sizeT_34, bytesT_34, und_34, elemT_34, isSliceT_34, zero1_34, zeroT_34, aggT_36, sizeT_36, bytesT_36, fieldT_36_0, fieldT_36_1, placesT_36, zeroT_36, aggT_110, sizeT_110, bytesT_110, fieldT_110_0, fieldT_110_1, placesT_110, zeroT_110, aggT_3, sizeT_3, bytesT_3, und_3, zero1_3, zeroT_3, h0, hl, Int.toNat_natCast, hk, lvD, a1, a2, a3]
    (refine Eq.trans ?_ rfl; kernel_rfl)
  by_cases a4 : y.p > 1000
  · simp only [zS, nilEq, wantedA, opA, eff, boxA, cells, ev, gt, pt, putO, updO, setO, okC, loadA, cutC, fieldAddrA, fieldA, indexAddrA, indexA, builtinA, callOpA, callV, target, ptrV, lenS, binA, intOp, strOp, unA, num, lk, over, allocA, pickA, buildA, fillA, convertA, extractA, ofComp, nilCheckA, makeFuncA, ptrs, ofValue, cellB, Nat.reduceAdd, Nat.reduceSub, Nat.reduceMul, Nat.reduceLT, Nat.reduceLeDiff, Nat.reduceGT, ↓reduceIte, Nat.reduceEqDiff, Nat.reduceBEq, reduceCtorEq, Int.reduceBEq, Int.reduceBNe, Int.reduceLT, Int.reduceLE, Int.reduceGT, Int.reduceGE, aggT_34, sizeT_34, bytesT_34, und_34, elemT_34, isSliceT_34, zero1_34, zeroT_34, aggT_36, sizeT_36, bytesT_36, fieldT_36_0, fieldT_36_1, placesT_36, zeroT_36, aggT_110, sizeT_110, bytesT_110, fieldT_110_0, fieldT_110_1, placesT_110, zeroT_110, aggT_3, sizeT_3, bytesT_3, und_3, zero1_3, zeroT_3, h0, hl, Int.toNat_natCast, hk, lvD, a1, a2, a3, a4]
    (refine Eq.trans ?_ rfl; kernel_rfl)
  simp [okLV] at hb; omega
theorem ok126a (x : Lev) (y : LV) (k : Nat) (hk : x.vs[k]? = some y) (hl : (k : Int) < x.vs.length) (hb : okLV y = true) (out : Option Out) (h : H126b ext 0 (E126b k 0) (O126b x y) = out) : H126a ext 0 (E126 k) (O120 x) = out := by
  have h0 : (0 : Int) ≤ k := by omega
  have hd : listD x.z 2 (x.vs.map lvD) = .s 2 (x.vs.map lvD) := listD_of_lt h0 (by simpa using hl)
  simp [okLV] at hb
  have a1 : ¬ y.v < 0 := by omega
  have a2 : ¬ y.v ≥ 1200 := by omega
  have a3 : ¬ y.p < 0 := by omega
  have a4 : ¬ y.p > 1000 := by omega
  unfold H126a
  unfold H126b at h
  simp only [dV, E126, E126b, O126b, O120, levC, lvC, Lev.d, iV, bV, hd] at h ⊢
  (rw [show (It.code L126a) = It.code (sub B126 [1, 1, 0, 1, 0, 0]) from rfl]; simp only [B126, K126a, sub, Option.getD_some, Tryz.f126, ↓reduceIte, Nat.one_ne_zero])
  simp only [zS, nilEq, wantedA, opA, eff, boxA, cells, ev, gt, pt, putO, updO, setO, okC, loadA, cutC, fieldAddrA, fieldA, indexAddrA, indexA, builtinA, callOpA, callV, target, ptrV, lenS, binA, intOp, strOp, unA, num, lk, over, allocA, pickA, buildA, fillA, convertA, extractA, ofComp, nilCheckA, makeFuncA, ptrs, ofValue, cellB, Nat.reduceAdd, Nat.reduceSub, Nat.reduceMul, Nat.reduceLT, Nat.reduceLeDiff, Nat.reduceGT, ↓reduceIte, Nat.reduceEqDiff, Nat.reduceBEq, reduceCtorEq, Int.reduceBEq, Int.reduceBNe, Int.reduceLT, Int.reduceLE, Int.reduceGT, Int.reduceGE, aggT_34, sizeT_34, bytesT_34, und_34, elemT_34, isSliceT_34, zero1_34, zeroT_34, aggT_36, sizeT_36, bytesT_36, fieldT_36_0, fieldT_36_1, placesT_36, zeroT_36, aggT_110, sizeT_110, bytesT_110, fieldT_110_0, fieldT_110_1, placesT_110, zeroT_110, aggT_3, sizeT_3, bytesT_3, und_3, zero1_3, zeroT_3, h0, hl, Int.toNat_natCast, hk, lvD, a1, a2, a3, a4]
  (refine (r_inLoop_some ?_).trans h; kernel_rfl)
theorem step126b (x : Lev) (y w : LV) (k j : Nat) (hj : x.vs[j]? = some w) (hjk : (j : Int) < k) (hl : (j : Int) < x.vs.length) :
    ((w.v == y.v) = true → H126b ext 0 (E126b k j) (O126b x y) = some (.ret [bV false] [])) ∧ ((w.v == y.v) = false → ∀ out, H126b ext 0 (E126b k (wr ((j : Int) + 1))) (O126b x y) = out → H126b ext 0 (E126b k j) (O126b x y) = out) := by
  have h0 : (0 : Int) ≤ j := by omega
  have hd : listD x.z 2 (x.vs.map lvD) = .s 2 (x.vs.map lvD) := listD_of_lt h0 (by simpa using hl)
  unfold H126b
  refine ⟨fun hp => ?_, fun hp out h => ?_⟩
  · simp only [dV, E126b, O126b, levC, lvC, Lev.d, iV, bV, hd]
    (rw [show (It.code L126b) = It.code (sub B126 [1, 1, 0, 1, 0, 0, 1, 0, 0, 1, 1, 1, 0, 0]) from rfl]; simp only [B126, K126b, sub, Option.getD_some, Tryz.f126, ↓reduceIte, Nat.one_ne_zero])
    simp only [zS, nilEq, wantedA, opA, eff, boxA, cells, ev, gt, pt, putO, updO, setO, okC, loadA, cutC, fieldAddrA, fieldA, indexAddrA, indexA, builtinA, callOpA, callV, target, ptrV, lenS, binA, intOp, strOp, unA, num, lk, over, allocA, pickA, buildA, fillA, convertA, extractA, ofComp, nilCheckA, makeFuncA, ptrs, ofValue, cellB, Nat.reduceAdd, Nat.reduceSub, Nat.reduceMul, Nat.reduceLT, Nat.reduceLeDiff, Nat.reduceGT, ↓reduceIte, Nat.reduceEqDiff, Nat.reduceBEq, reduceCtorEq, Int.reduceBEq, Int.reduceBNe, Int.reduceLT, Int.reduceLE, Int.reduceGT, Int.reduceGE, aggT_34, sizeT_34, bytesT_34, und_34, elemT_34, isSliceT_34, zero1_34, zeroT_34, aggT_36, sizeT_36, bytesT_36, fieldT_36_0, fieldT_36_1, placesT_36, zeroT_36, aggT_110, sizeT_110, bytesT_110, fieldT_110_0, fieldT_110_1, placesT_110, zeroT_110, aggT_3, sizeT_3, bytesT_3, und_3, zero1_3, zeroT_3, drawA, holes_succ, holes_zero, Array.size, List.length, h0, hl, hjk, Int.toNat_natCast, hj, lvD, hp]
    rw [afterDraw_some _ _ _ _ (by kernel_rfl)]
    simp only [zS, nilEq, wantedA, opA, eff, boxA, cells, ev, gt, pt, putO, updO, setO, okC, loadA, cutC, fieldAddrA, fieldA, indexAddrA, indexA, builtinA, callOpA, callV, target, ptrV, lenS, binA, intOp, strOp, unA, num, lk, over, allocA, pickA, buildA, fillA, convertA, extractA, ofComp, nilCheckA, makeFuncA, ptrs, ofValue, cellB, Nat.reduceAdd, Nat.reduceSub, Nat.reduceMul, Nat.reduceLT, Nat.reduceLeDiff, Nat.reduceGT, ↓reduceIte, Nat.reduceEqDiff, Nat.reduceBEq, reduceCtorEq, Int.reduceBEq, Int.reduceBNe, Int.reduceLT, Int.reduceLE, Int.reduceGT, Int.reduceGE]
    (refine Eq.trans ?_ rfl; kernel_rfl)
  · simp only [dV, E126b, O126b, levC, lvC, Lev.d, iV, bV, hd] at h ⊢
    (rw [show (It.code L126b) = It.code (sub B126 [1, 1, 0, 1, 0, 0, 1, 0, 0, 1, 1, 1, 0, 0]) from rfl]; simp only [B126, K126b, sub, Option.getD_some, Tryz.f126, ↓reduceIte, Nat.one_ne_zero])
    simp only [zS, nilEq, wantedA, opA, eff, boxA, cells, ev, gt, pt, putO, updO, setO, okC, loadA, cutC, fieldAddrA, fieldA, indexAddrA, indexA, builtinA, callOpA, callV, target, ptrV, lenS, binA, intOp, strOp, unA, num, lk, over, allocA, pickA, buildA, fillA, convertA, extractA, ofComp, nilCheckA, makeFuncA, ptrs, ofValue, cellB, Nat.reduceAdd, Nat.reduceSub, Nat.reduceMul, Nat.reduceLT, Nat.reduceLeDiff, Nat.reduceGT, ↓reduceIte, Nat.reduceEqDiff, Nat.reduceBEq, reduceCtorEq, Int.reduceBEq, Int.reduceBNe, Int.reduceLT, Int.reduceLE, Int.reduceGT, Int.reduceGE, aggT_34, sizeT_34, bytesT_34, und_34, elemT_34, isSliceT_34, zero1_34, zeroT_34, aggT_36, sizeT_36, bytesT_36, fieldT_36_0, fieldT_36_1, placesT_36, zeroT_36, aggT_110, sizeT_110, bytesT_110, fieldT_110_0, fieldT_110_1, placesT_110, zeroT_110, aggT_3, sizeT_3, bytesT_3, und_3, zero1_3, zeroT_3, drawA, holes_succ, holes_zero, Array.size, List.length, h0, hl, hjk, Int.toNat_natCast, hj, lvD, hp]
    rw [afterDraw_some _ _ _ _ (by kernel_rfl)]
    simp only [zS, nilEq, wantedA, opA, eff, boxA, cells, ev, gt, pt, putO, updO, setO, okC, loadA, cutC, fieldAddrA, fieldA, indexAddrA, indexA, builtinA, callOpA, callV, target, ptrV, lenS, binA, intOp, strOp, unA, num, lk, over, allocA, pickA, buildA, fillA, convertA, extractA, ofComp, nilCheckA, makeFuncA, ptrs, ofValue, cellB, Nat.reduceAdd, Nat.reduceSub, Nat.reduceMul, Nat.reduceLT, Nat.reduceLeDiff, Nat.reduceGT, ↓reduceIte, Nat.reduceEqDiff, Nat.reduceBEq, reduceCtorEq, Int.reduceBEq, Int.reduceBNe, Int.reduceLT, Int.reduceLE, Int.reduceGT, Int.reduceGE]
    (refine (r_inLoop_some ?_).trans h; kernel_rfl)
theorem done126b (x : Lev) (y : LV) (k : Nat) (out : Option Out) (h : H126a ext 0 (E126 (wr ((k : Int) + 1))) (O120 x) = out) : H126b ext 0 (E126b k k) (O126b x y) = out := by
  unfold H126b
  unfold H126a at h
  simp only [dV, E126, E126b, O126b, O120, levC, lvC, Lev.d, iV, bV] at h ⊢
  (rw [show (It.code L126b) = It.code (sub B126 [1, 1, 0, 1, 0, 0, 1, 0, 0, 1, 1, 1, 0, 0]) from rfl]; simp only [B126, K126b, sub, Option.getD_some, Tryz.f126, ↓reduceIte, Nat.one_ne_zero])
  simp only [zS, nilEq, wantedA, opA, eff, boxA, cells, ev, gt, pt, putO, updO, setO, okC, loadA, cutC, fieldAddrA, fieldA, indexAddrA, indexA, builtinA, callOpA, callV, target, ptrV, lenS, binA, intOp, strOp, unA, num, lk, over, allocA, pickA, buildA, fillA, convertA, extractA, ofComp, nilCheckA, makeFuncA, ptrs, ofValue, cellB, Nat.reduceAdd, Nat.reduceSub, Nat.reduceMul, Nat.reduceLT, Nat.reduceLeDiff, Nat.reduceGT, ↓reduceIte, Nat.reduceEqDiff, Nat.reduceBEq, reduceCtorEq, Int.reduceBEq, Int.reduceBNe, Int.reduceLT, Int.reduceLE, Int.reduceGT, Int.reduceGE, aggT_34, sizeT_34, bytesT_34, und_34, elemT_34, isSliceT_34, zero1_34, zeroT_34, aggT_36, sizeT_36, bytesT_36, fieldT_36_0, fieldT_36_1, placesT_36, zeroT_36, aggT_110, sizeT_110, bytesT_110, fieldT_110_0, fieldT_110_1, placesT_110, zeroT_110, aggT_3, sizeT_3, bytesT_3, und_3, zero1_3, zeroT_3, Int.lt_irrefl]
  (refine (r_inLoop_some ?_).trans h; kernel_rfl)
theorem done126 (x : Lev) : H126a ext 0 (E126 x.vs.length) (O120 x) = some (.ret [bV true] []) := by
  unfold H126a
  simp only [dV, E126, O120, levC, Lev.d, iV, bV]
  (rw [show (It.code L126a) = It.code (sub B126 [1, 1, 0, 1, 0, 0]) from rfl]; simp only [B126, K126a, sub, Option.getD_some, Tryz.f126, ↓reduceIte, Nat.one_ne_zero])
  simp only [zS, nilEq, wantedA, opA, eff, boxA, cells, ev, gt, pt, putO, updO, setO, okC, loadA, cutC, fieldAddrA, fieldA, indexAddrA, indexA, builtinA, callOpA, callV, target, ptrV, lenS, binA, intOp, strOp, unA, num, lk, over, allocA, pickA, buildA, fillA, convertA, extractA, ofComp, nilCheckA, makeFuncA, ptrs, ofValue, cellB, Nat.reduceAdd, Nat.reduceSub, Nat.reduceMul, Nat.reduceLT, Nat.reduceLeDiff, Nat.reduceGT, ↓reduceIte, Nat.reduceEqDiff, Nat.reduceBEq, reduceCtorEq, Int.reduceBEq, Int.reduceBNe, Int.reduceLT, Int.reduceLE, Int.reduceGT, Int.reduceGE, aggT_34, sizeT_34, bytesT_34, und_34, elemT_34, isSliceT_34, zero1_34, zeroT_34, aggT_36, sizeT_36, bytesT_36, fieldT_36_0, fieldT_36_1, placesT_36, zeroT_36, aggT_110, sizeT_110, bytesT_110, fieldT_110_0, fieldT_110_1, placesT_110, zeroT_110, aggT_3, sizeT_3, bytesT_3, und_3, zero1_3, zeroT_3, Int.lt_irrefl]
  (refine Eq.trans ?_ rfl; kernel_rfl)
theorem step126 (x : Lev) (y : LV) (k : Nat) (hk : x.vs[k]? = some y) (hl : (k : Int) < x.vs.length) (hs : x.vs.length < 2 ^ 62) :
    (badLV x.vs k y = true → H126a ext 0 (E126 k) (O120 x) = some (.ret [bV false] [])) ∧ (badLV x.vs k y = false → ∀ out, H126a ext 0 (E126 (wr ((k : Int) + 1))) (O120 x) = out → H126a ext 0 (E126 k) (O120 x) = out) := by
  cases hok : okLV y with
  | false => exact ⟨fun _ => bad126a ext x y k hk hl hok, fun hp => by simp [badLV, hok] at hp⟩
  | true =>
    have hlen : (x.vs.take k).length = k := by simp; omega
    have key : ∀ out, H126a ext 0 (E126 (wr ((k : Int) + 1))) (O120 x) = out → H126b ext 0 (E126b k 0) (O126b x y) = match (x.vs.take k).findIdx? (fun w => w.v == y.v) with | some _ => some (.ret [bV false] []) | none => out := by
      intro out h
      refine loop_find (x.vs.take k) (fun j => H126b ext 0 (E126b k j) (O126b x y)) (fun w => w.v == y.v) (fun _ => some (.ret [bV false] [])) out (by omega) (fun j w hj hjl => ?_) ?_
      · rw [hlen] at hjl
        have hj' : x.vs[j]? = some w := by rw [List.getElem?_take_of_lt (by omega)] at hj; exact hj
        exact step126b ext x y w k j hj' hjl (by omega)
      · rw [hlen]; exact done126b ext x y k out h
    have hany := find_some (l := x.vs.take k) (p := fun w : LV => w.v == y.v)
    refine ⟨fun hp => ?_, fun hp out h => ?_⟩
    · refine ok126a ext x y k hk hl hok _ ?_
      rw [key _ rfl]
      have : (x.vs.take k).any (fun w => w.v == y.v) = true := by simpa [badLV, hok] using hp
      rw [← hany] at this
      cases hf : (x.vs.take k).findIdx? (fun w => w.v == y.v) with
      | none => rw [hf] at this; cases this
      | some i => rfl
    · refine ok126a ext x y k hk hl hok _ ?_
      rw [key _ h]
      have : (x.vs.take k).any (fun w => w.v == y.v) = false := by simpa [badLV, hok] using hp
      rw [← hany] at this
      cases hf : (x.vs.take k).findIdx? (fun w => w.v == y.v) with
      | none => rfl
      | some i => rw [hf] at this; cases this
theorem valid126 (hx : ext 126 = none) (x : Lev) : run Tryz.prog ext (.call 126 [levV x] []) = some (.ret [bV x.valid] []) := by
  by_cases h : x.c < 0 ∨ x.c > 1000 ∨ (x.vs.length : Int) > 8
  · rw [bad126 ext hx x h]
    have : x.valid = false := by
      unfold Lev.valid
      rcases h with h | h | h
      · have : decide (0 ≤ x.c) = false := decide_eq_false (by omega)
        simp [this]
      · have : decide (x.c ≤ 1000) = false := decide_eq_false (by omega)
        simp [this]
      · have : decide (x.vs.length ≤ 8) = false := decide_eq_false (by omega)
        simp [this]
    rw [this]
  · have a1 : ¬ x.c < 0 := fun e => h (.inl e)
    have a2 : ¬ x.c > 1000 := fun e => h (.inr (.inl e))
    have a3 : ¬ (x.vs.length : Int) > 8 := fun e => h (.inr (.inr e))
    refine enter126 ext hx x _ a1 a2 a3 ?_
    have := loop_findK x.vs (fun k => H126a ext 0 (E126 k) (O120 x)) (badLV x.vs) (fun _ => some (.ret [bV false] [])) (some (.ret [bV true] [])) (by omega) (fun k y hk hl => step126 ext x y k hk hl (by omega)) (done126 ext x)
    rw [this]
    have b1 : decide (0 ≤ x.c) = true := decide_eq_true (by omega)
    have b2 : decide (x.c ≤ 1000) = true := decide_eq_true (by omega)
    have b3 : decide (x.vs.length ≤ 8) = true := decide_eq_true (by omega)
    unfold Lev.valid
    rw [b1, b2, b3]
    cases idxFrom (badLV x.vs) 0 x.vs <;> rfl
/-! ### most, canonical -/
def mx (a b : Int) : Int := if b > a then b else a
def mostI (l : List LV) : Int := l.foldl (fun m x => mx m x.p) (-1)
def E195 (z : Bool) (l : List LV) (m k : Int) : Env := [(3, iV m), (6, dV (listD z 2 (l.map lvD))), (7, iV l.length), (8, iV k)]
theorem enter195 (hx : ext 195 = none) (z : Bool) (l : List LV) (out : Option Out) (h : H195a ext 0 (E195 z l (-1) 0) [] = out) : run Tryz.prog ext (.call 195 [dV (listD z 2 (l.map lvD))] []) = out := by
  unfold H195a at h
  (rw [run_eq]; simp only [stepA, hx, Tryz.func195, Tryz.f195, show retF 195 = false from rfl]; simp only [List.length_cons, List.length_nil, Nat.reduceAdd, Nat.reduceLeDiff, Nat.zero_le, ↓reduceIte, List.zipIdx_cons, List.zipIdx_nil, List.map_cons, List.map_nil])
  simp only [dV, E195, iV] at h ⊢
  simp only [zS, nilEq, wantedA, opA, eff, boxA, cells, ev, gt, pt, putO, updO, setO, okC, loadA, cutC, fieldAddrA, fieldA, indexAddrA, indexA, builtinA, callOpA, callV, target, ptrV, lenS, binA, intOp, strOp, unA, num, lk, over, allocA, pickA, buildA, fillA, convertA, extractA, ofComp, nilCheckA, makeFuncA, ptrs, ofValue, cellB, Nat.reduceAdd, Nat.reduceSub, Nat.reduceMul, Nat.reduceLT, Nat.reduceLeDiff, Nat.reduceGT, ↓reduceIte, Nat.reduceEqDiff, Nat.reduceBEq, reduceCtorEq, Int.reduceBEq, Int.reduceBNe, Int.reduceLT, Int.reduceLE, Int.reduceGT, Int.reduceGE, aggT_144, sizeT_144, bytesT_144, und_144, elemT_144, isSliceT_144, zero1_144, zeroT_144, aggT_34, sizeT_34, bytesT_34, und_34, elemT_34, isSliceT_34, zero1_34, zeroT_34, aggT_110, sizeT_110, bytesT_110, fieldT_110_0, fieldT_110_1, placesT_110, zeroT_110, aggT_3, sizeT_3, bytesT_3, und_3, zero1_3, zeroT_3]
  (refine (r_inLoop_some ?_).trans h; kernel_rfl)
theorem step195 (z : Bool) (l : List LV) (x : LV) (m : Int) (k : Nat) (hk : l[k]? = some x) (hl : (k : Int) < l.length) (out : Option Out) (h : H195a ext 0 (E195 z l (mx m x.p) (wr ((k : Int) + 1))) [] = out) : H195a ext 0 (E195 z l m k) [] = out := by
  have h0 : (0 : Int) ≤ k := by omega
  have hd : listD z 2 (l.map lvD) = .s 2 (l.map lvD) := listD_of_lt h0 (by simpa using hl)
  unfold H195a at h ⊢
  simp only [dV, E195, iV, mx, hd] at h ⊢
  (rw [show (It.code L195a) = It.code (sub B195 [1, 1, 0, 1, 0, 0]) from rfl]; simp only [B195, K195a, sub, Option.getD_some, Tryz.f195, ↓reduceIte, Nat.one_ne_zero])
  simp only [zS, nilEq, wantedA, opA, eff, boxA, cells, ev, gt, pt, putO, updO, setO, okC, loadA, cutC, fieldAddrA, fieldA, indexAddrA, indexA, builtinA, callOpA, callV, target, ptrV, lenS, binA, intOp, strOp, unA, num, lk, over, allocA, pickA, buildA, fillA, convertA, extractA, ofComp, nilCheckA, makeFuncA, ptrs, ofValue, cellB, Nat.reduceAdd, Nat.reduceSub, Nat.reduceMul, Nat.reduceLT, Nat.reduceLeDiff, Nat.reduceGT, ↓reduceIte, Nat.reduceEqDiff, Nat.reduceBEq, reduceCtorEq, Int.reduceBEq, Int.reduceBNe, Int.reduceLT, Int.reduceLE, Int.reduceGT, Int.reduceGE, aggT_144, sizeT_144, bytesT_144, und_144, elemT_144, isSliceT_144, zero1_144, zeroT_144, aggT_34, sizeT_34, bytesT_34, und_34, elemT_34, isSliceT_34, zero1_34, zeroT_34, aggT_110, sizeT_110, bytesT_110, fieldT_110_0, fieldT_110_1, placesT_110, zeroT_110, aggT_3, sizeT_3, bytesT_3, und_3, zero1_3, zeroT_3, maxA, h0, hl, Int.toNat_natCast, hk, lvD]
  (refine (r_inLoop_some ?_).trans h; kernel_rfl)
theorem most195 (hx : ext 195 = none) (z : Bool) (l : List LV) (hs : l.length < 2 ^ 62) : run Tryz.prog ext (.call 195 [dV (listD z 2 (l.map lvD))] []) = some (.ret [iV (mostI l)] []) := by
  refine enter195 ext hx z l _ ?_
  have hd : ∀ m, H195a ext 0 (E195 z l m l.length) [] = some (.ret [iV m] []) := by
    intro m
    unfold H195a
    simp only [dV, E195, iV]
    (rw [show (It.code L195a) = It.code (sub B195 [1, 1, 0, 1, 0, 0]) from rfl]; simp only [B195, K195a, sub, Option.getD_some, Tryz.f195, ↓reduceIte, Nat.one_ne_zero])
    simp only [zS, nilEq, wantedA, opA, eff, boxA, cells, ev, gt, pt, putO, updO, setO, okC, loadA, cutC, fieldAddrA, fieldA, indexAddrA, indexA, builtinA, callOpA, callV, target, ptrV, lenS, binA, intOp, strOp, unA, num, lk, over, allocA, pickA, buildA, fillA, convertA, extractA, ofComp, nilCheckA, makeFuncA, ptrs, ofValue, cellB, Nat.reduceAdd, Nat.reduceSub, Nat.reduceMul, Nat.reduceLT, Nat.reduceLeDiff, Nat.reduceGT, ↓reduceIte, Nat.reduceEqDiff, Nat.reduceBEq, reduceCtorEq, Int.reduceBEq, Int.reduceBNe, Int.reduceLT, Int.reduceLE, Int.reduceGT, Int.reduceGE, aggT_144, sizeT_144, bytesT_144, und_144, elemT_144, isSliceT_144, zero1_144, zeroT_144, aggT_34, sizeT_34, bytesT_34, und_34, elemT_34, isSliceT_34, zero1_34, zeroT_34, aggT_110, sizeT_110, bytesT_110, fieldT_110_0, fieldT_110_1, placesT_110, zeroT_110, aggT_3, sizeT_3, bytesT_3, und_3, zero1_3, zeroT_3, Int.lt_irrefl]
    (refine Eq.trans ?_ rfl; kernel_rfl)
  have := loop_foldE (ρ := Unit) l (fun k m => H195a ext 0 (E195 z l m k) []) (fun m x => .inl (mx m x.p)) (fun _ => none) (fun m => some (.ret [iV m] [])) hs (fun k x m hk hl => fun out h => step195 ext z l x m k hk hl out h) hd (-1)
  rw [this]
  have hf : ∀ (l : List LV) (m : Int), foldE (ρ := Unit) (fun m x => .inl (mx m x.p)) m l = .inl (l.foldl (fun m x => mx m x.p) m) := by
    intro l
    induction l with
    | nil => intro m; rfl
    | cons a l ih => intro m; exact ih _
  rw [hf]; rfl
theorem z8 : ¬ ((0 : Int) > 8) := by decide
def canonP (c : Int) (l : List LV) (z : Bool) : Lev × Int :=
  if (if c ≤ mostI l then 0 else c) > 1000 ∨ mostI l > 1000 ∨ (l.length : Int) > 8 then (zLev, 2) else (⟨if c ≤ mostI l then 0 else c, l, z || l.isEmpty⟩, 0)
theorem canon125 (hx : ext 125 = none) (hx1 : ext 195 = none) (c : Int) (l : List LV) (z : Bool) (hs : l.length < 2 ^ 62) : run Tryz.prog ext (.call 125 [iV c, dV (listD z 2 (l.map lvD))] []) = some (.ret [levV (canonP c l z).1, iV (canonP c l z).2] []) := by
  have hr := most195 ext hx1 z l hs
  generalize hm : mostI l = m at hr
  by_cases h1 : c ≤ m
  · by_cases h3 : m > 1000
    · have e : canonP c l z = (zLev, 2) := by unfold canonP; rw [if_pos (by rw [hm]; exact .inr (.inl h3))]
      rw [e]
      (rw [run_eq]; simp only [stepA, hx, Tryz.func125, Tryz.f125, show retF 125 = false from rfl]; simp only [List.length_cons, List.length_nil, Nat.reduceAdd, Nat.reduceLeDiff, Nat.zero_le, ↓reduceIte, List.zipIdx_cons, List.zipIdx_nil, List.map_cons, List.map_nil])
      simp only [dV, iV, levV, levC_z] at hr ⊢
      simp only [zS, nilEq, wantedA, opA, eff, boxA, cells, ev, gt, pt, putO, updO, setO, okC, loadA, cutC, fieldAddrA, fieldA, indexAddrA, indexA, builtinA, callOpA, callV, target, ptrV, lenS, binA, intOp, strOp, unA, num, lk, over, allocA, pickA, buildA, fillA, convertA, extractA, ofComp, nilCheckA, makeFuncA, ptrs, ofValue, cellB, Nat.reduceAdd, Nat.reduceSub, Nat.reduceMul, Nat.reduceLT, Nat.reduceLeDiff, Nat.reduceGT, ↓reduceIte, Nat.reduceEqDiff, Nat.reduceBEq, reduceCtorEq, Int.reduceBEq, Int.reduceBNe, Int.reduceLT, Int.reduceLE, Int.reduceGT, Int.reduceGE, aggT_144, sizeT_144, bytesT_144, und_144, elemT_144, isSliceT_144, zero1_144, zeroT_144, aggT_34, sizeT_34, bytesT_34, und_34, elemT_34, isSliceT_34, zero1_34, zeroT_34, aggT_36, sizeT_36, bytesT_36, fieldT_36_0, fieldT_36_1, placesT_36, zeroT_36, aggT_110, sizeT_110, bytesT_110, fieldT_110_0, fieldT_110_1, placesT_110, zeroT_110, aggT_3, sizeT_3, bytesT_3, und_3, zero1_3, zeroT_3, hr, h1, h3]
      (refine Eq.trans ?_ rfl; kernel_rfl)
    by_cases h4 : (l.length : Int) > 8
    · have e : canonP c l z = (zLev, 2) := by unfold canonP; rw [if_pos (by rw [hm]; exact .inr (.inr h4))]
      rw [e]
      (rw [run_eq]; simp only [stepA, hx, Tryz.func125, Tryz.f125, show retF 125 = false from rfl]; simp only [List.length_cons, List.length_nil, Nat.reduceAdd, Nat.reduceLeDiff, Nat.zero_le, ↓reduceIte, List.zipIdx_cons, List.zipIdx_nil, List.map_cons, List.map_nil])
      simp only [dV, iV, levV, levC_z] at hr ⊢
      simp only [zS, nilEq, wantedA, opA, eff, boxA, cells, ev, gt, pt, putO, updO, setO, okC, loadA, cutC, fieldAddrA, fieldA, indexAddrA, indexA, builtinA, callOpA, callV, target, ptrV, lenS, binA, intOp, strOp, unA, num, lk, over, allocA, pickA, buildA, fillA, convertA, extractA, ofComp, nilCheckA, makeFuncA, ptrs, ofValue, cellB, Nat.reduceAdd, Nat.reduceSub, Nat.reduceMul, Nat.reduceLT, Nat.reduceLeDiff, Nat.reduceGT, ↓reduceIte, Nat.reduceEqDiff, Nat.reduceBEq, reduceCtorEq, Int.reduceBEq, Int.reduceBNe, Int.reduceLT, Int.reduceLE, Int.reduceGT, Int.reduceGE, aggT_144, sizeT_144, bytesT_144, und_144, elemT_144, isSliceT_144, zero1_144, zeroT_144, aggT_34, sizeT_34, bytesT_34, und_34, elemT_34, isSliceT_34, zero1_34, zeroT_34, aggT_36, sizeT_36, bytesT_36, fieldT_36_0, fieldT_36_1, placesT_36, zeroT_36, aggT_110, sizeT_110, bytesT_110, fieldT_110_0, fieldT_110_1, placesT_110, zeroT_110, aggT_3, sizeT_3, bytesT_3, und_3, zero1_3, zeroT_3, hr, h1, h3, h4]
      (refine Eq.trans ?_ rfl; kernel_rfl)
    have e : canonP c l z = (⟨0, l, z || l.isEmpty⟩, 0) := by unfold canonP; rw [hm, if_pos h1, if_neg (show ¬ ((0 : Int) > 1000 ∨ m > 1000 ∨ (l.length : Int) > 8) by omega)]
    rw [e]
    by_cases h5 : (l.length : Int) = 0
    · have hl : l = [] := List.eq_nil_of_length_eq_zero (by omega)
      subst hl
      (rw [run_eq]; simp only [stepA, hx, Tryz.func125, Tryz.f125, show retF 125 = false from rfl]; simp only [List.length_cons, List.length_nil, Nat.reduceAdd, Nat.reduceLeDiff, Nat.zero_le, ↓reduceIte, List.zipIdx_cons, List.zipIdx_nil, List.map_cons, List.map_nil])
      simp only [dV, iV, levV, levC, Lev.d, List.map_nil, List.isEmpty_nil, Bool.or_true] at hr ⊢
      simp only [zS, nilEq, wantedA, opA, eff, boxA, cells, ev, gt, pt, putO, updO, setO, okC, loadA, cutC, fieldAddrA, fieldA, indexAddrA, indexA, builtinA, callOpA, callV, target, ptrV, lenS, binA, intOp, strOp, unA, num, lk, over, allocA, pickA, buildA, fillA, convertA, extractA, ofComp, nilCheckA, makeFuncA, ptrs, ofValue, cellB, Nat.reduceAdd, Nat.reduceSub, Nat.reduceMul, Nat.reduceLT, Nat.reduceLeDiff, Nat.reduceGT, ↓reduceIte, Nat.reduceEqDiff, Nat.reduceBEq, reduceCtorEq, Int.reduceBEq, Int.reduceBNe, Int.reduceLT, Int.reduceLE, Int.reduceGT, Int.reduceGE, aggT_144, sizeT_144, bytesT_144, und_144, elemT_144, isSliceT_144, zero1_144, zeroT_144, aggT_34, sizeT_34, bytesT_34, und_34, elemT_34, isSliceT_34, zero1_34, zeroT_34, aggT_36, sizeT_36, bytesT_36, fieldT_36_0, fieldT_36_1, placesT_36, zeroT_36, aggT_110, sizeT_110, bytesT_110, fieldT_110_0, fieldT_110_1, placesT_110, zeroT_110, aggT_3, sizeT_3, bytesT_3, und_3, zero1_3, zeroT_3, hr, h1, h3, z8, Int.natCast_zero]
      (refine Eq.trans ?_ rfl; kernel_rfl)
    · have hne : l.map lvD ≠ [] := by intro e; rw [List.map_eq_nil_iff] at e; simp [e] at h5
      (rw [run_eq]; simp only [stepA, hx, Tryz.func125, Tryz.f125, show retF 125 = false from rfl]; simp only [List.length_cons, List.length_nil, Nat.reduceAdd, Nat.reduceLeDiff, Nat.zero_le, ↓reduceIte, List.zipIdx_cons, List.zipIdx_nil, List.map_cons, List.map_nil])
      simp only [dV, iV, levV, levC, Lev.d, listD_ne hne] at hr ⊢
      simp only [zS, nilEq, wantedA, opA, eff, boxA, cells, ev, gt, pt, putO, updO, setO, okC, loadA, cutC, fieldAddrA, fieldA, indexAddrA, indexA, builtinA, callOpA, callV, target, ptrV, lenS, binA, intOp, strOp, unA, num, lk, over, allocA, pickA, buildA, fillA, convertA, extractA, ofComp, nilCheckA, makeFuncA, ptrs, ofValue, cellB, Nat.reduceAdd, Nat.reduceSub, Nat.reduceMul, Nat.reduceLT, Nat.reduceLeDiff, Nat.reduceGT, ↓reduceIte, Nat.reduceEqDiff, Nat.reduceBEq, reduceCtorEq, Int.reduceBEq, Int.reduceBNe, Int.reduceLT, Int.reduceLE, Int.reduceGT, Int.reduceGE, aggT_144, sizeT_144, bytesT_144, und_144, elemT_144, isSliceT_144, zero1_144, zeroT_144, aggT_34, sizeT_34, bytesT_34, und_34, elemT_34, isSliceT_34, zero1_34, zeroT_34, aggT_36, sizeT_36, bytesT_36, fieldT_36_0, fieldT_36_1, placesT_36, zeroT_36, aggT_110, sizeT_110, bytesT_110, fieldT_110_0, fieldT_110_1, placesT_110, zeroT_110, aggT_3, sizeT_3, bytesT_3, und_3, zero1_3, zeroT_3, hr, h1, h3, h4, h5]
      (refine Eq.trans ?_ rfl; kernel_rfl)
  · by_cases h2 : c > 1000
    · have e : canonP c l z = (zLev, 2) := by unfold canonP; rw [hm, if_neg h1, if_pos (.inl h2)]
      rw [e]
      (rw [run_eq]; simp only [stepA, hx, Tryz.func125, Tryz.f125, show retF 125 = false from rfl]; simp only [List.length_cons, List.length_nil, Nat.reduceAdd, Nat.reduceLeDiff, Nat.zero_le, ↓reduceIte, List.zipIdx_cons, List.zipIdx_nil, List.map_cons, List.map_nil])
      simp only [dV, iV, levV, levC_z] at hr ⊢
      simp only [zS, nilEq, wantedA, opA, eff, boxA, cells, ev, gt, pt, putO, updO, setO, okC, loadA, cutC, fieldAddrA, fieldA, indexAddrA, indexA, builtinA, callOpA, callV, target, ptrV, lenS, binA, intOp, strOp, unA, num, lk, over, allocA, pickA, buildA, fillA, convertA, extractA, ofComp, nilCheckA, makeFuncA, ptrs, ofValue, cellB, Nat.reduceAdd, Nat.reduceSub, Nat.reduceMul, Nat.reduceLT, Nat.reduceLeDiff, Nat.reduceGT, ↓reduceIte, Nat.reduceEqDiff, Nat.reduceBEq, reduceCtorEq, Int.reduceBEq, Int.reduceBNe, Int.reduceLT, Int.reduceLE, Int.reduceGT, Int.reduceGE, aggT_144, sizeT_144, bytesT_144, und_144, elemT_144, isSliceT_144, zero1_144, zeroT_144, aggT_34, sizeT_34, bytesT_34, und_34, elemT_34, isSliceT_34, zero1_34, zeroT_34, aggT_36, sizeT_36, bytesT_36, fieldT_36_0, fieldT_36_1, placesT_36, zeroT_36, aggT_110, sizeT_110, bytesT_110, fieldT_110_0, fieldT_110_1, placesT_110, zeroT_110, aggT_3, sizeT_3, bytesT_3, und_3, zero1_3, zeroT_3, hr, h1, h2]
      (refine Eq.trans ?_ rfl; kernel_rfl)
    by_cases h3 : m > 1000
    · exfalso; omega
    by_cases h4 : (l.length : Int) > 8
    · have e : canonP c l z = (zLev, 2) := by unfold canonP; rw [if_pos (by rw [hm]; exact .inr (.inr h4))]
      rw [e]
      (rw [run_eq]; simp only [stepA, hx, Tryz.func125, Tryz.f125, show retF 125 = false from rfl]; simp only [List.length_cons, List.length_nil, Nat.reduceAdd, Nat.reduceLeDiff, Nat.zero_le, ↓reduceIte, List.zipIdx_cons, List.zipIdx_nil, List.map_cons, List.map_nil])
      simp only [dV, iV, levV, levC_z] at hr ⊢
      simp only [zS, nilEq, wantedA, opA, eff, boxA, cells, ev, gt, pt, putO, updO, setO, okC, loadA, cutC, fieldAddrA, fieldA, indexAddrA, indexA, builtinA, callOpA, callV, target, ptrV, lenS, binA, intOp, strOp, unA, num, lk, over, allocA, pickA, buildA, fillA, convertA, extractA, ofComp, nilCheckA, makeFuncA, ptrs, ofValue, cellB, Nat.reduceAdd, Nat.reduceSub, Nat.reduceMul, Nat.reduceLT, Nat.reduceLeDiff, Nat.reduceGT, ↓reduceIte, Nat.reduceEqDiff, Nat.reduceBEq, reduceCtorEq, Int.reduceBEq, Int.reduceBNe, Int.reduceLT, Int.reduceLE, Int.reduceGT, Int.reduceGE, aggT_144, sizeT_144, bytesT_144, und_144, elemT_144, isSliceT_144, zero1_144, zeroT_144, aggT_34, sizeT_34, bytesT_34, und_34, elemT_34, isSliceT_34, zero1_34, zeroT_34, aggT_36, sizeT_36, bytesT_36, fieldT_36_0, fieldT_36_1, placesT_36, zeroT_36, aggT_110, sizeT_110, bytesT_110, fieldT_110_0, fieldT_110_1, placesT_110, zeroT_110, aggT_3, sizeT_3, bytesT_3, und_3, zero1_3, zeroT_3, hr, h1, h2, h3, h4]
      (refine Eq.trans ?_ rfl; kernel_rfl)
    have e : canonP c l z = (⟨c, l, z || l.isEmpty⟩, 0) := by unfold canonP; rw [hm, if_neg h1, if_neg (show ¬ (c > 1000 ∨ m > 1000 ∨ (l.length : Int) > 8) by omega)]
    rw [e]
    by_cases h5 : (l.length : Int) = 0
    · have hl : l = [] := List.eq_nil_of_length_eq_zero (by omega)
      subst hl
      (rw [run_eq]; simp only [stepA, hx, Tryz.func125, Tryz.f125, show retF 125 = false from rfl]; simp only [List.length_cons, List.length_nil, Nat.reduceAdd, Nat.reduceLeDiff, Nat.zero_le, ↓reduceIte, List.zipIdx_cons, List.zipIdx_nil, List.map_cons, List.map_nil])
      simp only [dV, iV, levV, levC, Lev.d, List.map_nil, List.isEmpty_nil, Bool.or_true] at hr ⊢
      simp only [zS, nilEq, wantedA, opA, eff, boxA, cells, ev, gt, pt, putO, updO, setO, okC, loadA, cutC, fieldAddrA, fieldA, indexAddrA, indexA, builtinA, callOpA, callV, target, ptrV, lenS, binA, intOp, strOp, unA, num, lk, over, allocA, pickA, buildA, fillA, convertA, extractA, ofComp, nilCheckA, makeFuncA, ptrs, ofValue, cellB, Nat.reduceAdd, Nat.reduceSub, Nat.reduceMul, Nat.reduceLT, Nat.reduceLeDiff, Nat.reduceGT, ↓reduceIte, Nat.reduceEqDiff, Nat.reduceBEq, reduceCtorEq, Int.reduceBEq, Int.reduceBNe, Int.reduceLT, Int.reduceLE, Int.reduceGT, Int.reduceGE, aggT_144, sizeT_144, bytesT_144, und_144, elemT_144, isSliceT_144, zero1_144, zeroT_144, aggT_34, sizeT_34, bytesT_34, und_34, elemT_34, isSliceT_34, zero1_34, zeroT_34, aggT_36, sizeT_36, bytesT_36, fieldT_36_0, fieldT_36_1, placesT_36, zeroT_36, aggT_110, sizeT_110, bytesT_110, fieldT_110_0, fieldT_110_1, placesT_110, zeroT_110, aggT_3, sizeT_3, bytesT_3, und_3, zero1_3, zeroT_3, hr, h1, h2, h3, z8, Int.natCast_zero]
      (refine Eq.trans ?_ rfl; kernel_rfl)
    · have hne : l.map lvD ≠ [] := by intro e; rw [List.map_eq_nil_iff] at e; simp [e] at h5
      (rw [run_eq]; simp only [stepA, hx, Tryz.func125, Tryz.f125, show retF 125 = false from rfl]; simp only [List.length_cons, List.length_nil, Nat.reduceAdd, Nat.reduceLeDiff, Nat.zero_le, ↓reduceIte, List.zipIdx_cons, List.zipIdx_nil, List.map_cons, List.map_nil])
      simp only [dV, iV, levV, levC, Lev.d, listD_ne hne] at hr ⊢
      simp only [zS, nilEq, wantedA, opA, eff, boxA, cells, ev, gt, pt, putO, updO, setO, okC, loadA, cutC, fieldAddrA, fieldA, indexAddrA, indexA, builtinA, callOpA, callV, target, ptrV, lenS, binA, intOp, strOp, unA, num, lk, over, allocA, pickA, buildA, fillA, convertA, extractA, ofComp, nilCheckA, makeFuncA, ptrs, ofValue, cellB, Nat.reduceAdd, Nat.reduceSub, Nat.reduceMul, Nat.reduceLT, Nat.reduceLeDiff, Nat.reduceGT, ↓reduceIte, Nat.reduceEqDiff, Nat.reduceBEq, reduceCtorEq, Int.reduceBEq, Int.reduceBNe, Int.reduceLT, Int.reduceLE, Int.reduceGT, Int.reduceGE, aggT_144, sizeT_144, bytesT_144, und_144, elemT_144, isSliceT_144, zero1_144, zeroT_144, aggT_34, sizeT_34, bytesT_34, und_34, elemT_34, isSliceT_34, zero1_34, zeroT_34, aggT_36, sizeT_36, bytesT_36, fieldT_36_0, fieldT_36_1, placesT_36, zeroT_36, aggT_110, sizeT_110, bytesT_110, fieldT_110_0, fieldT_110_1, placesT_110, zeroT_110, aggT_3, sizeT_3, bytesT_3, und_3, zero1_3, zeroT_3, hr, h1, h2, h3, h4, h5]
      (refine Eq.trans ?_ rfl; kernel_rfl)
end Go.Proofs.YteenjodhmppgjaaGreatDoor.Am
end
section
/- Levels: the reference's parts of the canonical form. -/
namespace Go.Proofs.YteenjodhmppgjaaGreatDoor.Am
open Go
variable (ext : Ext)
set_option maxHeartbeats 4000000
noncomputable def B127 : Code := (Tryz.f127.body.getD .skip)
noncomputable def L127a : Code := sub B127 [1, 1, 0, 1, 0, 0]
noncomputable def K127a : List It := [.inBlock 0, .code (sub B127 [1, 1, 1])]
noncomputable def H127a (ext : Ext) (m : Nat) (env : Env) (loc : List O) : Option Out := run Tryz.prog ext (.k ⟨33, m, [.tmp 4], false⟩ (.code L127a :: .inLoop L127a :: K127a) env loc)
noncomputable def B128 : Code := (Tryz.f128.body.getD .skip)
noncomputable def L128a : Code := sub B128 [1, 1, 0, 1, 0, 0]
noncomputable def K128a : List It := [.inBlock 0, .code (sub B128 [1, 1, 1])]
noncomputable def H128a (ext : Ext) (m : Nat) (env : Env) (loc : List O) : Option Out := run Tryz.prog ext (.k ⟨31, m, [.cell 2 36, .tmp 3], false⟩ (.code L128a :: .inLoop L128a :: K128a) env loc)
noncomputable def B196 : Code := (Tryz.f196.body.getD .skip)
noncomputable def L196a : Code := sub B196 [1, 1, 1, 0, 1, 0, 0]
noncomputable def K196a : List It := [.inBlock 0, .code (sub B196 [1, 1, 1, 1])]
noncomputable def H196a (ext : Ext) (m : Nat) (env : Env) (loc : List O) : Option Out := run Tryz.prog ext (.k ⟨54, m, [.tmp 4], false⟩ (.code L196a :: .inLoop L196a :: K196a) env loc)
noncomputable def B129 : Code := (Tryz.f129.body.getD .skip)
noncomputable def L129a : Code := sub B129 [1, 1, 1, 0, 1, 0, 0]
noncomputable def K129a : List It := [.inBlock 0, .code (sub B129 [1, 1, 1, 1])]
noncomputable def H129a (ext : Ext) (m : Nat) (env : Env) (loc : List O) : Option Out := run Tryz.prog ext (.k ⟨42, m, [.cell 4 36], false⟩ (.code L129a :: .inLoop L129a :: K129a) env loc)
noncomputable def L129b : Code := sub B129 [1, 1, 1, 1, 0, 1, 0, 0]
noncomputable def K129b : List It := [.inBlock 2, .code (sub B129 [1, 1, 1, 1, 1])]
noncomputable def H129b (ext : Ext) (m : Nat) (env : Env) (loc : List O) : Option Out := run Tryz.prog ext (.k ⟨42, m, [.cell 4 36], false⟩ (.code L129b :: .inLoop L129b :: K129b) env loc)
theorem lvD_eq (x : LV) : lvD x = [.v (.int .i64 x.v), .v (.int .i64 x.p)] := rfl
theorem listD_true (k : Nat) (els : List (List D)) : V.c (.d (listD true k els)) = match els with | [] => V.c (.d (.v (.slice none 0 0))) | a :: r => V.c (.d (.s k (a :: r))) := by cases els <;> rfl
theorem foldl_inl {α σ ρ : Type} (f : σ → α → σ) : ∀ (l : List α) (s : σ), foldE (ρ := ρ) (fun s x => .inl (f s x)) s l = .inl (l.foldl f s)
  | [], _ => rfl
  | _ :: l, s => foldl_inl f l _
/-! ### more -/
def moreLV (n : Int) (x : LV) : LV := ⟨x.v, wr (x.p + n)⟩
def E127 (n : Int) (els : List LV) (k : Int) : Env := [(1, iV n), (2, .c (.ptr 0 0)), (5, mkV 1 (els.map lvD)), (6, iV k)]
def O127 (x : Lev) (els : List LV) : List O := .box (levC x) :: mkO 2 (els.map lvD)
theorem enter127 (hx : ext 127 = none) (x : Lev) (n : Int) (out : Option Out) (h : H127a ext 0 (E127 n [] 0) (O127 x []) = out) : run Tryz.prog ext (.call 127 [levV x, iV n] []) = out := by
  unfold H127a at h
  (rw [run_eq]; simp only [stepA, hx, Tryz.func127, Tryz.f127, show retF 127 = false from rfl]; simp only [List.length_cons, List.length_nil, Nat.reduceAdd, Nat.reduceLeDiff, Nat.zero_le, ↓reduceIte, List.zipIdx_cons, List.zipIdx_nil, List.map_cons, List.map_nil])
  simp only [levV, levC, Lev.d, dV, iV, E127, O127, List.map_nil, mkV_nil, mkO_nil] at h ⊢
  simp only [zS, nilEq, wantedA, opA, eff, boxA, cells, ev, gt, pt, putO, updO, setO, okC, loadA, cutC, fieldAddrA, fieldA, indexAddrA, indexA, builtinA, callOpA, callV, target, ptrV, lenS, binA, intOp, strOp, unA, num, lk, over, allocA, pickA, buildA, fillA, convertA, extractA, ofComp, nilCheckA, makeFuncA, ptrs, ofValue, cellB, Nat.reduceAdd, Nat.reduceSub, Nat.reduceMul, Nat.reduceLT, Nat.reduceLeDiff, Nat.reduceGT, ↓reduceIte, Nat.reduceEqDiff, Nat.reduceBEq, reduceCtorEq, Int.reduceBEq, Int.reduceBNe, Int.reduceLT, Int.reduceLE, Int.reduceGT, Int.reduceGE, aggT_36, sizeT_36, bytesT_36, fieldT_36_0, fieldT_36_1, placesT_36, zeroT_36, aggT_34, sizeT_34, bytesT_34, und_34, elemT_34, isSliceT_34, zero1_34, zeroT_34, aggT_110, sizeT_110, bytesT_110, fieldT_110_0, fieldT_110_1, placesT_110, zeroT_110, aggT_3, sizeT_3, bytesT_3, und_3, zero1_3, zeroT_3]
  (refine (r_inLoop_some ?_).trans h; kernel_rfl)
theorem step127 (x : Lev) (y : LV) (n : Int) (els : List LV) (k : Nat) (hb : els.length < 1000000) (hk : x.vs[k]? = some y) (hl : (k : Int) < x.vs.length) (out : Option Out) (h : H127a ext 0 (E127 n (els ++ [moreLV n y]) (wr ((k : Int) + 1))) (O127 x (els ++ [moreLV n y])) = out) : H127a ext 0 (E127 n els k) (O127 x els) = out := by
  have h0 : (0 : Int) ≤ k := by omega
  have hd : listD x.z 2 (x.vs.map lvD) = .s 2 (x.vs.map lvD) := listD_of_lt h0 (by simpa using hl)
  unfold H127a at h ⊢
  simp only [dV, E127, O127, levC, Lev.d, iV, hd, List.map_append, List.map_cons, List.map_nil, mkV_snoc, mkO_snoc, moreLV, lvD_eq ⟨_, _⟩] at h ⊢
  cases els with
  | nil =>
    simp only [List.map_nil, mkV_nil, mkO_nil, List.nil_append] at h ⊢
    (rw [show (It.code L127a) = It.code (sub B127 [1, 1, 0, 1, 0, 0]) from rfl]; simp only [B127, K127a, sub, Option.getD_some, Tryz.f127, ↓reduceIte, Nat.one_ne_zero])
    simp only [zS, nilEq, wantedA, opA, eff, boxA, cells, ev, gt, pt, putO, updO, setO, okC, loadA, cutC, fieldAddrA, fieldA, indexAddrA, indexA, builtinA, callOpA, callV, target, ptrV, lenS, binA, intOp, strOp, unA, num, lk, over, allocA, pickA, buildA, fillA, convertA, extractA, ofComp, nilCheckA, makeFuncA, ptrs, ofValue, cellB, Nat.reduceAdd, Nat.reduceSub, Nat.reduceMul, Nat.reduceLT, Nat.reduceLeDiff, Nat.reduceGT, ↓reduceIte, Nat.reduceEqDiff, Nat.reduceBEq, reduceCtorEq, Int.reduceBEq, Int.reduceBNe, Int.reduceLT, Int.reduceLE, Int.reduceGT, Int.reduceGE, aggT_36, sizeT_36, bytesT_36, fieldT_36_0, fieldT_36_1, placesT_36, zeroT_36, aggT_34, sizeT_34, bytesT_34, und_34, elemT_34, isSliceT_34, zero1_34, zeroT_34, aggT_110, sizeT_110, bytesT_110, fieldT_110_0, fieldT_110_1, placesT_110, zeroT_110, aggT_3, sizeT_3, bytesT_3, und_3, zero1_3, zeroT_3, drawA, holes_succ, holes_zero, Array.size, List.length, h0, hl, Int.toNat_natCast, hk, lvD, bsLV, no34, apH_arr, Nat.zero_le]
    rw [afterDraw_some _ _ _ _ (by kernel_rfl)]
    simp only [zS, nilEq, wantedA, opA, eff, boxA, cells, ev, gt, pt, putO, updO, setO, okC, loadA, cutC, fieldAddrA, fieldA, indexAddrA, indexA, builtinA, callOpA, callV, target, ptrV, lenS, binA, intOp, strOp, unA, num, lk, over, allocA, pickA, buildA, fillA, convertA, extractA, ofComp, nilCheckA, makeFuncA, ptrs, ofValue, cellB, Nat.reduceAdd, Nat.reduceSub, Nat.reduceMul, Nat.reduceLT, Nat.reduceLeDiff, Nat.reduceGT, ↓reduceIte, Nat.reduceEqDiff, Nat.reduceBEq, reduceCtorEq, Int.reduceBEq, Int.reduceBNe, Int.reduceLT, Int.reduceLE, Int.reduceGT, Int.reduceGE]
    (refine (r_inLoop_some ?_).trans h; kernel_rfl)
  | cons a r =>
    have hb' : (a :: r).length ≤ 1000000000 := by omega
    simp only [List.length_cons] at hb'
    simp only [List.map_cons, mkV_cons, mkO_cons, List.cons_append, List.nil_append] at h ⊢
    (rw [show (It.code L127a) = It.code (sub B127 [1, 1, 0, 1, 0, 0]) from rfl]; simp only [B127, K127a, sub, Option.getD_some, Tryz.f127, ↓reduceIte, Nat.one_ne_zero])
    simp only [zS, nilEq, wantedA, opA, eff, boxA, cells, ev, gt, pt, putO, updO, setO, okC, loadA, cutC, fieldAddrA, fieldA, indexAddrA, indexA, builtinA, callOpA, callV, target, ptrV, lenS, binA, intOp, strOp, unA, num, lk, over, allocA, pickA, buildA, fillA, convertA, extractA, ofComp, nilCheckA, makeFuncA, ptrs, ofValue, cellB, Nat.reduceAdd, Nat.reduceSub, Nat.reduceMul, Nat.reduceLT, Nat.reduceLeDiff, Nat.reduceGT, ↓reduceIte, Nat.reduceEqDiff, Nat.reduceBEq, reduceCtorEq, Int.reduceBEq, Int.reduceBNe, Int.reduceLT, Int.reduceLE, Int.reduceGT, Int.reduceGE, aggT_36, sizeT_36, bytesT_36, fieldT_36_0, fieldT_36_1, placesT_36, zeroT_36, aggT_34, sizeT_34, bytesT_34, und_34, elemT_34, isSliceT_34, zero1_34, zeroT_34, aggT_110, sizeT_110, bytesT_110, fieldT_110_0, fieldT_110_1, placesT_110, zeroT_110, aggT_3, sizeT_3, bytesT_3, und_3, zero1_3, zeroT_3, drawA, holes_succ, holes_zero, Array.size, List.length, h0, hl, Int.toNat_natCast, hk, lvD, bsLV, oo34, apG_arr, hb']
    rw [afterDraw_some _ _ _ _ (by kernel_rfl)]
    simp only [zS, nilEq, wantedA, opA, eff, boxA, cells, ev, gt, pt, putO, updO, setO, okC, loadA, cutC, fieldAddrA, fieldA, indexAddrA, indexA, builtinA, callOpA, callV, target, ptrV, lenS, binA, intOp, strOp, unA, num, lk, over, allocA, pickA, buildA, fillA, convertA, extractA, ofComp, nilCheckA, makeFuncA, ptrs, ofValue, cellB, Nat.reduceAdd, Nat.reduceSub, Nat.reduceMul, Nat.reduceLT, Nat.reduceLeDiff, Nat.reduceGT, ↓reduceIte, Nat.reduceEqDiff, Nat.reduceBEq, reduceCtorEq, Int.reduceBEq, Int.reduceBNe, Int.reduceLT, Int.reduceLE, Int.reduceGT, Int.reduceGE]
    (refine (r_inLoop_some ?_).trans h; kernel_rfl)
theorem done127 (x : Lev) (n : Int) (els : List LV) : H127a ext 0 (E127 n els x.vs.length) (O127 x els) = some (.ret [dV (listD true 2 (els.map lvD))] []) := by
  unfold H127a
  cases els with
  | nil =>
    simp only [dV, E127, O127, levC, Lev.d, iV, List.map_nil, mkV_nil, mkO_nil, listD_true]
    (rw [show (It.code L127a) = It.code (sub B127 [1, 1, 0, 1, 0, 0]) from rfl]; simp only [B127, K127a, sub, Option.getD_some, Tryz.f127, ↓reduceIte, Nat.one_ne_zero])
    simp only [zS, nilEq, wantedA, opA, eff, boxA, cells, ev, gt, pt, putO, updO, setO, okC, loadA, cutC, fieldAddrA, fieldA, indexAddrA, indexA, builtinA, callOpA, callV, target, ptrV, lenS, binA, intOp, strOp, unA, num, lk, over, allocA, pickA, buildA, fillA, convertA, extractA, ofComp, nilCheckA, makeFuncA, ptrs, ofValue, cellB, Nat.reduceAdd, Nat.reduceSub, Nat.reduceMul, Nat.reduceLT, Nat.reduceLeDiff, Nat.reduceGT, ↓reduceIte, Nat.reduceEqDiff, Nat.reduceBEq, reduceCtorEq, Int.reduceBEq, Int.reduceBNe, Int.reduceLT, Int.reduceLE, Int.reduceGT, Int.reduceGE, aggT_36, sizeT_36, bytesT_36, fieldT_36_0, fieldT_36_1, placesT_36, zeroT_36, aggT_34, sizeT_34, bytesT_34, und_34, elemT_34, isSliceT_34, zero1_34, zeroT_34, aggT_110, sizeT_110, bytesT_110, fieldT_110_0, fieldT_110_1, placesT_110, zeroT_110, aggT_3, sizeT_3, bytesT_3, und_3, zero1_3, zeroT_3, Int.lt_irrefl]
    (refine Eq.trans ?_ rfl; kernel_rfl)
  | cons a r =>
    simp only [dV, E127, O127, levC, Lev.d, iV, List.map_cons, mkV_cons, mkO_cons, listD_true]
    (rw [show (It.code L127a) = It.code (sub B127 [1, 1, 0, 1, 0, 0]) from rfl]; simp only [B127, K127a, sub, Option.getD_some, Tryz.f127, ↓reduceIte, Nat.one_ne_zero])
    simp only [zS, nilEq, wantedA, opA, eff, boxA, cells, ev, gt, pt, putO, updO, setO, okC, loadA, cutC, fieldAddrA, fieldA, indexAddrA, indexA, builtinA, callOpA, callV, target, ptrV, lenS, binA, intOp, strOp, unA, num, lk, over, allocA, pickA, buildA, fillA, convertA, extractA, ofComp, nilCheckA, makeFuncA, ptrs, ofValue, cellB, Nat.reduceAdd, Nat.reduceSub, Nat.reduceMul, Nat.reduceLT, Nat.reduceLeDiff, Nat.reduceGT, ↓reduceIte, Nat.reduceEqDiff, Nat.reduceBEq, reduceCtorEq, Int.reduceBEq, Int.reduceBNe, Int.reduceLT, Int.reduceLE, Int.reduceGT, Int.reduceGE, aggT_36, sizeT_36, bytesT_36, fieldT_36_0, fieldT_36_1, placesT_36, zeroT_36, aggT_34, sizeT_34, bytesT_34, und_34, elemT_34, isSliceT_34, zero1_34, zeroT_34, aggT_110, sizeT_110, bytesT_110, fieldT_110_0, fieldT_110_1, placesT_110, zeroT_110, aggT_3, sizeT_3, bytesT_3, und_3, zero1_3, zeroT_3, Int.lt_irrefl]
    (refine Eq.trans ?_ rfl; kernel_rfl)
theorem more127 (hx : ext 127 = none) (x : Lev) (n : Int) (hs : x.vs.length < 1000000) : run Tryz.prog ext (.call 127 [levV x, iV n] []) = some (.ret [dV (listD true 2 ((x.vs.map (moreLV n)).map lvD))] []) := by
  refine enter127 ext hx x n _ ?_
  have key : ∀ (m k : Nat), k + m = x.vs.length → H127a ext 0 (E127 n ((x.vs.take k).map (moreLV n)) k) (O127 x ((x.vs.take k).map (moreLV n))) = some (.ret [dV (listD true 2 ((x.vs.map (moreLV n)).map lvD))] []) := by
    intro m
    induction m with
    | zero => intro k hk; rw [List.take_of_length_le (by omega), show k = x.vs.length by omega]; exact done127 ext x n _
    | succ m ih =>
      intro k hk
      have hlt : k < x.vs.length := by omega
      refine step127 ext x x.vs[k] n _ k (by simp; omega) (by simp [hlt]) (by omega) _ ?_
      rw [wr_id (by omega) (by omega)]
      have := ih (k + 1) (by omega)
      rw [List.take_succ_eq_append_getElem hlt, List.map_append] at this
      exact_mod_cast this
  simpa using key x.vs.length 0 (by omega)
/-! ### fits -/
def E128 (k : Int) : Env := [(1, .c (.ptr 0 0)), (2, .c (.ptr 1 0)), (4, iV k)]
def O128 (x : Lev) : List O := [.box (levC x), .box (levC zLev)]
theorem enter128 (hx : ext 128 = none) (x : Lev) (h2 : ¬ x.c > 1000) (h3 : ¬ (x.vs.length : Int) > 8) (out : Option Out) (h : H128a ext 0 (E128 0) (O128 x) = out) : run Tryz.prog ext (.call 128 [levV x] []) = out := by
  unfold H128a at h
  (rw [run_eq]; simp only [stepA, hx, Tryz.func128, Tryz.f128, show retF 128 = false from rfl]; simp only [List.length_cons, List.length_nil, Nat.reduceAdd, Nat.reduceLeDiff, Nat.zero_le, ↓reduceIte, List.zipIdx_cons, List.zipIdx_nil, List.map_cons, List.map_nil])
  simp only [levV, E128, O128, levC_z, levC, Lev.d, dV, iV] at h ⊢
  simp only [zS, nilEq, wantedA, opA, eff, boxA, cells, ev, gt, pt, putO, updO, setO, okC, loadA, cutC, fieldAddrA, fieldA, indexAddrA, indexA, builtinA, callOpA, callV, target, ptrV, lenS, binA, intOp, strOp, unA, num, lk, over, allocA, pickA, buildA, fillA, convertA, extractA, ofComp, nilCheckA, makeFuncA, ptrs, ofValue, cellB, Nat.reduceAdd, Nat.reduceSub, Nat.reduceMul, Nat.reduceLT, Nat.reduceLeDiff, Nat.reduceGT, ↓reduceIte, Nat.reduceEqDiff, Nat.reduceBEq, reduceCtorEq, Int.reduceBEq, Int.reduceBNe, Int.reduceLT, Int.reduceLE, Int.reduceGT, Int.reduceGE, aggT_36, sizeT_36, bytesT_36, fieldT_36_0, fieldT_36_1, placesT_36, zeroT_36, aggT_34, sizeT_34, bytesT_34, und_34, elemT_34, isSliceT_34, zero1_34, zeroT_34, aggT_110, sizeT_110, bytesT_110, fieldT_110_0, fieldT_110_1, placesT_110, zeroT_110, aggT_3, sizeT_3, bytesT_3, und_3, zero1_3, zeroT_3, h2, h3]
  (refine (r_inLoop_some ?_).trans h; kernel_rfl)
theorem bad128 (hx : ext 128 = none) (x : Lev) (h : (x.vs.length : Int) > 8 ∨ x.c > 1000) : run Tryz.prog ext (.call 128 [levV x] []) = some (.ret [levV zLev, iV 2] []) := by
  by_cases h3 : (x.vs.length : Int) > 8
  · (rw [run_eq]; simp only [stepA, hx, Tryz.func128, Tryz.f128, show retF 128 = false from rfl]; simp only [List.length_cons, List.length_nil, Nat.reduceAdd, Nat.reduceLeDiff, Nat.zero_le, ↓reduceIte, List.zipIdx_cons, List.zipIdx_nil, List.map_cons, List.map_nil])
    simp only [levV, levC_z, levC, Lev.d, iV]
    simp only [zS, nilEq, wantedA, opA, eff, boxA, cells, ev, gt, pt, putO, updO, setO, okC, loadA, cutC, fieldAddrA, fieldA, indexAddrA, indexA, builtinA, callOpA, callV, target, ptrV, lenS, binA, intOp, strOp, unA, num, lk, over, allocA, pickA, buildA, fillA, convertA, extractA, ofComp, nilCheckA, makeFuncA, ptrs, ofValue, cellB, Nat.reduceAdd, Nat.reduceSub, Nat.reduceMul, Nat.reduceLT, Nat.reduceLeDiff, Nat.reduceGT, ↓reduceIte, Nat.reduceEqDiff, Nat.reduceBEq, reduceCtorEq, Int.reduceBEq, Int.reduceBNe, Int.reduceLT, Int.reduceLE, Int.reduceGT, Int.reduceGE, aggT_36, sizeT_36, bytesT_36, fieldT_36_0, fieldT_36_1, placesT_36, zeroT_36, aggT_34, sizeT_34, bytesT_34, und_34, elemT_34, isSliceT_34, zero1_34, zeroT_34, aggT_110, sizeT_110, bytesT_110, fieldT_110_0, fieldT_110_1, placesT_110, zeroT_110, aggT_3, sizeT_3, bytesT_3, und_3, zero1_3, zeroT_3, h3]
    (refine Eq.trans ?_ rfl; kernel_rfl)
  have h2 : x.c > 1000 := by omega
  (rw [run_eq]; simp only [stepA, hx, Tryz.func128, Tryz.f128, show retF 128 = false from rfl]; simp only [List.length_cons, List.length_nil, Nat.reduceAdd, Nat.reduceLeDiff, Nat.zero_le, ↓reduceIte, List.zipIdx_cons, List.zipIdx_nil, List.map_cons, List.map_nil])
  simp only [levV, levC_z, levC, Lev.d, iV]
  simp only [zS, nilEq, wantedA, opA, eff, boxA, cells, ev, gt, pt, putO, updO, setO, okC, loadA, cutC, fieldAddrA, fieldA, indexAddrA, indexA, builtinA, callOpA, callV, target, ptrV, lenS, binA, intOp, strOp, unA, num, lk, over, allocA, pickA, buildA, fillA, convertA, extractA, ofComp, nilCheckA, makeFuncA, ptrs, ofValue, cellB, Nat.reduceAdd, Nat.reduceSub, Nat.reduceMul, Nat.reduceLT, Nat.reduceLeDiff, Nat.reduceGT, ↓reduceIte, Nat.reduceEqDiff, Nat.reduceBEq, reduceCtorEq, Int.reduceBEq, Int.reduceBNe, Int.reduceLT, Int.reduceLE, Int.reduceGT, Int.reduceGE, aggT_36, sizeT_36, bytesT_36, fieldT_36_0, fieldT_36_1, placesT_36, zeroT_36, aggT_34, sizeT_34, bytesT_34, und_34, elemT_34, isSliceT_34, zero1_34, zeroT_34, aggT_110, sizeT_110, bytesT_110, fieldT_110_0, fieldT_110_1, placesT_110, zeroT_110, aggT_3, sizeT_3, bytesT_3, und_3, zero1_3, zeroT_3, h3, h2]
  (refine Eq.trans ?_ rfl; kernel_rfl)
theorem step128 (x : Lev) (y : LV) (k : Nat) (hk : x.vs[k]? = some y) (hl : (k : Int) < x.vs.length) :
    (decide (y.p > 1000) = true → H128a ext 0 (E128 k) (O128 x) = some (.ret [levV zLev, iV 2] [])) ∧ (decide (y.p > 1000) = false → ∀ out, H128a ext 0 (E128 (wr ((k : Int) + 1))) (O128 x) = out → H128a ext 0 (E128 k) (O128 x) = out) := by
  have h0 : (0 : Int) ≤ k := by omega
  have hd : listD x.z 2 (x.vs.map lvD) = .s 2 (x.vs.map lvD) := listD_of_lt h0 (by simpa using hl)
  unfold H128a
  refine ⟨fun hp => ?_, fun hp out h => ?_⟩
  · have hp := of_decide_eq_true hp
    simp only [levV, E128, O128, levC_z, levC, Lev.d, iV, hd]
    (rw [show (It.code L128a) = It.code (sub B128 [1, 1, 0, 1, 0, 0]) from rfl]; simp only [B128, K128a, sub, Option.getD_some, Tryz.f128, ↓reduceIte, Nat.one_ne_zero])
    simp only [zS, nilEq, wantedA, opA, eff, boxA, cells, ev, gt, pt, putO, updO, setO, okC, loadA, cutC, fieldAddrA, fieldA, indexAddrA, indexA, builtinA, callOpA, callV, target, ptrV, lenS, binA, intOp, strOp, unA, num, lk, over, allocA, pickA, buildA, fillA, convertA, extractA, ofComp, nilCheckA, makeFuncA, ptrs, ofValue, cellB, Nat.reduceAdd, Nat.reduceSub, Nat.reduceMul, Nat.reduceLT, Nat.reduceLeDiff, Nat.reduceGT, ↓reduceIte, Nat.reduceEqDiff, Nat.reduceBEq, reduceCtorEq, Int.reduceBEq, Int.reduceBNe, Int.reduceLT, Int.reduceLE, Int.reduceGT, Int.reduceGE, aggT_34, sizeT_34, bytesT_34, und_34, elemT_34, isSliceT_34, zero1_34, zeroT_34, aggT_36, sizeT_36, bytesT_36, fieldT_36_0, fieldT_36_1, placesT_36, zeroT_36, aggT_110, sizeT_110, bytesT_110, fieldT_110_0, fieldT_110_1, placesT_110, zeroT_110, aggT_3, sizeT_3, bytesT_3, und_3, zero1_3, zeroT_3, h0, hl, Int.toNat_natCast, hk, lvD, hp]
    (refine Eq.trans ?_ rfl; kernel_rfl)
  · have hp := of_decide_eq_false hp
    simp only [levV, E128, O128, levC_z, levC, Lev.d, iV, hd] at h ⊢
    (rw [show (It.code L128a) = It.code (sub B128 [1, 1, 0, 1, 0, 0]) from rfl]; simp only [B128, K128a, sub, Option.getD_some, Tryz.f128, ↓reduceIte, Nat.one_ne_zero])
    simp only [zS, nilEq, wantedA, opA, eff, boxA, cells, ev, gt, pt, putO, updO, setO, okC, loadA, cutC, fieldAddrA, fieldA, indexAddrA, indexA, builtinA, callOpA, callV, target, ptrV, lenS, binA, intOp, strOp, unA, num, lk, over, allocA, pickA, buildA, fillA, convertA, extractA, ofComp, nilCheckA, makeFuncA, ptrs, ofValue, cellB, Nat.reduceAdd, Nat.reduceSub, Nat.reduceMul, Nat.reduceLT, Nat.reduceLeDiff, Nat.reduceGT, ↓reduceIte, Nat.reduceEqDiff, Nat.reduceBEq, reduceCtorEq, Int.reduceBEq, Int.reduceBNe, Int.reduceLT, Int.reduceLE, Int.reduceGT, Int.reduceGE, aggT_34, sizeT_34, bytesT_34, und_34, elemT_34, isSliceT_34, zero1_34, zeroT_34, aggT_36, sizeT_36, bytesT_36, fieldT_36_0, fieldT_36_1, placesT_36, zeroT_36, aggT_110, sizeT_110, bytesT_110, fieldT_110_0, fieldT_110_1, placesT_110, zeroT_110, aggT_3, sizeT_3, bytesT_3, und_3, zero1_3, zeroT_3, h0, hl, Int.toNat_natCast, hk, lvD, hp]
    (refine (r_inLoop_some ?_).trans h; kernel_rfl)
theorem done128 (x : Lev) : H128a ext 0 (E128 x.vs.length) (O128 x) = some (.ret [levV x, iV 0] []) := by
  unfold H128a
  simp only [levV, E128, O128, levC_z, levC, Lev.d, iV]
  (rw [show (It.code L128a) = It.code (sub B128 [1, 1, 0, 1, 0, 0]) from rfl]; simp only [B128, K128a, sub, Option.getD_some, Tryz.f128, ↓reduceIte, Nat.one_ne_zero])
  simp only [zS, nilEq, wantedA, opA, eff, boxA, cells, ev, gt, pt, putO, updO, setO, okC, loadA, cutC, fieldAddrA, fieldA, indexAddrA, indexA, builtinA, callOpA, callV, target, ptrV, lenS, binA, intOp, strOp, unA, num, lk, over, allocA, pickA, buildA, fillA, convertA, extractA, ofComp, nilCheckA, makeFuncA, ptrs, ofValue, cellB, Nat.reduceAdd, Nat.reduceSub, Nat.reduceMul, Nat.reduceLT, Nat.reduceLeDiff, Nat.reduceGT, ↓reduceIte, Nat.reduceEqDiff, Nat.reduceBEq, reduceCtorEq, Int.reduceBEq, Int.reduceBNe, Int.reduceLT, Int.reduceLE, Int.reduceGT, Int.reduceGE, aggT_34, sizeT_34, bytesT_34, und_34, elemT_34, isSliceT_34, zero1_34, zeroT_34, aggT_36, sizeT_36, bytesT_36, fieldT_36_0, fieldT_36_1, placesT_36, zeroT_36, aggT_110, sizeT_110, bytesT_110, fieldT_110_0, fieldT_110_1, placesT_110, zeroT_110, aggT_3, sizeT_3, bytesT_3, und_3, zero1_3, zeroT_3, Int.lt_irrefl]
  (refine Eq.trans ?_ rfl; kernel_rfl)
def fitsR (x : Lev) : Lev × Int := if (x.vs.length : Int) > 8 ∨ x.c > 1000 ∨ x.vs.any (fun y => decide (y.p > 1000)) = true then (zLev, 2) else (x, 0)
theorem fits128 (hx : ext 128 = none) (x : Lev) : run Tryz.prog ext (.call 128 [levV x] []) = some (.ret [levV (fitsR x).1, iV (fitsR x).2] []) := by
  by_cases h : (x.vs.length : Int) > 8 ∨ x.c > 1000
  · rw [bad128 ext hx x h]
    have : fitsR x = (zLev, 2) := by unfold fitsR; rw [if_pos]; omega
    rw [this]
  · refine enter128 ext hx x (by omega) (by omega) _ ?_
    have := loop_find x.vs (fun k => H128a ext 0 (E128 k) (O128 x)) (fun y => decide (y.p > 1000)) (fun _ => some (.ret [levV zLev, iV 2] [])) (some (.ret [levV x, iV 0] [])) (by omega) (fun k y hk hl => step128 ext x y k hk hl) (done128 ext x)
    rw [this]
    have ha := find_some (l := x.vs) (p := fun y => decide (y.p > 1000))
    unfold fitsR
    cases hf : x.vs.findIdx? (fun y => decide (y.p > 1000)) with
    | none =>
      rw [hf] at ha
      rw [if_neg]
      rintro (e | e | e)
      · omega
      · omega
      · rw [← ha] at e; cases e
    | some i =>
      rw [hf] at ha
      rw [if_pos (.inr (.inr ha.symm))]
/-! ### put -/
def putStep (x : LV) (s : List LV × Bool) (y : LV) : List LV × Bool :=
  let s1 := if s.2 = false ∧ x.v < y.v then (s.1 ++ [x], true) else s
  if x.v = y.v then (s1.1 ++ [⟨y.v, mx x.p y.p⟩], true) else (s1.1 ++ [y], s1.2)
def putL (l : List LV) (x : LV) : List LV := let s := l.foldl (putStep x) ([], false); if s.2 then s.1 else s.1 ++ [x]
def E196 (z : Bool) (l els : List LV) (d : Bool) (k : Int) : Env := [(0, dV (listD z 2 (l.map lvD))), (3, .c (.ptr 0 0)), (5, mkV 1 (els.map lvD)), (6, bV d), (7, iV k)]
def O196 (x : LV) (els : List LV) : List O := .box (lvC x) :: mkO 2 (els.map lvD)
theorem enter196 (hx : ext 196 = none) (z : Bool) (l : List LV) (x : LV) (out : Option Out) (h : H196a ext 0 (E196 z l [] false 0) (O196 x []) = out) : run Tryz.prog ext (.call 196 [dV (listD z 2 (l.map lvD)), lvV x] []) = out := by
  unfold H196a at h
  (rw [run_eq]; simp only [stepA, hx, Tryz.func196, Tryz.f196, show retF 196 = false from rfl]; simp only [List.length_cons, List.length_nil, Nat.reduceAdd, Nat.reduceLeDiff, Nat.zero_le, ↓reduceIte, List.zipIdx_cons, List.zipIdx_nil, List.map_cons, List.map_nil])
  simp only [lvV, lvC, dV, iV, bV, E196, O196, List.map_nil, mkV_nil, mkO_nil] at h ⊢
  simp only [zS, nilEq, wantedA, opA, eff, boxA, cells, ev, gt, pt, putO, updO, setO, okC, loadA, cutC, fieldAddrA, fieldA, indexAddrA, indexA, builtinA, callOpA, callV, target, ptrV, lenS, binA, intOp, strOp, unA, num, lk, over, allocA, pickA, buildA, fillA, convertA, extractA, ofComp, nilCheckA, makeFuncA, ptrs, ofValue, cellB, Nat.reduceAdd, Nat.reduceSub, Nat.reduceMul, Nat.reduceLT, Nat.reduceLeDiff, Nat.reduceGT, ↓reduceIte, Nat.reduceEqDiff, Nat.reduceBEq, reduceCtorEq, Int.reduceBEq, Int.reduceBNe, Int.reduceLT, Int.reduceLE, Int.reduceGT, Int.reduceGE, aggT_36, sizeT_36, bytesT_36, fieldT_36_0, fieldT_36_1, placesT_36, zeroT_36, aggT_34, sizeT_34, bytesT_34, und_34, elemT_34, isSliceT_34, zero1_34, zeroT_34, aggT_110, sizeT_110, bytesT_110, fieldT_110_0, fieldT_110_1, placesT_110, zeroT_110, aggT_3, sizeT_3, bytesT_3, und_3, zero1_3, zeroT_3]
  (refine (r_inLoop_some ?_).trans h; kernel_rfl)
theorem step196 (z : Bool) (l : List LV) (x y : LV) (els : List LV) (d : Bool) (k : Nat) (hb : els.length < 1000000) (hk : l[k]? = some y) (hl : (k : Int) < l.length) (out : Option Out) (h : H196a ext 0 (E196 z l (putStep x (els, d) y).1 (putStep x (els, d) y).2 (wr ((k : Int) + 1))) (O196 x (putStep x (els, d) y).1) = out) : H196a ext 0 (E196 z l els d k) (O196 x els) = out := by
  have h0 : (0 : Int) ≤ k := by omega
  have hd : listD z 2 (l.map lvD) = .s 2 (l.map lvD) := listD_of_lt h0 (by simpa using hl)
  unfold H196a at h ⊢
  simp only [dV, E196, O196, lvC, iV, bV, hd, putStep] at h ⊢
  cases d with
  | true =>
    by_cases h2 : x.v = y.v
    · simp only [h2, Bool.true_eq_false, false_and, if_false, if_true, List.map_append, List.map_cons, List.map_nil, mkV_snoc, mkO_snoc, mx, lvD_eq ⟨_, _⟩] at h ⊢
      cases els with
      | nil =>
        simp only [List.map_nil, mkV_nil, mkO_nil, List.nil_append] at h ⊢
        (rw [show (It.code L196a) = It.code (sub B196 [1, 1, 1, 0, 1, 0, 0]) from rfl]; simp only [B196, K196a, sub, Option.getD_some, Tryz.f196, ↓reduceIte, Nat.one_ne_zero])
        simp only [zS, nilEq, wantedA, opA, eff, boxA, cells, ev, gt, pt, putO, updO, setO, okC, loadA, cutC, fieldAddrA, fieldA, indexAddrA, indexA, builtinA, callOpA, callV, target, ptrV, lenS, binA, intOp, strOp, unA, num, lk, over, allocA, pickA, buildA, fillA, convertA, extractA, ofComp, nilCheckA, makeFuncA, ptrs, ofValue, cellB, Nat.reduceAdd, Nat.reduceSub, Nat.reduceMul, Nat.reduceLT, Nat.reduceLeDiff, Nat.reduceGT, ↓reduceIte, Nat.reduceEqDiff, Nat.reduceBEq, reduceCtorEq, Int.reduceBEq, Int.reduceBNe, Int.reduceLT, Int.reduceLE, Int.reduceGT, Int.reduceGE, aggT_34, sizeT_34, bytesT_34, und_34, elemT_34, isSliceT_34, zero1_34, zeroT_34, aggT_110, sizeT_110, bytesT_110, fieldT_110_0, fieldT_110_1, placesT_110, zeroT_110, aggT_3, sizeT_3, bytesT_3, und_3, zero1_3, zeroT_3, maxA, h0, hl, h2, Int.toNat_natCast, hk, lvD, bsLV, no34, apH_arr, Nat.zero_le]
        (refine (r_inLoop_some ?_).trans h; kernel_rfl)
      | cons a r =>
        have hb' : r.length + 1 ≤ 1000000000 := by simp only [List.length_cons] at hb; omega
        simp only [List.map_cons, mkV_cons, mkO_cons, List.cons_append, List.nil_append] at h ⊢
        (rw [show (It.code L196a) = It.code (sub B196 [1, 1, 1, 0, 1, 0, 0]) from rfl]; simp only [B196, K196a, sub, Option.getD_some, Tryz.f196, ↓reduceIte, Nat.one_ne_zero])
        simp only [zS, nilEq, wantedA, opA, eff, boxA, cells, ev, gt, pt, putO, updO, setO, okC, loadA, cutC, fieldAddrA, fieldA, indexAddrA, indexA, builtinA, callOpA, callV, target, ptrV, lenS, binA, intOp, strOp, unA, num, lk, over, allocA, pickA, buildA, fillA, convertA, extractA, ofComp, nilCheckA, makeFuncA, ptrs, ofValue, cellB, Nat.reduceAdd, Nat.reduceSub, Nat.reduceMul, Nat.reduceLT, Nat.reduceLeDiff, Nat.reduceGT, ↓reduceIte, Nat.reduceEqDiff, Nat.reduceBEq, reduceCtorEq, Int.reduceBEq, Int.reduceBNe, Int.reduceLT, Int.reduceLE, Int.reduceGT, Int.reduceGE, aggT_34, sizeT_34, bytesT_34, und_34, elemT_34, isSliceT_34, zero1_34, zeroT_34, aggT_110, sizeT_110, bytesT_110, fieldT_110_0, fieldT_110_1, placesT_110, zeroT_110, aggT_3, sizeT_3, bytesT_3, und_3, zero1_3, zeroT_3, maxA, h0, hl, h2, Int.toNat_natCast, hk, lvD, bsLV, oo34, apG_arr, hb']
        (refine (r_inLoop_some ?_).trans h; kernel_rfl)
    · simp only [h2, Bool.true_eq_false, false_and, if_false, List.map_append, List.map_cons, List.map_nil, mkV_snoc, mkO_snoc, lvD_eq y] at h ⊢
      cases els with
      | nil =>
        simp only [List.map_nil, mkV_nil, mkO_nil, List.nil_append] at h ⊢
        (rw [show (It.code L196a) = It.code (sub B196 [1, 1, 1, 0, 1, 0, 0]) from rfl]; simp only [B196, K196a, sub, Option.getD_some, Tryz.f196, ↓reduceIte, Nat.one_ne_zero])
        simp only [zS, nilEq, wantedA, opA, eff, boxA, cells, ev, gt, pt, putO, updO, setO, okC, loadA, cutC, fieldAddrA, fieldA, indexAddrA, indexA, builtinA, callOpA, callV, target, ptrV, lenS, binA, intOp, strOp, unA, num, lk, over, allocA, pickA, buildA, fillA, convertA, extractA, ofComp, nilCheckA, makeFuncA, ptrs, ofValue, cellB, Nat.reduceAdd, Nat.reduceSub, Nat.reduceMul, Nat.reduceLT, Nat.reduceLeDiff, Nat.reduceGT, ↓reduceIte, Nat.reduceEqDiff, Nat.reduceBEq, reduceCtorEq, Int.reduceBEq, Int.reduceBNe, Int.reduceLT, Int.reduceLE, Int.reduceGT, Int.reduceGE, aggT_34, sizeT_34, bytesT_34, und_34, elemT_34, isSliceT_34, zero1_34, zeroT_34, aggT_110, sizeT_110, bytesT_110, fieldT_110_0, fieldT_110_1, placesT_110, zeroT_110, aggT_3, sizeT_3, bytesT_3, und_3, zero1_3, zeroT_3, maxA, h0, hl, h2, Int.toNat_natCast, hk, lvD, bsLV, no34, apH_arr, Nat.zero_le]
        (refine (r_inLoop_some ?_).trans h; kernel_rfl)
      | cons a r =>
        have hb' : r.length + 1 ≤ 1000000000 := by simp only [List.length_cons] at hb; omega
        simp only [List.map_cons, mkV_cons, mkO_cons, List.cons_append, List.nil_append] at h ⊢
        (rw [show (It.code L196a) = It.code (sub B196 [1, 1, 1, 0, 1, 0, 0]) from rfl]; simp only [B196, K196a, sub, Option.getD_some, Tryz.f196, ↓reduceIte, Nat.one_ne_zero])
        simp only [zS, nilEq, wantedA, opA, eff, boxA, cells, ev, gt, pt, putO, updO, setO, okC, loadA, cutC, fieldAddrA, fieldA, indexAddrA, indexA, builtinA, callOpA, callV, target, ptrV, lenS, binA, intOp, strOp, unA, num, lk, over, allocA, pickA, buildA, fillA, convertA, extractA, ofComp, nilCheckA, makeFuncA, ptrs, ofValue, cellB, Nat.reduceAdd, Nat.reduceSub, Nat.reduceMul, Nat.reduceLT, Nat.reduceLeDiff, Nat.reduceGT, ↓reduceIte, Nat.reduceEqDiff, Nat.reduceBEq, reduceCtorEq, Int.reduceBEq, Int.reduceBNe, Int.reduceLT, Int.reduceLE, Int.reduceGT, Int.reduceGE, aggT_34, sizeT_34, bytesT_34, und_34, elemT_34, isSliceT_34, zero1_34, zeroT_34, aggT_110, sizeT_110, bytesT_110, fieldT_110_0, fieldT_110_1, placesT_110, zeroT_110, aggT_3, sizeT_3, bytesT_3, und_3, zero1_3, zeroT_3, maxA, h0, hl, h2, Int.toNat_natCast, hk, lvD, bsLV, oo34, apG_arr, hb']
        (refine (r_inLoop_some ?_).trans h; kernel_rfl)
  | false =>
    by_cases h1 : x.v < y.v
    · have h2 : ¬ x.v = y.v := by omega
      simp only [h1, h2, true_and, if_true, if_false, List.map_append, List.map_cons, List.map_nil, mkV_snoc, mkO_snoc, lvD_eq x, lvD_eq y] at h ⊢
      cases els with
      | nil =>
        simp only [List.map_nil, mkV_nil, mkO_nil, List.nil_append] at h ⊢
        (rw [show (It.code L196a) = It.code (sub B196 [1, 1, 1, 0, 1, 0, 0]) from rfl]; simp only [B196, K196a, sub, Option.getD_some, Tryz.f196, ↓reduceIte, Nat.one_ne_zero])
        simp only [zS, nilEq, wantedA, opA, eff, boxA, cells, ev, gt, pt, putO, updO, setO, okC, loadA, cutC, fieldAddrA, fieldA, indexAddrA, indexA, builtinA, callOpA, callV, target, ptrV, lenS, binA, intOp, strOp, unA, num, lk, over, allocA, pickA, buildA, fillA, convertA, extractA, ofComp, nilCheckA, makeFuncA, ptrs, ofValue, cellB, Nat.reduceAdd, Nat.reduceSub, Nat.reduceMul, Nat.reduceLT, Nat.reduceLeDiff, Nat.reduceGT, ↓reduceIte, Nat.reduceEqDiff, Nat.reduceBEq, reduceCtorEq, Int.reduceBEq, Int.reduceBNe, Int.reduceLT, Int.reduceLE, Int.reduceGT, Int.reduceGE, aggT_34, sizeT_34, bytesT_34, und_34, elemT_34, isSliceT_34, zero1_34, zeroT_34, aggT_110, sizeT_110, bytesT_110, fieldT_110_0, fieldT_110_1, placesT_110, zeroT_110, aggT_3, sizeT_3, bytesT_3, und_3, zero1_3, zeroT_3, maxA, h0, hl, h1, h2, Int.toNat_natCast, hk, lvD, bsLV, no34, apH_arr, oo34, apG_arr, Nat.zero_le]
        (refine (r_inLoop_some ?_).trans h; kernel_rfl)
      | cons a r =>
        have hb' : r.length + 1 ≤ 1000000000 := by simp only [List.length_cons] at hb; omega
        have hb2 : r.length + 1 + 1 ≤ 1000000000 := by simp only [List.length_cons] at hb; omega
        simp only [List.map_cons, mkV_cons, mkO_cons, List.cons_append, List.nil_append] at h ⊢
        (rw [show (It.code L196a) = It.code (sub B196 [1, 1, 1, 0, 1, 0, 0]) from rfl]; simp only [B196, K196a, sub, Option.getD_some, Tryz.f196, ↓reduceIte, Nat.one_ne_zero])
        simp only [zS, nilEq, wantedA, opA, eff, boxA, cells, ev, gt, pt, putO, updO, setO, okC, loadA, cutC, fieldAddrA, fieldA, indexAddrA, indexA, builtinA, callOpA, callV, target, ptrV, lenS, binA, intOp, strOp, unA, num, lk, over, allocA, pickA, buildA, fillA, convertA, extractA, ofComp, nilCheckA, makeFuncA, ptrs, ofValue, cellB, Nat.reduceAdd, Nat.reduceSub, Nat.reduceMul, Nat.reduceLT, Nat.reduceLeDiff, Nat.reduceGT, ↓reduceIte, Nat.reduceEqDiff, Nat.reduceBEq, reduceCtorEq, Int.reduceBEq, Int.reduceBNe, Int.reduceLT, Int.reduceLE, Int.reduceGT, Int.reduceGE, aggT_34, sizeT_34, bytesT_34, und_34, elemT_34, isSliceT_34, zero1_34, zeroT_34, aggT_110, sizeT_110, bytesT_110, fieldT_110_0, fieldT_110_1, placesT_110, zeroT_110, aggT_3, sizeT_3, bytesT_3, und_3, zero1_3, zeroT_3, maxA, h0, hl, h1, h2, Int.toNat_natCast, hk, lvD, bsLV, oo34, apG_arr, hb', hb2]
        (refine (r_inLoop_some ?_).trans h; kernel_rfl)
    · by_cases h2 : x.v = y.v
      · have h1' : ¬ y.v < y.v := by omega
        simp only [h2, h1', and_false, if_false, if_true, List.map_append, List.map_cons, List.map_nil, mkV_snoc, mkO_snoc, mx, lvD_eq ⟨_, _⟩] at h ⊢
        cases els with
        | nil =>
          simp only [List.map_nil, mkV_nil, mkO_nil, List.nil_append] at h ⊢
          (rw [show (It.code L196a) = It.code (sub B196 [1, 1, 1, 0, 1, 0, 0]) from rfl]; simp only [B196, K196a, sub, Option.getD_some, Tryz.f196, ↓reduceIte, Nat.one_ne_zero])
          simp only [zS, nilEq, wantedA, opA, eff, boxA, cells, ev, gt, pt, putO, updO, setO, okC, loadA, cutC, fieldAddrA, fieldA, indexAddrA, indexA, builtinA, callOpA, callV, target, ptrV, lenS, binA, intOp, strOp, unA, num, lk, over, allocA, pickA, buildA, fillA, convertA, extractA, ofComp, nilCheckA, makeFuncA, ptrs, ofValue, cellB, Nat.reduceAdd, Nat.reduceSub, Nat.reduceMul, Nat.reduceLT, Nat.reduceLeDiff, Nat.reduceGT, ↓reduceIte, Nat.reduceEqDiff, Nat.reduceBEq, reduceCtorEq, Int.reduceBEq, Int.reduceBNe, Int.reduceLT, Int.reduceLE, Int.reduceGT, Int.reduceGE, aggT_34, sizeT_34, bytesT_34, und_34, elemT_34, isSliceT_34, zero1_34, zeroT_34, aggT_110, sizeT_110, bytesT_110, fieldT_110_0, fieldT_110_1, placesT_110, zeroT_110, aggT_3, sizeT_3, bytesT_3, und_3, zero1_3, zeroT_3, maxA, h0, hl, h1', h2, Int.toNat_natCast, hk, lvD, bsLV, no34, apH_arr, Nat.zero_le]
          (refine (r_inLoop_some ?_).trans h; kernel_rfl)
        | cons a r =>
          have hb' : r.length + 1 ≤ 1000000000 := by simp only [List.length_cons] at hb; omega
          simp only [List.map_cons, mkV_cons, mkO_cons, List.cons_append, List.nil_append] at h ⊢
          (rw [show (It.code L196a) = It.code (sub B196 [1, 1, 1, 0, 1, 0, 0]) from rfl]; simp only [B196, K196a, sub, Option.getD_some, Tryz.f196, ↓reduceIte, Nat.one_ne_zero])
          simp only [zS, nilEq, wantedA, opA, eff, boxA, cells, ev, gt, pt, putO, updO, setO, okC, loadA, cutC, fieldAddrA, fieldA, indexAddrA, indexA, builtinA, callOpA, callV, target, ptrV, lenS, binA, intOp, strOp, unA, num, lk, over, allocA, pickA, buildA, fillA, convertA, extractA, ofComp, nilCheckA, makeFuncA, ptrs, ofValue, cellB, Nat.reduceAdd, Nat.reduceSub, Nat.reduceMul, Nat.reduceLT, Nat.reduceLeDiff, Nat.reduceGT, ↓reduceIte, Nat.reduceEqDiff, Nat.reduceBEq, reduceCtorEq, Int.reduceBEq, Int.reduceBNe, Int.reduceLT, Int.reduceLE, Int.reduceGT, Int.reduceGE, aggT_34, sizeT_34, bytesT_34, und_34, elemT_34, isSliceT_34, zero1_34, zeroT_34, aggT_110, sizeT_110, bytesT_110, fieldT_110_0, fieldT_110_1, placesT_110, zeroT_110, aggT_3, sizeT_3, bytesT_3, und_3, zero1_3, zeroT_3, maxA, h0, hl, h1', h2, Int.toNat_natCast, hk, lvD, bsLV, oo34, apG_arr, hb']
          (refine (r_inLoop_some ?_).trans h; kernel_rfl)
      · simp only [h1, h2, and_false, if_false, List.map_append, List.map_cons, List.map_nil, mkV_snoc, mkO_snoc, lvD_eq y] at h ⊢
        cases els with
        | nil =>
          simp only [List.map_nil, mkV_nil, mkO_nil, List.nil_append] at h ⊢
          (rw [show (It.code L196a) = It.code (sub B196 [1, 1, 1, 0, 1, 0, 0]) from rfl]; simp only [B196, K196a, sub, Option.getD_some, Tryz.f196, ↓reduceIte, Nat.one_ne_zero])
          simp only [zS, nilEq, wantedA, opA, eff, boxA, cells, ev, gt, pt, putO, updO, setO, okC, loadA, cutC, fieldAddrA, fieldA, indexAddrA, indexA, builtinA, callOpA, callV, target, ptrV, lenS, binA, intOp, strOp, unA, num, lk, over, allocA, pickA, buildA, fillA, convertA, extractA, ofComp, nilCheckA, makeFuncA, ptrs, ofValue, cellB, Nat.reduceAdd, Nat.reduceSub, Nat.reduceMul, Nat.reduceLT, Nat.reduceLeDiff, Nat.reduceGT, ↓reduceIte, Nat.reduceEqDiff, Nat.reduceBEq, reduceCtorEq, Int.reduceBEq, Int.reduceBNe, Int.reduceLT, Int.reduceLE, Int.reduceGT, Int.reduceGE, aggT_34, sizeT_34, bytesT_34, und_34, elemT_34, isSliceT_34, zero1_34, zeroT_34, aggT_110, sizeT_110, bytesT_110, fieldT_110_0, fieldT_110_1, placesT_110, zeroT_110, aggT_3, sizeT_3, bytesT_3, und_3, zero1_3, zeroT_3, maxA, h0, hl, h1, h2, Int.toNat_natCast, hk, lvD, bsLV, no34, apH_arr, Nat.zero_le]
          (refine (r_inLoop_some ?_).trans h; kernel_rfl)
        | cons a r =>
          have hb' : r.length + 1 ≤ 1000000000 := by simp only [List.length_cons] at hb; omega
          simp only [List.map_cons, mkV_cons, mkO_cons, List.cons_append, List.nil_append] at h ⊢
          (rw [show (It.code L196a) = It.code (sub B196 [1, 1, 1, 0, 1, 0, 0]) from rfl]; simp only [B196, K196a, sub, Option.getD_some, Tryz.f196, ↓reduceIte, Nat.one_ne_zero])
          simp only [zS, nilEq, wantedA, opA, eff, boxA, cells, ev, gt, pt, putO, updO, setO, okC, loadA, cutC, fieldAddrA, fieldA, indexAddrA, indexA, builtinA, callOpA, callV, target, ptrV, lenS, binA, intOp, strOp, unA, num, lk, over, allocA, pickA, buildA, fillA, convertA, extractA, ofComp, nilCheckA, makeFuncA, ptrs, ofValue, cellB, Nat.reduceAdd, Nat.reduceSub, Nat.reduceMul, Nat.reduceLT, Nat.reduceLeDiff, Nat.reduceGT, ↓reduceIte, Nat.reduceEqDiff, Nat.reduceBEq, reduceCtorEq, Int.reduceBEq, Int.reduceBNe, Int.reduceLT, Int.reduceLE, Int.reduceGT, Int.reduceGE, aggT_34, sizeT_34, bytesT_34, und_34, elemT_34, isSliceT_34, zero1_34, zeroT_34, aggT_110, sizeT_110, bytesT_110, fieldT_110_0, fieldT_110_1, placesT_110, zeroT_110, aggT_3, sizeT_3, bytesT_3, und_3, zero1_3, zeroT_3, maxA, h0, hl, h1, h2, Int.toNat_natCast, hk, lvD, bsLV, oo34, apG_arr, hb']
          (refine (r_inLoop_some ?_).trans h; kernel_rfl)
theorem done196 (z : Bool) (l : List LV) (x : LV) (els : List LV) (d : Bool) (hb : els.length < 1000000) (hne : d = true → els ≠ []) : H196a ext 0 (E196 z l els d l.length) (O196 x els) = some (.ret [dV (.s 2 ((if d then els else els ++ [x]).map lvD))] []) := by
  unfold H196a
  cases d with
  | true =>
    cases els with
    | nil => exact absurd rfl (hne rfl)
    | cons a r =>
      simp only [dV, E196, O196, lvC, iV, bV, if_true, List.map_cons, mkV_cons, mkO_cons]
      (rw [show (It.code L196a) = It.code (sub B196 [1, 1, 1, 0, 1, 0, 0]) from rfl]; simp only [B196, K196a, sub, Option.getD_some, Tryz.f196, ↓reduceIte, Nat.one_ne_zero])
      simp only [zS, nilEq, wantedA, opA, eff, boxA, cells, ev, gt, pt, putO, updO, setO, okC, loadA, cutC, fieldAddrA, fieldA, indexAddrA, indexA, builtinA, callOpA, callV, target, ptrV, lenS, binA, intOp, strOp, unA, num, lk, over, allocA, pickA, buildA, fillA, convertA, extractA, ofComp, nilCheckA, makeFuncA, ptrs, ofValue, cellB, Nat.reduceAdd, Nat.reduceSub, Nat.reduceMul, Nat.reduceLT, Nat.reduceLeDiff, Nat.reduceGT, ↓reduceIte, Nat.reduceEqDiff, Nat.reduceBEq, reduceCtorEq, Int.reduceBEq, Int.reduceBNe, Int.reduceLT, Int.reduceLE, Int.reduceGT, Int.reduceGE, aggT_34, sizeT_34, bytesT_34, und_34, elemT_34, isSliceT_34, zero1_34, zeroT_34, aggT_110, sizeT_110, bytesT_110, fieldT_110_0, fieldT_110_1, placesT_110, zeroT_110, aggT_3, sizeT_3, bytesT_3, und_3, zero1_3, zeroT_3, Int.lt_irrefl]
      (refine Eq.trans ?_ rfl; kernel_rfl)
  | false =>
    simp only [dV, E196, O196, lvC, iV, bV, Bool.false_eq_true, if_false, List.map_append, List.map_cons, List.map_nil, lvD_eq x]
    cases els with
    | nil =>
      simp only [List.map_nil, mkV_nil, mkO_nil, List.nil_append]
      (rw [show (It.code L196a) = It.code (sub B196 [1, 1, 1, 0, 1, 0, 0]) from rfl]; simp only [B196, K196a, sub, Option.getD_some, Tryz.f196, ↓reduceIte, Nat.one_ne_zero])
      simp only [zS, nilEq, wantedA, opA, eff, boxA, cells, ev, gt, pt, putO, updO, setO, okC, loadA, cutC, fieldAddrA, fieldA, indexAddrA, indexA, builtinA, callOpA, callV, target, ptrV, lenS, binA, intOp, strOp, unA, num, lk, over, allocA, pickA, buildA, fillA, convertA, extractA, ofComp, nilCheckA, makeFuncA, ptrs, ofValue, cellB, Nat.reduceAdd, Nat.reduceSub, Nat.reduceMul, Nat.reduceLT, Nat.reduceLeDiff, Nat.reduceGT, ↓reduceIte, Nat.reduceEqDiff, Nat.reduceBEq, reduceCtorEq, Int.reduceBEq, Int.reduceBNe, Int.reduceLT, Int.reduceLE, Int.reduceGT, Int.reduceGE, aggT_34, sizeT_34, bytesT_34, und_34, elemT_34, isSliceT_34, zero1_34, zeroT_34, aggT_110, sizeT_110, bytesT_110, fieldT_110_0, fieldT_110_1, placesT_110, zeroT_110, aggT_3, sizeT_3, bytesT_3, und_3, zero1_3, zeroT_3, Int.lt_irrefl, bsLV, no34, apH_arr, Nat.zero_le]
      (refine Eq.trans ?_ rfl; kernel_rfl)
    | cons a r =>
      have hb' : r.length + 1 ≤ 1000000000 := by simp only [List.length_cons] at hb; omega
      simp only [List.map_cons, mkV_cons, mkO_cons, List.cons_append, List.nil_append]
      (rw [show (It.code L196a) = It.code (sub B196 [1, 1, 1, 0, 1, 0, 0]) from rfl]; simp only [B196, K196a, sub, Option.getD_some, Tryz.f196, ↓reduceIte, Nat.one_ne_zero])
      simp only [zS, nilEq, wantedA, opA, eff, boxA, cells, ev, gt, pt, putO, updO, setO, okC, loadA, cutC, fieldAddrA, fieldA, indexAddrA, indexA, builtinA, callOpA, callV, target, ptrV, lenS, binA, intOp, strOp, unA, num, lk, over, allocA, pickA, buildA, fillA, convertA, extractA, ofComp, nilCheckA, makeFuncA, ptrs, ofValue, cellB, Nat.reduceAdd, Nat.reduceSub, Nat.reduceMul, Nat.reduceLT, Nat.reduceLeDiff, Nat.reduceGT, ↓reduceIte, Nat.reduceEqDiff, Nat.reduceBEq, reduceCtorEq, Int.reduceBEq, Int.reduceBNe, Int.reduceLT, Int.reduceLE, Int.reduceGT, Int.reduceGE, aggT_34, sizeT_34, bytesT_34, und_34, elemT_34, isSliceT_34, zero1_34, zeroT_34, aggT_110, sizeT_110, bytesT_110, fieldT_110_0, fieldT_110_1, placesT_110, zeroT_110, aggT_3, sizeT_3, bytesT_3, und_3, zero1_3, zeroT_3, Int.lt_irrefl, bsLV, oo34, apG_arr, hb']
      (refine Eq.trans ?_ rfl; kernel_rfl)
theorem putStep_len (x : LV) (s : List LV × Bool) (y : LV) : s.1.length < (putStep x s y).1.length ∧ (putStep x s y).1.length ≤ s.1.length + 2 := by
  unfold putStep
  by_cases h1 : s.2 = false ∧ x.v < y.v <;> by_cases h2 : x.v = y.v <;> simp [h1, h2] <;> omega
theorem putL_D (hx : ext 196 = none) (z : Bool) (l : List LV) (x : LV) (hs : l.length < 400000) : run Tryz.prog ext (.call 196 [dV (listD z 2 (l.map lvD)), lvV x] []) = some (.ret [dV (.s 2 ((putL l x).map lvD))] []) := by
  refine enter196 ext hx z l x _ ?_
  have key : ∀ (m k : Nat), k + m = l.length → ∀ s : List LV × Bool, s = (l.take k).foldl (putStep x) ([], false) → s.1.length ≤ 2 * k → (s.2 = true → s.1 ≠ []) →
      H196a ext 0 (E196 z l s.1 s.2 k) (O196 x s.1) = some (.ret [dV (.s 2 ((putL l x).map lvD))] []) := by
    intro m
    induction m with
    | zero =>
      intro k hk s hs1 hs2 hs3
      have : k = l.length := by omega
      subst this
      rw [List.take_length] at hs1
      rw [done196 ext z l x s.1 s.2 (by omega) hs3]
      unfold putL
      rw [← hs1]
    | succ m ih =>
      intro k hk s hs1 hs2 hs3
      have hlt : k < l.length := by omega
      refine step196 ext z l x l[k] s.1 s.2 k (by omega) (by simp [hlt]) (by omega) _ ?_
      rw [wr_id (by omega) (by omega)]
      have hp := putStep_len x s l[k]
      have := ih (k + 1) (by omega) (putStep x s l[k]) (by rw [List.take_succ_eq_append_getElem hlt, List.foldl_append, ← hs1]; rfl) (by omega) (fun _ e => by rw [e] at hp; simp at hp)
      exact_mod_cast this
  exact key l.length 0 (by omega) ([], false) rfl (by simp) (by simp)
/-! ### canonical -/
def E129 (z : Bool) (l : List LV) (k : Int) : Env := [(1, dV (listD z 2 (l.map lvD))), (4, .c (.ptr 0 0)), (5, .c (.ptr 1 0)), (6, iV k)]
def O129 (c : Int) (vs : List LV) : List O := [.box (levC zLev), .box [.d (.v (.int .i64 c)), .d (listD true 2 (vs.map lvD))]]
theorem enter129 (hx : ext 129 = none) (z : Bool) (l : List LV) (c : Int) (out : Option Out) (h : H129a ext 0 (E129 z l 0) (O129 c []) = out) : run Tryz.prog ext (.call 129 [iV c, dV (listD z 2 (l.map lvD))] []) = out := by
  unfold H129a at h
  (rw [run_eq]; simp only [stepA, hx, Tryz.func129, Tryz.f129, show retF 129 = false from rfl]; simp only [List.length_cons, List.length_nil, Nat.reduceAdd, Nat.reduceLeDiff, Nat.zero_le, ↓reduceIte, List.zipIdx_cons, List.zipIdx_nil, List.map_cons, List.map_nil])
  simp only [dV, iV, E129, O129, levC_z, List.map_nil] at h ⊢
  simp only [zS, nilEq, wantedA, opA, eff, boxA, cells, ev, gt, pt, putO, updO, setO, okC, loadA, cutC, fieldAddrA, fieldA, indexAddrA, indexA, builtinA, callOpA, callV, target, ptrV, lenS, binA, intOp, strOp, unA, num, lk, over, allocA, pickA, buildA, fillA, convertA, extractA, ofComp, nilCheckA, makeFuncA, ptrs, ofValue, cellB, Nat.reduceAdd, Nat.reduceSub, Nat.reduceMul, Nat.reduceLT, Nat.reduceLeDiff, Nat.reduceGT, ↓reduceIte, Nat.reduceEqDiff, Nat.reduceBEq, reduceCtorEq, Int.reduceBEq, Int.reduceBNe, Int.reduceLT, Int.reduceLE, Int.reduceGT, Int.reduceGE, aggT_36, sizeT_36, bytesT_36, fieldT_36_0, fieldT_36_1, placesT_36, zeroT_36, aggT_34, sizeT_34, bytesT_34, und_34, elemT_34, isSliceT_34, zero1_34, zeroT_34, aggT_110, sizeT_110, bytesT_110, fieldT_110_0, fieldT_110_1, placesT_110, zeroT_110, aggT_3, sizeT_3, bytesT_3, und_3, zero1_3, zeroT_3]
  (refine (r_inLoop_some ?_).trans h; kernel_rfl)
theorem putL_ne (l : List LV) (x : LV) : putL l x ≠ [] := by
  unfold putL
  dsimp only
  split
  · rename_i h
    have : ∀ (l : List LV) (s : List LV × Bool), (s.2 = true → s.1 ≠ []) → ((l.foldl (putStep x) s).2 = true → (l.foldl (putStep x) s).1 ≠ []) := by
      intro l
      induction l with
      | nil => intro s hs; exact hs
      | cons a l ih => intro s hs; exact ih _ (fun _ e => by have := (putStep_len x s a).1; rw [e] at this; simp at this)
    exact this l _ (by simp) h
  · simp
theorem step129 (hx : ext 196 = none) (z : Bool) (l : List LV) (y : LV) (c : Int) (vs : List LV) (k : Nat) (hb : vs.length < 400000) (hk : l[k]? = some y) (hl : (k : Int) < l.length) (out : Option Out) (h : H129a ext 0 (E129 z l (wr ((k : Int) + 1))) (O129 c (putL vs y)) = out) : H129a ext 0 (E129 z l k) (O129 c vs) = out := by
  have h0 : (0 : Int) ≤ k := by omega
  have hd : listD z 2 (l.map lvD) = .s 2 (l.map lvD) := listD_of_lt h0 (by simpa using hl)
  have hr := putL_D ext hx true vs y hb
  have hne : listD true 2 ((putL vs y).map lvD) = .s 2 ((putL vs y).map lvD) := listD_ne (by simpa using putL_ne vs y)
  unfold H129a at h ⊢
  simp only [dV, iV, E129, O129, levC_z, hd, hne, lvV, lvC] at h hr ⊢
  (rw [show (It.code L129a) = It.code (sub B129 [1, 1, 1, 0, 1, 0, 0]) from rfl]; simp only [B129, K129a, sub, Option.getD_some, Tryz.f129, ↓reduceIte, Nat.one_ne_zero])
  simp only [zS, nilEq, wantedA, opA, eff, boxA, cells, ev, gt, pt, putO, updO, setO, okC, loadA, cutC, fieldAddrA, fieldA, indexAddrA, indexA, builtinA, callOpA, callV, target, ptrV, lenS, binA, intOp, strOp, unA, num, lk, over, allocA, pickA, buildA, fillA, convertA, extractA, ofComp, nilCheckA, makeFuncA, ptrs, ofValue, cellB, Nat.reduceAdd, Nat.reduceSub, Nat.reduceMul, Nat.reduceLT, Nat.reduceLeDiff, Nat.reduceGT, ↓reduceIte, Nat.reduceEqDiff, Nat.reduceBEq, reduceCtorEq, Int.reduceBEq, Int.reduceBNe, Int.reduceLT, Int.reduceLE, Int.reduceGT, Int.reduceGE, aggT_36, sizeT_36, bytesT_36, fieldT_36_0, fieldT_36_1, placesT_36, zeroT_36, aggT_34, sizeT_34, bytesT_34, und_34, elemT_34, isSliceT_34, zero1_34, zeroT_34, aggT_110, sizeT_110, bytesT_110, fieldT_110_0, fieldT_110_1, placesT_110, zeroT_110, aggT_3, sizeT_3, bytesT_3, und_3, zero1_3, zeroT_3, drawA, holes_succ, holes_zero, Array.size, List.length, h0, hl, Int.toNat_natCast, hk, lvD, hr]
  rw [afterDraw_some _ _ _ _ (by kernel_rfl)]
  simp only [zS, nilEq, wantedA, opA, eff, boxA, cells, ev, gt, pt, putO, updO, setO, okC, loadA, cutC, fieldAddrA, fieldA, indexAddrA, indexA, builtinA, callOpA, callV, target, ptrV, lenS, binA, intOp, strOp, unA, num, lk, over, allocA, pickA, buildA, fillA, convertA, extractA, ofComp, nilCheckA, makeFuncA, ptrs, ofValue, cellB, Nat.reduceAdd, Nat.reduceSub, Nat.reduceMul, Nat.reduceLT, Nat.reduceLeDiff, Nat.reduceGT, ↓reduceIte, Nat.reduceEqDiff, Nat.reduceBEq, reduceCtorEq, Int.reduceBEq, Int.reduceBNe, Int.reduceLT, Int.reduceLE, Int.reduceGT, Int.reduceGE]
  (refine (r_inLoop_some ?_).trans h; kernel_rfl)
def E129b (k : Int) : Env := [(4, .c (.ptr 0 0)), (5, .c (.ptr 1 0)), (7, iV k)]
theorem mid129 (z : Bool) (l : List LV) (c : Int) (vs : List LV) (out : Option Out) (h : H129b ext 0 (E129b 0) (O129 c vs) = out) : H129a ext 0 (E129 z l l.length) (O129 c vs) = out := by
  unfold H129b at h
  unfold H129a
  simp only [dV, iV, E129, E129b, O129, levC_z] at h ⊢
  (rw [show (It.code L129a) = It.code (sub B129 [1, 1, 1, 0, 1, 0, 0]) from rfl]; simp only [B129, K129a, sub, Option.getD_some, Tryz.f129, ↓reduceIte, Nat.one_ne_zero])
  simp only [zS, nilEq, wantedA, opA, eff, boxA, cells, ev, gt, pt, putO, updO, setO, okC, loadA, cutC, fieldAddrA, fieldA, indexAddrA, indexA, builtinA, callOpA, callV, target, ptrV, lenS, binA, intOp, strOp, unA, num, lk, over, allocA, pickA, buildA, fillA, convertA, extractA, ofComp, nilCheckA, makeFuncA, ptrs, ofValue, cellB, Nat.reduceAdd, Nat.reduceSub, Nat.reduceMul, Nat.reduceLT, Nat.reduceLeDiff, Nat.reduceGT, ↓reduceIte, Nat.reduceEqDiff, Nat.reduceBEq, reduceCtorEq, Int.reduceBEq, Int.reduceBNe, Int.reduceLT, Int.reduceLE, Int.reduceGT, Int.reduceGE, aggT_36, sizeT_36, bytesT_36, fieldT_36_0, fieldT_36_1, placesT_36, zeroT_36, aggT_34, sizeT_34, bytesT_34, und_34, elemT_34, isSliceT_34, zero1_34, zeroT_34, aggT_110, sizeT_110, bytesT_110, fieldT_110_0, fieldT_110_1, placesT_110, zeroT_110, aggT_3, sizeT_3, bytesT_3, und_3, zero1_3, zeroT_3, Int.lt_irrefl]
  (refine (r_inLoop_some ?_).trans h; kernel_rfl)
def cutC1 (c : Int) (y : LV) : Int := if y.p ≥ c then 0 else c
theorem step129b (c : Int) (vs : List LV) (y : LV) (k : Nat) (hk : vs[k]? = some y) (hl : (k : Int) < vs.length) (out : Option Out) (h : H129b ext 0 (E129b (wr ((k : Int) + 1))) (O129 (cutC1 c y) vs) = out) : H129b ext 0 (E129b k) (O129 c vs) = out := by
  have h0 : (0 : Int) ≤ k := by omega
  have hd : listD true 2 (vs.map lvD) = .s 2 (vs.map lvD) := listD_of_lt h0 (by simpa using hl)
  unfold H129b at h ⊢
  simp only [dV, iV, E129b, O129, levC_z, hd, cutC1] at h ⊢
  (rw [show (It.code L129b) = It.code (sub B129 [1, 1, 1, 1, 0, 1, 0, 0]) from rfl]; simp only [B129, K129b, sub, Option.getD_some, Tryz.f129, ↓reduceIte, Nat.one_ne_zero])
  by_cases h1 : y.p ≥ c
  · simp only [h1, if_true] at h
    simp only [zS, nilEq, wantedA, opA, eff, boxA, cells, ev, gt, pt, putO, updO, setO, okC, loadA, cutC, fieldAddrA, fieldA, indexAddrA, indexA, builtinA, callOpA, callV, target, ptrV, lenS, binA, intOp, strOp, unA, num, lk, over, allocA, pickA, buildA, fillA, convertA, extractA, ofComp, nilCheckA, makeFuncA, ptrs, ofValue, cellB, Nat.reduceAdd, Nat.reduceSub, Nat.reduceMul, Nat.reduceLT, Nat.reduceLeDiff, Nat.reduceGT, ↓reduceIte, Nat.reduceEqDiff, Nat.reduceBEq, reduceCtorEq, Int.reduceBEq, Int.reduceBNe, Int.reduceLT, Int.reduceLE, Int.reduceGT, Int.reduceGE, aggT_36, sizeT_36, bytesT_36, fieldT_36_0, fieldT_36_1, placesT_36, zeroT_36, aggT_34, sizeT_34, bytesT_34, und_34, elemT_34, isSliceT_34, zero1_34, zeroT_34, aggT_110, sizeT_110, bytesT_110, fieldT_110_0, fieldT_110_1, placesT_110, zeroT_110, aggT_3, sizeT_3, bytesT_3, und_3, zero1_3, zeroT_3, drawA, holes_succ, holes_zero, Array.size, List.length, h0, hl, h1, Int.toNat_natCast, hk, lvD]
    rw [afterDraw_some _ _ _ _ (by kernel_rfl)]
    simp only [zS, nilEq, wantedA, opA, eff, boxA, cells, ev, gt, pt, putO, updO, setO, okC, loadA, cutC, fieldAddrA, fieldA, indexAddrA, indexA, builtinA, callOpA, callV, target, ptrV, lenS, binA, intOp, strOp, unA, num, lk, over, allocA, pickA, buildA, fillA, convertA, extractA, ofComp, nilCheckA, makeFuncA, ptrs, ofValue, cellB, Nat.reduceAdd, Nat.reduceSub, Nat.reduceMul, Nat.reduceLT, Nat.reduceLeDiff, Nat.reduceGT, ↓reduceIte, Nat.reduceEqDiff, Nat.reduceBEq, reduceCtorEq, Int.reduceBEq, Int.reduceBNe, Int.reduceLT, Int.reduceLE, Int.reduceGT, Int.reduceGE, aggT_36, sizeT_36, bytesT_36, fieldT_36_0, fieldT_36_1, placesT_36, zeroT_36, aggT_3, sizeT_3, bytesT_3, und_3, zero1_3, zeroT_3]
    (refine (r_inLoop_some ?_).trans h; kernel_rfl)
  · simp only [h1, if_false] at h
    simp only [zS, nilEq, wantedA, opA, eff, boxA, cells, ev, gt, pt, putO, updO, setO, okC, loadA, cutC, fieldAddrA, fieldA, indexAddrA, indexA, builtinA, callOpA, callV, target, ptrV, lenS, binA, intOp, strOp, unA, num, lk, over, allocA, pickA, buildA, fillA, convertA, extractA, ofComp, nilCheckA, makeFuncA, ptrs, ofValue, cellB, Nat.reduceAdd, Nat.reduceSub, Nat.reduceMul, Nat.reduceLT, Nat.reduceLeDiff, Nat.reduceGT, ↓reduceIte, Nat.reduceEqDiff, Nat.reduceBEq, reduceCtorEq, Int.reduceBEq, Int.reduceBNe, Int.reduceLT, Int.reduceLE, Int.reduceGT, Int.reduceGE, aggT_36, sizeT_36, bytesT_36, fieldT_36_0, fieldT_36_1, placesT_36, zeroT_36, aggT_34, sizeT_34, bytesT_34, und_34, elemT_34, isSliceT_34, zero1_34, zeroT_34, aggT_110, sizeT_110, bytesT_110, fieldT_110_0, fieldT_110_1, placesT_110, zeroT_110, aggT_3, sizeT_3, bytesT_3, und_3, zero1_3, zeroT_3, drawA, holes_succ, holes_zero, Array.size, List.length, h0, hl, h1, Int.toNat_natCast, hk, lvD]
    rw [afterDraw_some _ _ _ _ (by kernel_rfl)]
    simp only [zS, nilEq, wantedA, opA, eff, boxA, cells, ev, gt, pt, putO, updO, setO, okC, loadA, cutC, fieldAddrA, fieldA, indexAddrA, indexA, builtinA, callOpA, callV, target, ptrV, lenS, binA, intOp, strOp, unA, num, lk, over, allocA, pickA, buildA, fillA, convertA, extractA, ofComp, nilCheckA, makeFuncA, ptrs, ofValue, cellB, Nat.reduceAdd, Nat.reduceSub, Nat.reduceMul, Nat.reduceLT, Nat.reduceLeDiff, Nat.reduceGT, ↓reduceIte, Nat.reduceEqDiff, Nat.reduceBEq, reduceCtorEq, Int.reduceBEq, Int.reduceBNe, Int.reduceLT, Int.reduceLE, Int.reduceGT, Int.reduceGE, aggT_36, sizeT_36, bytesT_36, fieldT_36_0, fieldT_36_1, placesT_36, zeroT_36, aggT_3, sizeT_3, bytesT_3, und_3, zero1_3, zeroT_3]
    (refine (r_inLoop_some ?_).trans h; kernel_rfl)
theorem done129b (c : Int) (vs : List LV) : H129b ext 0 (E129b vs.length) (O129 c vs) = some (.ret [levV ⟨c, vs, true⟩] []) := by
  unfold H129b
  simp only [dV, iV, E129b, O129, levC_z, levV, levC, Lev.d]
  (rw [show (It.code L129b) = It.code (sub B129 [1, 1, 1, 1, 0, 1, 0, 0]) from rfl]; simp only [B129, K129b, sub, Option.getD_some, Tryz.f129, ↓reduceIte, Nat.one_ne_zero])
  simp only [zS, nilEq, wantedA, opA, eff, boxA, cells, ev, gt, pt, putO, updO, setO, okC, loadA, cutC, fieldAddrA, fieldA, indexAddrA, indexA, builtinA, callOpA, callV, target, ptrV, lenS, binA, intOp, strOp, unA, num, lk, over, allocA, pickA, buildA, fillA, convertA, extractA, ofComp, nilCheckA, makeFuncA, ptrs, ofValue, cellB, Nat.reduceAdd, Nat.reduceSub, Nat.reduceMul, Nat.reduceLT, Nat.reduceLeDiff, Nat.reduceGT, ↓reduceIte, Nat.reduceEqDiff, Nat.reduceBEq, reduceCtorEq, Int.reduceBEq, Int.reduceBNe, Int.reduceLT, Int.reduceLE, Int.reduceGT, Int.reduceGE, aggT_36, sizeT_36, bytesT_36, fieldT_36_0, fieldT_36_1, placesT_36, zeroT_36, aggT_34, sizeT_34, bytesT_34, und_34, elemT_34, isSliceT_34, zero1_34, zeroT_34, aggT_110, sizeT_110, bytesT_110, fieldT_110_0, fieldT_110_1, placesT_110, zeroT_110, aggT_3, sizeT_3, bytesT_3, und_3, zero1_3, zeroT_3, Int.lt_irrefl]
  (refine Eq.trans ?_ rfl; kernel_rfl)
def canonR (c : Int) (l : List LV) : Lev := let vs := l.foldl putL []; ⟨vs.foldl cutC1 c, vs, true⟩
theorem putStep_len' (x : LV) (s : List LV × Bool) (y : LV) (k : Nat) (h : s.1.length ≤ k + s.2.toNat) : (putStep x s y).1.length ≤ k + 1 + (putStep x s y).2.toNat := by
  obtain ⟨a, d⟩ := s
  unfold putStep
  cases d <;> by_cases h1 : x.v < y.v <;> by_cases h2 : x.v = y.v <;> simp [h1, h2] at h ⊢ <;> omega
theorem putL_len (l : List LV) (x : LV) : (putL l x).length ≤ l.length + 1 := by
  have : ∀ (l : List LV) (s : List LV × Bool) (k : Nat), s.1.length ≤ k + s.2.toNat → (l.foldl (putStep x) s).1.length ≤ k + l.length + (l.foldl (putStep x) s).2.toNat := by
    intro l
    induction l with
    | nil => intro s k h; simp only [List.foldl_nil, List.length_nil, Nat.add_zero]; exact h
    | cons a l ih => intro s k h; have := ih (putStep x s a) (k + 1) (putStep_len' x s a k h); simp only [List.foldl_cons, List.length_cons]; omega
  have := this l ([], false) 0 (by simp)
  unfold putL
  dsimp only
  split
  · rename_i h; rw [h] at this; simp at this; omega
  · rename_i h
    have h' : (l.foldl (putStep x) ([], false)).2 = false := by simpa using h
    rw [h'] at this; simp at this ⊢; omega
theorem puts_len : ∀ (l vs : List LV), (l.foldl putL vs).length ≤ vs.length + l.length
  | [], vs => by simp
  | a :: l, vs => by have := puts_len l (putL vs a); have := putL_len vs a; simp only [List.foldl_cons, List.length_cons]; omega
theorem canon129 (hx : ext 129 = none) (hx1 : ext 196 = none) (z : Bool) (l : List LV) (c : Int) (hs : l.length < 100000) : run Tryz.prog ext (.call 129 [iV c, dV (listD z 2 (l.map lvD))] []) = some (.ret [levV (canonR c l)] []) := by
  refine enter129 ext hx z l c _ ?_
  have key : ∀ (m k : Nat), k + m = l.length → H129a ext 0 (E129 z l k) (O129 c ((l.take k).foldl putL [])) = some (.ret [levV (canonR c l)] []) := by
    intro m
    induction m with
    | zero =>
      intro k hk
      rw [List.take_of_length_le (by omega), show k = l.length by omega]
      refine mid129 ext z l c _ _ ?_
      have hl := puts_len l []
      generalize hv : l.foldl putL [] = vs at hl
      have := loop_foldE (ρ := Unit) vs (fun k c => H129b ext 0 (E129b k) (O129 c vs)) (fun c y => .inl (cutC1 c y)) (fun _ => none) (fun c => some (.ret [levV ⟨c, vs, true⟩] [])) (by simp at hl; omega) (fun k y c hk hkl => fun out h => step129b ext c vs y k hk hkl out h) (fun c => done129b ext c vs) c
      rw [this, foldl_inl]
      unfold canonR
      rw [hv]
    | succ m ih =>
      intro k hk
      have hlt : k < l.length := by omega
      have hl := puts_len (l.take k) []
      refine step129 ext hx1 z l l[k] c _ k (by simp at hl; omega) (by simp [hlt]) (by omega) _ ?_
      rw [wr_id (by omega) (by omega)]
      have := ih (k + 1) (by omega)
      rw [List.take_succ_eq_append_getElem hlt, List.foldl_append] at this
      exact_mod_cast this
  simpa using key l.length 0 (by omega)
end Go.Proofs.YteenjodhmppgjaaGreatDoor.Am
end
