/- Part 3 of the proof of the card of TableFits, second form: no statement of its own; no conditions. -/
import Derived.Test.YteenjodhmppgjaaGreatDoorPa2
import Derived.Recover
import Derived.Test.YteenjodhmppgjaaGreatDoorProg
set_option linter.unusedSimpArgs false
set_option linter.unusedVariables false
set_option linter.defProp false
set_option linter.unusedSectionVars false
section
/- The abstract machine: a statement whose order is open: all orders come to one. -/
namespace Go.Proofs.YteenjodhmppgjaaGreatDoor.Am
open Go
/-- What the operation with number i did, in the text's order. -/
def Did (P : Program) (rec : Rec) (nt : Nat) (all : Array Oper) (slot : Nat) (o : Oper) (env env' : Env) (loc loc' : List O) (fp : List Nat × List Nat) : Prop :=
  dstOk nt o.dst = true ∧ ((wantedA all env o.guard = some false ∧ env' = putO env o.dst (.tup []) ∧ loc' = loc ∧ fp = ([], [slot])) ∨
    (wantedA all env o.guard = some true ∧ ∃ v upd rd, opA P rec (lk loc) slot (ev env) o.op = some ⟨.val v, upd, rd⟩ ∧ (∀ p ∈ upd, p.1 ≤ slot) ∧ env' = putO env o.dst v ∧ loc' = updO loc upd ∧ fp = (rd, slot :: upd.map (·.1))))
theorem trace {P : Program} {rec : Rec} {nt : Nat} {all : Array Oper} {base : Nat} : ∀ (l : List Oper) (i : Nat) (env : Env) (loc : List O) {env' : Env} {loc' : List O} {fps : List (List Nat × List Nat)}, drawA P rec nt all base l i env loc = some (env', loc', fps) →
    ∃ (E : Nat → Env) (L : Nat → List O), E 0 = env ∧ L 0 = loc ∧ E l.length = env' ∧ L l.length = loc' ∧ fps.length = l.length ∧
      ∀ (j : Nat) (o : Oper), l[j]? = some o → ∃ fp, fps[j]? = some fp ∧ Did P rec nt all (base + (i + j)) o (E j) (E (j + 1)) (L j) (L (j + 1)) fp
  | [], i, env, loc, env', loc', fps, h => by
    simp only [drawA, Option.some.injEq, Prod.mk.injEq] at h
    obtain ⟨rfl, rfl, rfl⟩ := h
    exact ⟨fun _ => env, fun _ => loc, rfl, rfl, rfl, rfl, rfl, fun j o h => by simp at h⟩
  | o :: l, i, env, loc, env', loc', fps, h => by
    simp only [drawA] at h
    split at h
    case isFalse => cases h
    rename_i hd
    have fin : ∀ (env1 : Env) (loc1 : List O) (fp : List Nat × List Nat), Did P rec nt all (base + i) o env env1 loc loc1 fp → (∃ fps', drawA P rec nt all base l (i + 1) env1 loc1 = some (env', loc', fps') ∧ fps = fp :: fps') →
        ∃ (E : Nat → Env) (L : Nat → List O), E 0 = env ∧ L 0 = loc ∧ E (o :: l).length = env' ∧ L (o :: l).length = loc' ∧ fps.length = (o :: l).length ∧
          ∀ (j : Nat) (o' : Oper), (o :: l)[j]? = some o' → ∃ fp, fps[j]? = some fp ∧ Did P rec nt all (base + (i + j)) o' (E j) (E (j + 1)) (L j) (L (j + 1)) fp := by
      rintro env1 loc1 fp hdid ⟨fps', hr, rfl⟩
      obtain ⟨E, L, h1, h2, h3, h4, h5, h6⟩ := trace l (i + 1) env1 loc1 hr
      refine ⟨fun k => match k with | 0 => env | k + 1 => E k, fun k => match k with | 0 => loc | k + 1 => L k, rfl, rfl, h3, h4, by simp [h5], fun j o' hj => ?_⟩
      cases j with
      | zero =>
        simp only [List.getElem?_cons_zero, Option.some.injEq] at hj
        subst hj
        refine ⟨fp, rfl, ?_⟩
        dsimp only
        rw [h1, h2]
        exact hdid
      | succ j =>
        obtain ⟨fp', p1, p2⟩ := h6 j o' (by simpa using hj)
        refine ⟨fp', by simpa using p1, ?_⟩
        have e : base + (i + (j + 1)) = base + (i + 1 + j) := by omega
        rw [e]
        exact p2
    cases hw : wantedA all env o.guard with
    | none => simp [hw] at h
    | some b =>
      simp only [hw] at h
      cases b with
      | false =>
        dsimp only at h
        cases hr : drawA P rec nt all base l (i + 1) (putO env o.dst (.tup [])) loc with
        | none => simp [hr] at h
        | some x =>
          obtain ⟨e, lo, fps'⟩ := x
          simp only [hr, Option.some.injEq, Prod.mk.injEq] at h
          obtain ⟨rfl, rfl, rfl⟩ := h
          exact fin _ _ _ ⟨hd, .inl ⟨hw, rfl, rfl, rfl⟩⟩ ⟨fps', hr, rfl⟩
      | true =>
        dsimp only at h
        cases hop : opA P rec (lk loc) (base + i) (ev env) o.op with
        | none => simp [hop] at h
        | some ef =>
          obtain ⟨res, upd, rd⟩ := ef
          cases res with
          | pan x => simp [hop] at h
          | val v =>
            simp only [hop] at h
            split at h
            case isFalse => cases h
            rename_i hu
            cases hr : drawA P rec nt all base l (i + 1) (putO env o.dst v) (updO loc upd) with
            | none => simp [hr] at h
            | some x =>
              obtain ⟨e, lo, fps'⟩ := x
              simp only [hr, Option.some.injEq, Prod.mk.injEq] at h
              obtain ⟨rfl, rfl, rfl⟩ := h
              exact fin _ _ _ ⟨hd, .inr ⟨hw, v, upd, rd, hop, fun p hp => by simpa using List.all_eq_true.1 hu p hp, rfl, rfl, rfl⟩⟩ ⟨fps', hr, rfl⟩

/-- Behind the last operation below k that is in S and writes. -/
def lw (S W : Nat → Bool) : Nat → Nat
  | 0 => 0
  | k + 1 => if (S k && W k) = true then k + 1 else lw S W k
theorem lw_congr {S W S' W' : Nat → Bool} : ∀ {k : Nat}, (∀ j, j < k → (S j && W j) = (S' j && W' j)) → lw S W k = lw S' W' k
  | 0, _ => rfl
  | k + 1, h => by simp only [lw]; rw [h k (by omega), lw_congr fun j hj => h j (by omega)]
theorem lw_below {S W : Nat → Bool} {i : Nat} : ∀ {k : Nat}, i ≤ k → (∀ j, i ≤ j → j < k → (S j && W j) = false) → lw S W k = lw S W i
  | 0, h, _ => by have : i = 0 := by omega
                  rw [this]
  | k + 1, h, hf => by
    rcases Nat.lt_or_ge i (k + 1) with h1 | h1
    · simp only [lw]
      rw [hf k (by omega) (by omega), if_neg (by simp), lw_below (by omega) fun j h2 h3 => hf j h2 (by omega)]
    · have : i = k + 1 := by omega
      rw [this]
theorem lw_top {S W : Nat → Bool} {i k : Nat} (hi : i < k) (h : (S i && W i) = true) (hf : ∀ j, i < j → j < k → (S j && W j) = false) : lw S W k = i + 1 := by
  rw [lw_below (i := i + 1) (by omega) (fun j h1 h2 => hf j (by omega) h2)]
  simp only [lw, h, if_true]
theorem lw_zero {S W : Nat → Bool} {k : Nat} (hf : ∀ j, j < k → (S j && W j) = false) : lw S W k = 0 := by
  rw [lw_below (i := 0) (by omega) (fun j _ h => hf j h)]; rfl
/-- A value that only the writers turn, at the last writer. -/
theorem lw_value {γ : Type} {f : Nat → γ} {W : Nat → Bool} {n : Nat} (h : ∀ j, j < n → W j = false → f (j + 1) = f j) : ∀ k, k ≤ n → f k = f (lw (fun _ => true) W k)
  | 0, _ => rfl
  | k + 1, hk => by
    simp only [lw, Bool.true_and]
    by_cases hw : W k = true
    · rw [if_pos hw]
    · rw [if_neg hw, h k (by omega) (by simpa using hw)]
      exact lw_value h k (by omega)
/-! ### bits -/
theorem mask_bit {acc : List Nat} {i : Nat} : ∀ {es : List Edge}, (mask acc es).testBit i = true → ∃ e ∈ es, Region.binds .any e = true ∧ (e.on = i ∨ (acc.getD e.on 0).testBit i = true)
  | [], h => by simp [mask] at h
  | e :: r, h => by
    simp only [mask] at h
    split at h
    · rename_i hb
      simp only [Nat.testBit_or, Bool.or_eq_true] at h
      rcases h with (h | h) | h
      · rw [Nat.testBit_two_pow] at h
        exact ⟨e, List.mem_cons_self, hb, .inl (by simpa using h)⟩
      · exact ⟨e, List.mem_cons_self, hb, .inr h⟩
      · obtain ⟨e', h1, h2⟩ := mask_bit h
        exact ⟨e', List.mem_cons_of_mem _ h1, h2⟩
    · obtain ⟨e', h1, h2⟩ := mask_bit h
      exact ⟨e', List.mem_cons_of_mem _ h1, h2⟩
theorem befs_prefix : ∀ (l : List Oper) (acc : List Nat), ∃ t, befs acc l = acc ++ t ∧ t.length = l.length
  | [], acc => ⟨[], by simp [befs], rfl⟩
  | o :: l, acc => by
    obtain ⟨t, h1, h2⟩ := befs_prefix l (acc ++ [mask acc o.after.toList])
    exact ⟨mask acc o.after.toList :: t, by rw [befs, h1]; simp, by simp [h2]⟩
theorem befs_get : ∀ (l : List Oper) (acc : List Nat) (j : Nat) (o : Oper), l[j]? = some o → (befs acc l).getD (acc.length + j) 0 = mask ((befs acc l).take (acc.length + j)) o.after.toList
  | [], _, _, _, h => by simp at h
  | x :: l, acc, j, o, h => by
    cases j with
    | zero =>
      simp only [List.getElem?_cons_zero, Option.some.injEq] at h
      subst h
      obtain ⟨t, h1, h2⟩ := befs_prefix l (acc ++ [mask acc x.after.toList])
      rw [befs, h1]
      simp [List.getD]
    | succ j =>
      have := befs_get l (acc ++ [mask acc x.after.toList]) j o (by simpa using h)
      rw [befs]
      simp only [List.length_append, List.length_cons, List.length_nil] at this
      have e : acc.length + (j + 1) = acc.length + (0 + 1) + j := by omega
      rw [e]
      exact this
theorem bef_bit {all : Array Oper} {j i : Nat} {o : Oper} (ho : all[j]? = some o) (h : ((befs [] all.toList).getD j 0).testBit i = true) :
    ∃ e ∈ o.after.toList, Region.binds .any e = true ∧ (e.on = i ∨ ((befs [] all.toList).getD e.on 0).testBit i = true) := by
  have := befs_get all.toList [] j o (by simpa using ho)
  simp only [List.length_nil, Nat.zero_add] at this
  rw [this] at h
  obtain ⟨e, h1, h2, h3⟩ := mask_bit h
  refine ⟨e, h1, h2, h3.imp id fun h4 => ?_⟩
  simp only [List.getD, List.getElem?_take] at h4 ⊢
  split at h4
  · exact h4
  · simp at h4
theorem back_edge : ∀ {l : List Oper} {n : Nat}, backOk n l = true → ∀ {j : Nat} {o : Oper}, l[j]? = some o → ∀ e ∈ o.after.toList, Region.binds .any e = true → e.on < n + j
  | [], _, _, _, _, h, _, _, _ => by simp at h
  | x :: l, n, hb, j, o, h, e, he, hbind => by
    simp only [backOk, Bool.and_eq_true] at hb
    cases j with
    | zero =>
      simp only [List.getElem?_cons_zero, Option.some.injEq] at h
      subst h
      have := List.all_eq_true.1 hb.1 e he
      rw [hbind] at this
      simpa using this
    | succ j =>
      have := back_edge hb.2 (j := j) (o := o) (by simpa using h) e he hbind
      omega
theorem feet_get {all : Array Oper} : ∀ {l : List Oper} {fps : List (List Nat × List Nat)}, fps.length = l.length → ∀ {j : Nat} {o : Oper} {fp : List Nat × List Nat}, l[j]? = some o → fps[j]? = some fp → (feet all l fps)[j]? = some (foot all o fp)
  | [], _, _, _, _, _, h, _ => by simp at h
  | x :: l, [], h, _, _, _, _, _ => by simp at h
  | x :: l, y :: fps, hl, j, o, fp, h1, h2 => by
    cases j with
    | zero => simp at h1 h2; subst h1 h2; rfl
    | succ j => exact feet_get (l := l) (by simpa using hl) (by simpa using h1) (by simpa using h2)
theorem feet_len {all : Array Oper} : ∀ {l : List Oper} {fps : List (List Nat × List Nat)}, fps.length = l.length → (feet all l fps).length = l.length
  | [], fps, _ => by cases fps <;> rfl
  | x :: l, [], h => by simp at h
  | x :: l, y :: fps, hl => by simp [feet, feet_len (l := l) (by simpa using hl)]
theorem apart_no {a b : List Nat} (h : apart a b = true) {x : Nat} (ha : x ∈ a) : x ∉ b := by
  have := List.all_eq_true.1 h x ha
  simpa using this
theorem updL_key : ∀ (u : List (Nat × O)) (l1 l2 : Look) {id : Nat}, id ∈ u.map (·.1) → updL l1 u id = updL l2 u id
  | [], _, _, _, h => by simp at h
  | (j, o) :: r, l1, l2, id, h => by
    simp only [updL]
    by_cases hr : id ∈ r.map (·.1)
    · exact updL_key r _ _ hr
    · have : id = j := by simpa [hr] using h
      subst this
      have hn : ∀ p ∈ r, p.1 ≠ id := fun p hp e => hr (List.mem_map.2 ⟨p, hp, e⟩)
      rw [updL_notin r _ hn, updL_notin r _ hn, upd1_self, upd1_self]
theorem lk_holes (loc : List O) (n : Nat) : lk (loc ++ holes n) = lk loc := by
  funext id
  unfold lk holes
  rcases Nat.lt_or_ge id loc.length with h | h
  · rw [List.getElem?_append_left h]
  · rw [List.getElem?_append_right h, List.getElem?_eq_none h, List.getElem?_replicate]
    by_cases hn : id - loc.length < n
    · rw [if_pos hn]
    · rw [if_neg hn]
section
variable {P : Program}
theorem wanted_at {all : Array Oper} {env : Env} {o : Oper} {b : Bool} {w : World} {F : Nat → Prop} {β : Int → Nat} {look : Look} {a : Act} (hE : ∀ t ∈ seen all o, RVs w F β look (a.tmps.getD t undef) (gt env t)) (h : wantedA all env o.guard = some b) : Region.wanted o (yielded all a.tmps) = b := by
  unfold wantedA at h
  unfold Region.wanted
  cases hg : o.guard with
  | none => rw [hg] at h; simpa using h
  | some p =>
    obtain ⟨j, want⟩ := p
    rw [hg] at h
    dsimp only at h ⊢
    cases hj : all[j]? with
    | none => simp [hj] at h
    | some oj =>
      simp only [hj] at h
      cases hd : oj.dst with
      | none => simp [hd] at h
      | some t =>
        simp only [hd] at h
        split at h
        · rename_i c hc
          simp only [Option.some.injEq] at h
          subst h
          have h1 := hE t (by unfold seen; rw [hg]; simp [hj, hd])
          rw [hc] at h1
          have h2 : a.tmps.getD t undef = .bool c := (rv_v h1).1
          have h3 : a.tmps[t]? = some (.bool c) := by
            rw [Array.getD_eq_getD_getElem?] at h2
            cases h4 : a.tmps[t]? with
            | none => rw [h4] at h2; cases h2
            | some y => rw [h4] at h2; simp at h2; rw [h2]
          have h5 : yielded all a.tmps j = some c := by
            unfold yielded
            rw [hj]
            simp only [Option.bind_some, hd, h3]
          rw [h5]
          cases c <;> cases want <;> rfl
        · rename_i hc
          simp only [Option.some.injEq] at h
          subst h
          have h1 := hE t (by unfold seen; rw [hg]; simp [hj, hd])
          rw [hc] at h1
          obtain ⟨u, h2, _⟩ := h1
          have h5 : yielded all a.tmps j = none := by
            unfold yielded
            rw [hj]
            simp only [Option.bind_some, hd]
            rw [Array.getD_eq_getD_getElem?] at h2
            cases h4 : a.tmps[t]? with
            | none => rfl
            | some y => rw [h4] at h2; simp at h2; rw [h2]
          rw [h5]
          rfl
        · cases h
theorem draw_ok (hN : Named P) {rec : Rec} (hrec : RecOK P rec) {w : World} {F : Nat → Prop} {β : Int → Nat} {loc loc' : List O} {env env' : Env} {fps : List (List Nat × List Nat)} {all : Array Oper} {nt : Nat} (hS : Sim w F β (lk loc)) {a : Act} (hE : EnvR w F β (lk loc) a.tmps env) (ha : a.tmps.size = nt) (hd : a.defers = [])
    (h : drawA P rec nt all loc.length all.toList 0 env (loc ++ holes all.size) = some (env', loc', fps)) (hok : drawOk all fps = true) {Q : Exit → Act → World → Prop}
    (hq : ∀ a' w' β', Sim w' F β' (lk loc') → EnvR w' F β' (lk loc') a'.tmps env' → St (fun _ => True) w β (lk loc) w' β' (lk loc') → a'.tmps.size = nt → a'.defers = [] → Q .normal a' w') :
    wpAny P .any all Q all.size (Array.replicate all.size false) a w := by
  obtain ⟨E, L, hE0, hL0, hEn, hLn, hfl, hdid⟩ := trace all.toList 0 env (loc ++ holes all.size) h
  simp only [Array.length_toList] at hEn hLn hfl
  generalize hn : all.size = n at *
  have hdid' : ∀ j o, all[j]? = some o → ∃ fp, fps[j]? = some fp ∧ Did P rec nt all (loc.length + j) o (E j) (E (j + 1)) (L j) (L (j + 1)) fp := by
    intro j o hj
    obtain ⟨fp, h1, h2⟩ := hdid j o (by simpa using hj)
    rw [Nat.zero_add] at h2
    exact ⟨fp, h1, h2⟩
  unfold drawOk at hok
  simp only [Bool.and_eq_true] at hok
  obtain ⟨hback, hfree⟩ := hok
  generalize hX : feet all all.toList fps = X at hfree
  generalize hB : befs [] all.toList = B at hfree
  have hXl : X.length = n := by rw [← hX, feet_len (by simp [hfl, hn])]; simp [hn]
  have hXg : ∀ (j : Nat) (o : Oper) (fp : List Nat × List Nat), all[j]? = some o → fps[j]? = some fp → X[j]? = some (foot all o fp) := by
    intro j o fp h1 h2
    rw [← hX]
    exact feet_get (by simp [hfl, hn]) (by simpa using h1) h2
  have hops : ∀ j, j < n → ∃ o, all[j]? = some o := by
    intro j hj
    exact ⟨all[j]'(by omega), by simp [hn, hj]⟩
  have hlt : ∀ {j : Nat} {o : Oper}, all[j]? = some o → j < n := by
    intro j o hj
    rcases Nat.lt_or_ge j n with h | h
    · exact h
    · rw [Array.getElem?_eq_none (by omega)] at hj; cases hj
  -- two operations: in order, or apart
  have hpair : ∀ i j x y, i < j → X[i]? = some x → X[j]? = some y → (B.getD j 0).testBit i = true ∨ free2 x y = true := by
    intro i j x y hij hi hj
    unfold freeAll at hfree
    have hjl : j < X.length := by
      rcases Nat.lt_or_ge j X.length with h | h
      · exact h
      · rw [List.getElem?_eq_none h] at hj; cases hj
    have := List.all_eq_true.1 (List.all_eq_true.1 hfree j (List.mem_range.2 hjl)) i (List.mem_range.2 hij)
    rw [hi, hj] at this
    simpa using this
  -- footprints
  let dstOf : Nat → List Nat := fun j => ((X[j]?).map (·.dst)).getD []
  let wrOf : Nat → List Nat := fun j => ((X[j]?).map (·.wr)).getD []
  let Wt : Nat → Nat → Bool := fun t j => (dstOf j).contains t
  let Wi : Nat → Nat → Bool := fun id j => (wrOf j).contains id
  have hEstep : ∀ t j, j < n → Wt t j = false → gt (E (j + 1)) t = gt (E j) t := by
    intro t j hj hw
    obtain ⟨o, ho⟩ := hops j hj
    obtain ⟨fp, hf, _, hdo⟩ := hdid' j o ho
    have hx := hXg j o fp ho hf
    have hne : o.dst ≠ some t := by
      intro e
      simp [Wt, dstOf, hx, foot, e] at hw
    have hput : ∀ v, gt (putO (E j) o.dst v) t = gt (E j) t := by
      intro v
      cases hd : o.dst with
      | none => rfl
      | some d =>
        simp only [putO, gt_pt]
        rw [if_neg (fun e => hne (by rw [hd, e]))]
    rcases hdo with ⟨_, h1, _, _⟩ | ⟨_, v, upd, rd, _, _, h1, _, _⟩
    · rw [h1]; exact hput _
    · rw [h1]; exact hput _
  have hLstep : ∀ id j, j < n → Wi id j = false → lk (L (j + 1)) id = lk (L j) id := by
    intro id j hj hw
    obtain ⟨o, ho⟩ := hops j hj
    obtain ⟨fp, hf, _, hdo⟩ := hdid' j o ho
    have hx := hXg j o fp ho hf
    rcases hdo with ⟨_, _, h1, _⟩ | ⟨_, v, upd, rd, _, _, _, h1, h2⟩
    · rw [h1]
    · rw [h1, lk_updO]
      apply updL_notin
      intro p hp e
      subst h2
      have : p.1 ∈ upd.map (·.1) := List.mem_map.2 ⟨p, hp, rfl⟩
      rw [e] at this
      have hmem : id ∈ (foot all o (rd, (loc.length + j) :: upd.map (·.1))).wr := List.mem_cons_of_mem _ this
      simp only [Wi, wrOf, hx, Option.map_some, Option.getD_some] at hw
      have hc : (foot all o (rd, (loc.length + j) :: upd.map (·.1))).wr.contains id = true := by simpa using hmem
      rw [hc] at hw; cases hw
  have hEval : ∀ t k, k ≤ n → gt (E k) t = gt (E (lw (fun _ => true) (Wt t) k)) t := fun t k hk => lw_value (f := fun k => gt (E k) t) (hEstep t) k hk
  have hLval : ∀ id k, k ≤ n → lk (L k) id = lk (L (lw (fun _ => true) (Wi id) k)) id := fun id k hk => lw_value (f := fun k => lk (L k) id) (hLstep id) k hk
  -- writers of a slot that is new
  have hwrLe : ∀ j id, j < n → id ∈ wrOf j → id ≤ loc.length + j := by
    intro j id hj hid
    obtain ⟨o, ho⟩ := hops j hj
    obtain ⟨fp, hf, _, hdo⟩ := hdid' j o ho
    have hx := hXg j o fp ho hf
    simp only [wrOf, hx, foot, Option.map_some, Option.getD_some] at hid
    rcases hdo with ⟨_, _, _, rfl⟩ | ⟨_, v, upd, rd, _, hle, _, _, rfl⟩
    · simp at hid; omega
    · simp only [List.mem_cons] at hid
      rcases hid with rfl | hid
      · exact Nat.le_refl _
      · obtain ⟨p, hp, rfl⟩ := List.mem_map.1 hid
        exact hle p hp
  have hL0n : ∀ i, lk (L 0) (loc.length + i) = none := by
    intro i
    rw [hL0, lk_holes]
    simp [lk]
  have hslotL : ∀ i, i < n → lk (L i) (loc.length + i) = none := by
    intro i hi
    rw [hLval _ i (by omega), lw_zero, hL0n]
    intro j hj
    have : Wi (loc.length + i) j = false := by
      cases hw : Wi (loc.length + i) j with
      | false => rfl
      | true =>
        have := hwrLe j (loc.length + i) (by omega) (by simpa [Wi] using hw)
        omega
    rw [this, Bool.and_false]
  -- the induction
  let SS : Array Bool → Nat → Bool := fun listed j => listed.getD j false
  let envS : (Nat → Bool) → Nat → V := fun S t => gt (E (lw S (Wt t) n)) t
  let lookS : (Nat → Bool) → Look := fun S id => lk (L (lw S (Wi id) n)) id
  have hlookH : ∀ S, NoHole (lookS S) := fun S id h => noHole_lk _ id h
  have main : ∀ (fuel : Nat) (listed : Array Bool) (a : Act) (w1 : World) (β1 : Int → Nat), listed.size = n → ((List.range n).filter fun j => !SS listed j).length ≤ fuel →
      (∀ j, j < n → SS listed j = true → ∀ i, (B.getD j 0).testBit i = true → SS listed i = true) →
      Sim w1 F β1 (lookS (SS listed)) → (∀ t, RVs w1 F β1 (lookS (SS listed)) (a.tmps.getD t undef) (envS (SS listed) t)) → a.tmps.size = nt → a.defers = [] → St (fun _ => True) w β (lk loc) w1 β1 (lookS (SS listed)) →
      wpAny P .any all Q fuel listed a w1 := by
    intro fuel
    -- when all are listed
    have final : ∀ (listed : Array Bool) (a : Act) (w1 : World) (β1 : Int → Nat), listed.size = n → (∀ j, j < n → SS listed j = true) → Sim w1 F β1 (lookS (SS listed)) → (∀ t, RVs w1 F β1 (lookS (SS listed)) (a.tmps.getD t undef) (envS (SS listed) t)) → a.tmps.size = nt → a.defers = [] → St (fun _ => True) w β (lk loc) w1 β1 (lookS (SS listed)) → Q .normal a w1 := by
      intro listed a w1 β1 hls hall h1 h2 h3 h4 h5
      have e1 : lookS (SS listed) = lk loc' := by
        funext id
        show lk (L (lw (SS listed) (Wi id) n)) id = _
        rw [← hLn, hLval id n (Nat.le_refl _)]
        rw [lw_congr fun j hj => by rw [hall j hj]]
      have e2 : ∀ t, envS (SS listed) t = gt env' t := by
        intro t
        show gt (E (lw (SS listed) (Wt t) n)) t = _
        rw [← hEn, hEval t n (Nat.le_refl _)]
        rw [lw_congr fun j hj => by rw [hall j hj]]
      rw [e1] at h1 h5
      refine hq a w1 β1 h1 (fun t => ?_) h5 h3 h4
      have := h2 t
      rw [e1, e2] at this
      exact this
    have noReady : ∀ listed : Array Bool, listed.size = n → Region.ready .any all listed = [] → ∀ j, j < n → SS listed j = true := by
      intro listed hls hr
      have key : ∀ j, j < n → (∀ i, i < j → SS listed i = true) → SS listed j = true := by
        intro j hj hbelow
        cases hs : SS listed j with
        | true => rfl
        | false =>
          exfalso
          obtain ⟨o, ho⟩ := hops j hj
          have : j ∈ Region.ready .any all listed := by
            unfold Region.ready
            rw [List.mem_filter]
            refine ⟨List.mem_range.2 (by omega), ?_⟩
            have h1 : listed.getD j true = false := by
              have : listed.getD j false = false := hs
              simp only [Array.getD_eq_getD_getElem?] at this ⊢
              rw [Array.getElem?_eq_getElem (by omega)] at this ⊢
              simpa using this
            rw [h1, ho]
            simp only [Bool.not_false, Option.map_some, Option.getD_some, Bool.true_and]
            rw [Array.all_eq_true_iff_forall_mem]
            intro e he
            cases hb : Region.binds .any e with
            | false => rfl
            | true =>
              have := back_edge hback (j := j) (o := o) (by simpa using ho) e (by simpa using he) hb
              have := hbelow e.on (by omega)
              simpa [SS] using this
          rw [hr] at this
          simp at this
      intro j
      induction j using Nat.strongRecOn with
      | _ j ih => exact fun hj => key j hj fun i hi => ih i hi (by omega)
    induction fuel with
    | zero =>
      intro listed a w1 β1 hls hc hdc h1 h2 h3 h4 h5
      have hall : ∀ j, j < n → SS listed j = true := by
        intro j hj
        cases hs : SS listed j with
        | true => rfl
        | false =>
          have : j ∈ (List.range n).filter fun j => !SS listed j := List.mem_filter.2 ⟨List.mem_range.2 hj, by simp [hs]⟩
          have hnil : ((List.range n).filter fun j => !SS listed j) = [] := List.eq_nil_of_length_eq_zero (by omega)
          rw [hnil] at this
          simp at this
      refine ⟨?_, final listed a w1 β1 hls hall h1 h2 h3 h4 h5⟩
      unfold Region.ready
      rw [List.filter_eq_nil_iff]
      intro j hj
      have hj' := List.mem_range.1 hj
      have := hall j (by omega)
      have h1 : listed.getD j true = true := by
        have : listed.getD j false = true := this
        simp only [Array.getD_eq_getD_getElem?] at this ⊢
        rw [Array.getElem?_eq_getElem (by omega)] at this ⊢
        simpa using this
      rw [h1]
      simp
    | succ fuel ih =>
      intro listed a w1 β1 hls hc hdc h1 h2 h3 h4 h5
      refine ⟨fun hr => final listed a w1 β1 hls (noReady listed hls hr) h1 h2 h3 h4 h5, fun i hi => ?_⟩
      -- operation i, which may go next
      unfold Region.ready at hi
      rw [List.mem_filter] at hi
      obtain ⟨hir, hi2⟩ := hi
      have hin : i < n := by have := List.mem_range.1 hir; omega
      obtain ⟨o, ho⟩ := hops i hin
      simp only [ho, Option.map_some, Option.getD_some, Bool.and_eq_true, Bool.not_eq_true'] at hi2
      obtain ⟨hnl, hpre⟩ := hi2
      have hSi : SS listed i = false := by
        show listed.getD i false = false
        simp only [Array.getD_eq_getD_getElem?] at hnl ⊢
        rw [Array.getElem?_eq_getElem (by omega)] at hnl ⊢
        simpa using hnl
      have hpre' : ∀ e ∈ o.after.toList, Region.binds .any e = true → SS listed e.on = true := by
        intro e he hb
        have := Array.all_eq_true_iff_forall_mem.1 hpre e (by simpa using he)
        rw [hb] at this
        simpa [SS] using this
      have hbits : ∀ j, (B.getD i 0).testBit j = true → SS listed j = true := by
        intro j hb
        rw [← hB] at hb
        obtain ⟨e, p1, p2, p3⟩ := bef_bit ho hb
        have hon := hpre' e p1 p2
        rcases p3 with rfl | p3
        · exact hon
        · rw [hB] at p3
          have hlt' := back_edge hback (j := i) (o := o) (by simpa using ho) e p1 p2
          exact hdc e.on (by omega) hon j p3
      obtain ⟨fp, hfp, hdst, hdo⟩ := hdid' i o ho
      have hx := hXg i o fp ho hfp
      -- what conflicts with i is before it and listed, or behind it and not
      have conflict : ∀ j y, j < n → X[j]? = some y → j ≠ i → (j < i → free2 y (foot all o fp) = false) → (i < j → free2 (foot all o fp) y = false) → SS listed j = decide (j < i) := by
        intro j y hj hy hne h1 h2
        rcases Nat.lt_or_gt_of_ne hne with hlt | hgt
        · rcases hpair j i y _ hlt hy hx with hb | hf
          · rw [hbits j hb]; simp [hlt]
          · rw [h1 hlt] at hf; cases hf
        · rcases hpair i j _ y hgt hx hy with hb | hf
          · have : SS listed j ≠ true := by
              intro hs
              have := hdc j hj hs i hb
              rw [hSi] at this; cases this
            have hnd : decide (j < i) = false := by simp; omega
            rw [hnd]
            simpa using this
          · rw [h2 hgt] at hf; cases hf
      have notFree : ∀ {x y : Foot} {l1 l2 : List Nat} {z : Nat}, z ∈ l1 → z ∈ l2 → apart l1 l2 = true → False := by
        intro x y l1 l2 z h1 h2 h3
        exact apart_no h3 h1 h2
      have dst_of : ∀ j t, Wt t j = true → ∃ y, X[j]? = some y ∧ t ∈ y.dst := by
        intro j t hw
        simp only [Wt, dstOf] at hw
        cases hy : X[j]? with
        | none => simp [hy] at hw
        | some y => exact ⟨y, rfl, by simpa [hy] using hw⟩
      have wr_of : ∀ j id, Wi id j = true → ∃ y, X[j]? = some y ∧ id ∈ y.wr := by
        intro j id hw
        simp only [Wi, wrOf] at hw
        cases hy : X[j]? with
        | none => simp [hy] at hw
        | some y => exact ⟨y, rfl, by simpa [hy] using hw⟩
      have agree : ∀ (W : Nat → Bool), (∀ j, j < n → j ≠ i → W j = true → SS listed j = decide (j < i)) → lw (SS listed) W n = lw (fun _ => true) W i := by
        intro W hW
        have e1 : lw (SS listed) W n = lw (fun j => decide (j < i)) W n := by
          apply lw_congr
          intro j hj
          by_cases hji : j = i
          · subst hji; rw [hSi]; simp
          · cases hw : W j with
            | false => simp
            | true => rw [hW j hj hji hw]
        rw [e1, lw_below (i := i) (by omega) (fun j h1 _ => by
          have : decide (j < i) = false := by simp; omega
          rw [this, Bool.false_and])]
        apply lw_congr
        intro j hj
        simp [hj]
      have envA : ∀ t ∈ seen all o, envS (SS listed) t = gt (E i) t := by
        intro t ht
        show gt (E (lw (SS listed) (Wt t) n)) t = _
        rw [agree (Wt t), ← hEval t i (by omega)]
        intro j hj hne hw
        obtain ⟨y, hy, hty⟩ := dst_of j t hw
        refine conflict j y hj hy hne (fun _ => ?_) (fun _ => ?_)
        · cases hf : free2 y (foot all o fp) with
          | false => rfl
          | true =>
            simp only [free2, Bool.and_eq_true] at hf
            exact absurd ht (apart_no hf.1.1.1.1.1 hty)
        · cases hf : free2 (foot all o fp) y with
          | false => rfl
          | true =>
            simp only [free2, Bool.and_eq_true] at hf
            exact absurd ht (apart_no hf.1.1.1.1.2 hty)
      have lookA : ∀ id ∈ fp.1, lookS (SS listed) id = lk (L i) id := by
        intro id hid
        show lk (L (lw (SS listed) (Wi id) n)) id = _
        rw [agree (Wi id), ← hLval id i (by omega)]
        intro j hj hne hw
        obtain ⟨y, hy, hty⟩ := wr_of j id hw
        refine conflict j y hj hy hne (fun _ => ?_) (fun _ => ?_)
        · cases hf : free2 y (foot all o fp) with
          | false => rfl
          | true =>
            simp only [free2, Bool.and_eq_true] at hf
            exact absurd hid (apart_no hf.1.1.2 hty)
        · cases hf : free2 (foot all o fp) y with
          | false => rfl
          | true =>
            simp only [free2, Bool.and_eq_true] at hf
            exact absurd hid (apart_no hf.1.2 hty)
      have slotW : (loc.length + i) ∈ fp.2 := by
        rcases hdo with ⟨_, _, _, rfl⟩ | ⟨_, v, upd, rd, _, _, _, _, rfl⟩ <;> simp
      have wrBehind : ∀ id ∈ fp.2, ∀ j, i < j → j < n → Wi id j = true → SS listed j = false := by
        intro id hid j hij hj hw
        obtain ⟨y, hy, hty⟩ := wr_of j id hw
        have := conflict j y hj hy (by omega) (fun h => by omega) (fun _ => by
          cases hf : free2 (foot all o fp) y with
          | false => rfl
          | true =>
            simp only [free2, Bool.and_eq_true] at hf
            exact absurd hty (apart_no hf.2 hid))
        rw [this]; simp; omega
      have slotS : lookS (SS listed) (loc.length + i) = none := by
        show lk (L (lw (SS listed) (Wi (loc.length + i)) n)) _ = none
        rw [lw_zero, hL0n]
        intro j hj
        cases hw : Wi (loc.length + i) j with
        | false => simp
        | true =>
          have hle := hwrLe j (loc.length + i) hj (by simpa [Wi] using hw)
          by_cases hji : j = i
          · subst hji; rw [hSi]; rfl
          · rw [wrBehind _ slotW j (by omega) hj hw]; rfl
      -- the state behind
      have hSS' : ∀ j, SS (listed.setIfInBounds i true) j = (SS listed j || decide (j = i)) := by
        intro j
        show (listed.setIfInBounds i true).getD j false = _
        simp only [Array.getD_eq_getD_getElem?, Array.getElem?_setIfInBounds, SS]
        by_cases hji : i = j
        · subst hji; simp [hls, hin]
        · rw [if_neg hji]
          have : decide (j = i) = false := by simp; omega
          rw [this, Bool.or_false]
      have lwIn : ∀ W : Nat → Bool, W i = true → (∀ j, i < j → j < n → W j = true → SS listed j = false) → lw (SS (listed.setIfInBounds i true)) W n = i + 1 := by
        intro W hw hb
        refine lw_top hin (by rw [hSS', hw]; simp) (fun j h1 h2 => ?_)
        rw [hSS']
        have : decide (j = i) = false := by simp; omega
        rw [this, Bool.or_false]
        cases hwj : W j with
        | false => simp
        | true => rw [hb j h1 h2 hwj]; rfl
      have lwOut : ∀ W : Nat → Bool, W i = false → lw (SS (listed.setIfInBounds i true)) W n = lw (SS listed) W n := by
        intro W hw
        apply lw_congr
        intro j hj
        rw [hSS']
        by_cases hji : j = i
        · subst hji; rw [hw]; simp
        · have : decide (j = i) = false := by simp [hji]
          rw [this, Bool.or_false]
      have dstBehind : ∀ t, o.dst = some t → ∀ j, i < j → j < n → Wt t j = true → SS listed j = false := by
        intro t ht j hij hj hw
        obtain ⟨y, hy, hty⟩ := dst_of j t hw
        have := conflict j y hj hy (by omega) (fun h => by omega) (fun _ => by
          cases hf : free2 (foot all o fp) y with
          | false => rfl
          | true =>
            simp only [free2, Bool.and_eq_true] at hf
            exact absurd hty (apart_no hf.1.1.1.2 (by simp [foot, ht])))
        rw [this]; simp; omega
      have WtI : ∀ t, Wt t i = true ↔ o.dst = some t := by
        intro t
        simp only [Wt, dstOf, hx, foot, Option.map_some, Option.getD_some]
        cases o.dst <;> simp [eq_comm]
      have env' : ∀ t, envS (SS (listed.setIfInBounds i true)) t = if o.dst = some t then gt (E (i + 1)) t else envS (SS listed) t := by
        intro t
        show gt (E (lw (SS (listed.setIfInBounds i true)) (Wt t) n)) t = _
        by_cases ht : o.dst = some t
        · rw [if_pos ht, lwIn _ ((WtI t).2 ht) (dstBehind t ht)]
        · rw [if_neg ht, lwOut]
          cases hw : Wt t i with
          | false => rfl
          | true => exact absurd ((WtI t).1 hw) ht
      have WiI : ∀ id, Wi id i = true ↔ id ∈ fp.2 := by
        intro id
        simp [Wi, wrOf, hx, foot]
      have look' : ∀ id, lookS (SS (listed.setIfInBounds i true)) id = if id ∈ fp.2 then lk (L (i + 1)) id else lookS (SS listed) id := by
        intro id
        show lk (L (lw (SS (listed.setIfInBounds i true)) (Wi id) n)) id = _
        by_cases hid : id ∈ fp.2
        · rw [if_pos hid, lwIn _ ((WiI id).2 hid) (wrBehind id hid)]
        · rw [if_neg hid, lwOut]
          cases hw : Wi id i with
          | false => rfl
          | true => exact absurd ((WiI id).1 hw) hid
      have hcnt : ((List.range n).filter fun j => !SS (listed.setIfInBounds i true) j).length ≤ fuel := by
        have hmem : i ∈ (List.range n).filter fun j => !SS listed j := List.mem_filter.2 ⟨List.mem_range.2 hin, by simp [hSi]⟩
        have e1 : ((List.range n).filter fun j => !SS (listed.setIfInBounds i true) j) = ((List.range n).filter fun j => !SS listed j).erase i := by
          rw [((List.nodup_range).sublist List.filter_sublist).erase_eq_filter, List.filter_filter]
          apply List.filter_congr
          intro j _
          rw [hSS']
          by_cases hji : j = i
          · simp [hji]
          · simp [hji]
        rw [e1, List.length_erase_of_mem hmem]
        omega
      have hdc' : ∀ j, j < n → SS (listed.setIfInBounds i true) j = true → ∀ k, (B.getD j 0).testBit k = true → SS (listed.setIfInBounds i true) k = true := by
        intro j hj hs k hb
        rw [hSS'] at hs ⊢
        simp only [Bool.or_eq_true, decide_eq_true_eq] at hs ⊢
        rcases hs with hs | rfl
        · exact .inl (hdc j hj hs k hb)
        · exact .inl (hbits k hb)
      have hseenE : ∀ t ∈ seen all o, RVs w1 F β1 (lookS (SS listed)) (a.tmps.getD t undef) (gt (E i) t) := by
        intro t ht
        rw [← envA t ht]
        exact h2 t
      unfold wpOp
      rw [ho]
      dsimp only
      have putE : ∀ {w2 : World} {β2 : Int → Nat} {x : Value} {v : V}, Sim w2 F β2 (lookS (SS (listed.setIfInBounds i true))) → St (fun _ => True) w1 β1 (lookS (SS listed)) w2 β2 (lookS (SS (listed.setIfInBounds i true))) → RVs w2 F β2 (lookS (SS (listed.setIfInBounds i true))) x v → E (i + 1) = putO (E i) o.dst v →
          ∀ t, RVs w2 F β2 (lookS (SS (listed.setIfInBounds i true))) ((a.put o.dst x).tmps.getD t undef) (envS (SS (listed.setIfInBounds i true)) t) := by
        intro w2 β2 x v g1 g2 g3 g4 t
        rw [env' t]
        by_cases ht : o.dst = some t
        · rw [if_pos ht, g4, ht]
          have hlt' : t < a.tmps.size := by rw [h3]; rw [ht] at hdst; simpa [dstOk] using hdst
          simp only [putO, gt_pt, if_true, Act.put]
          have e1 : (a.tmps.setIfInBounds t x).getD t undef = x := by simp [Array.getD, hlt']
          rw [e1]
          exact g3
        · rw [if_neg ht]
          have e1 : (a.put o.dst x).tmps.getD t undef = a.tmps.getD t undef := by
            cases hd : o.dst with
            | none => rfl
            | some d =>
              simp only [Act.put, Array.getD_eq_getD_getElem?, Array.getElem?_setIfInBounds]
              rw [if_neg (fun e => ht (by rw [hd, e]))]
          rw [e1]
          exact RV.mono g2.keep g2.ids (h2 t)
      rcases hdo with ⟨hw, hE1, hL1, hfpe⟩ | ⟨hw, v, upd, rd, hop, hle, hE1, hL1, hfpe⟩
      · rw [wanted_at hseenE hw]
        simp only [Bool.false_eq_true, if_false]
        have e1 : lookS (SS (listed.setIfInBounds i true)) = lookS (SS listed) := by
          funext id
          rw [look' id]
          split
          · rename_i hid
            rw [hfpe] at hid
            simp at hid
            subst hid
            rw [hL1, hslotL i hin, slotS]
          · rfl
        refine ih (listed.setIfInBounds i true) (a.put o.dst undef) w1 β1 (by simp [hls]) hcnt hdc' (by rw [e1]; exact h1) ?_ (by rw [put_size]; exact h3) (by rw [put_defers]; exact h4) (by rw [e1]; exact h5)
        exact putE (by rw [e1]; exact h1) (by rw [e1]; exact St.refl _ _ _ _) rv_und hE1
      · rw [wanted_at hseenE hw]
        simp only [if_true]
        left
        let ρ' : Operand → V := fun y => match y with | .tmp t => envS (SS listed) t | y => ev [] y
        have hop' : opA P rec (lookS (SS listed)) (loc.length + i) ρ' o.op = some ⟨.val v, upd, rd⟩ := by
          refine opA_congr hop (fun y hy => ?_) (fun id hid => lookA id (by rw [hfpe]; exact hid))
          cases y with
          | tmp t =>
            refine envA t ?_
            unfold seen
            exact List.mem_append_left _ (List.mem_filterMap.2 ⟨.tmp t, hy, rfl⟩)
          | const x => rfl
          | global g => rfl
          | func f => rfl
        have hE' : ∀ y, RVs w1 F β1 (lookS (SS listed)) (a.eval y) (ρ' y) := by
          intro y
          cases y with
          | tmp t => exact h2 t
          | const x => exact ofValue_rep x
          | global g => trivial
          | func f => exact ⟨rfl, by simp⟩
        have hgo := op_goes hN hrec h1 (hlookH _) slotS (a := a) hE' hop' (fun id p1 p2 => by
          obtain ⟨p, hp, rfl⟩ := List.mem_map.1 p2
          have := hle p hp
          have e : p.1 = loc.length + i := by omega
          rw [e]; exact slotS)
        have e1 : lookS (SS (listed.setIfInBounds i true)) = updL (lookS (SS listed)) upd := by
          funext id
          rw [look' id]
          split
          · rename_i hid
            rw [hL1, lk_updO]
            by_cases hk : id ∈ upd.map (·.1)
            · exact updL_key upd _ _ hk
            · have hid' : id = loc.length + i := by
                rw [hfpe] at hid
                rcases List.mem_cons.1 hid with h | h
                · exact h
                · exact absurd h hk
              have hno : ∀ p ∈ upd, p.1 ≠ id := fun p hp e => hk (List.mem_map.2 ⟨p, hp, e⟩)
              rw [updL_notin upd _ hno, updL_notin upd _ hno, hid', hslotL i hin, slotS]
          · rename_i hid
            rw [updL_notin]
            intro p hp e
            exact hid (by rw [hfpe]; exact List.mem_cons_of_mem _ (List.mem_map.2 ⟨p, hp, e⟩))
        refine hgo _ _ fun w2 β2 hg => ?_
        obtain ⟨g1, g2⟩ := hg
        dsimp only at g1 g2
        rw [← e1] at g1 g2
        intro x hxr
        dsimp only at hxr
        rw [← e1] at hxr
        exact ih (listed.setIfInBounds i true) (a.put o.dst x) w2 β2 (by simp [hls]) hcnt hdc' g1 (putE g1 g2 hxr hE1) (by rw [put_size]; exact h3) (by rw [put_defers]; exact h4) (h5.trans g2)
  have hSS0 : ∀ j, SS (Array.replicate n false) j = false := by
    intro j
    show (Array.replicate n false).getD j false = false
    simp [Array.getD_eq_getD_getElem?, Array.getElem?_replicate]
    split <;> rfl
  have e0 : lookS (SS (Array.replicate n false)) = lk loc := by
    funext id
    show lk (L (lw _ (Wi id) n)) id = _
    rw [lw_zero fun j _ => by rw [hSS0]; rfl, hL0, lk_holes]
  refine main n (Array.replicate n false) a w β (by simp) (by have := List.length_filter_le (fun j => !SS (Array.replicate n false) j) (List.range n); simpa using this) (fun j _ hs => by rw [hSS0] at hs; cases hs) (by rw [e0]; exact hS) (fun t => ?_) ha hd (by rw [e0]; exact St.refl _ _ _ _)
  rw [e0]
  show RVs w F β (lk loc) _ (gt (E (lw _ (Wt t) n)) t)
  rw [lw_zero fun j _ => by rw [hSS0]; rfl, hE0]
  exact hE t
end
end Go.Proofs.YteenjodhmppgjaaGreatDoor.Am
end
section
/- The abstract machine: a statement whose order is open, in which an operation panics: all orders come to that. -/
namespace Go.Proofs.YteenjodhmppgjaaGreatDoor.Am
open Go
/-- What the operation with number i did, where that with number p panics. -/
def DidP (P : Program) (rec : Rec) (nt : Nat) (all : Array Oper) (slot i p : Nat) (b : List Nat) (o : Oper) (env env' : Env) (loc loc' : List O) (fp : List Nat × List Nat) (r : Option (Value × List O)) : Prop :=
  dstOk nt o.dst = true ∧ (((b.getD i 0).testBit p = true ∧ env' = env ∧ loc' = loc ∧ fp = ([], [slot])) ∨
    ((b.getD i 0).testBit p = false ∧ i ≠ p ∧ wantedA all env o.guard = some false ∧ env' = putO env o.dst (.tup []) ∧ loc' = loc ∧ fp = ([], [slot])) ∨
    ((b.getD i 0).testBit p = false ∧ i ≠ p ∧ wantedA all env o.guard = some true ∧ ∃ v upd rd, opA P rec (lk loc) slot (ev env) o.op = some ⟨.val v, upd, rd⟩ ∧ (∀ p ∈ upd, p.1 ≤ slot) ∧ env' = putO env o.dst v ∧ loc' = updO loc upd ∧ fp = (rd, slot :: upd.map (·.1))) ∨
    (i = p ∧ wantedA all env o.guard = some true ∧ ∃ x upd rd, opA P rec (lk loc) slot (ev env) o.op = some ⟨.pan x, upd, rd⟩ ∧ (∀ p ∈ upd, p.1 ≤ slot) ∧ env' = env ∧ loc' = loc ∧ fp = (rd, slot :: upd.map (·.1)) ∧ r = some (x, updO loc upd)))
theorem traceP {P : Program} {rec : Rec} {nt : Nat} {all : Array Oper} {base p : Nat} {b : List Nat} : ∀ (l : List Oper) (i : Nat) (env : Env) (loc : List O) {r : Option (Value × List O)} {fps : List (List Nat × List Nat)}, drawP P rec nt all base p b l i env loc = some (r, fps) →
    ∃ (E : Nat → Env) (L : Nat → List O), E 0 = env ∧ L 0 = loc ∧ fps.length = l.length ∧ (r.isSome = true → i ≤ p ∧ p < i + l.length ∧ (b.getD p 0).testBit p = false) ∧
      ∀ (j : Nat) (o : Oper), l[j]? = some o → ∃ fp, fps[j]? = some fp ∧ DidP P rec nt all (base + (i + j)) (i + j) p b o (E j) (E (j + 1)) (L j) (L (j + 1)) fp r
  | [], i, env, loc, r, fps, h => by
    simp only [drawP, Option.some.injEq, Prod.mk.injEq] at h
    obtain ⟨rfl, rfl⟩ := h
    exact ⟨fun _ => env, fun _ => loc, rfl, rfl, rfl, (fun h => by cases h), fun j o h => by simp at h⟩
  | o :: l, i, env, loc, r, fps, h => by
    simp only [drawP] at h
    split at h
    case isFalse => cases h
    rename_i hd
    have fin : ∀ (env1 : Env) (loc1 : List O) (fp : List Nat × List Nat) (r1 : Option (Value × List O)), DidP P rec nt all (base + i) i p b o env env1 loc loc1 fp r → (∃ fps', drawP P rec nt all base p b l (i + 1) env1 loc1 = some (r1, fps') ∧ fps = fp :: fps') → (r1 = r ∨ (r1 = none ∧ i = p)) → (r.isSome = true → r1.isSome = true ∨ (i = p ∧ (b.getD p 0).testBit p = false)) →
        ∃ (E : Nat → Env) (L : Nat → List O), E 0 = env ∧ L 0 = loc ∧ fps.length = (o :: l).length ∧ (r.isSome = true → i ≤ p ∧ p < i + (o :: l).length ∧ (b.getD p 0).testBit p = false) ∧
          ∀ (j : Nat) (o' : Oper), (o :: l)[j]? = some o' → ∃ fp, fps[j]? = some fp ∧ DidP P rec nt all (base + (i + j)) (i + j) p b o' (E j) (E (j + 1)) (L j) (L (j + 1)) fp r := by
      rintro env1 loc1 fp r1 hdid ⟨fps', hr, rfl⟩ hr1 hsome
      obtain ⟨E, L, h1, h2, h5, h7, h6⟩ := traceP l (i + 1) env1 loc1 hr
      refine ⟨fun k => match k with | 0 => env | k + 1 => E k, fun k => match k with | 0 => loc | k + 1 => L k, rfl, rfl, by simp [h5], fun hs => ?_, fun j o' hj => ?_⟩
      · rcases hsome hs with h | ⟨rfl, h⟩
        · obtain ⟨g1, g2, g3⟩ := h7 h
          exact ⟨by omega, by simp only [List.length_cons]; omega, g3⟩
        · exact ⟨Nat.le_refl _, by simp only [List.length_cons]; omega, h⟩
      cases j with
      | zero =>
        simp only [List.getElem?_cons_zero, Option.some.injEq] at hj
        subst hj
        refine ⟨fp, rfl, ?_⟩
        dsimp only
        rw [h1, h2]
        exact hdid
      | succ j =>
        obtain ⟨fp', p1, p2⟩ := h6 j o' (by simpa using hj)
        refine ⟨fp', by simpa using p1, ?_⟩
        have e : i + (j + 1) = i + 1 + j := by omega
        rw [e]
        obtain ⟨q1, q2⟩ := p2
        refine ⟨q1, ?_⟩
        rcases q2 with q | q | q | ⟨q0, q1, x, upd, rd, q2, q3, q4, q5, q6, q7⟩
        · exact .inl q
        · exact .inr (.inl q)
        · exact .inr (.inr (.inl q))
        · refine .inr (.inr (.inr ⟨q0, q1, x, upd, rd, q2, q3, q4, q5, q6, ?_⟩))
          rcases hr1 with rfl | ⟨rfl, e1⟩
          · exact q7
          · omega
    by_cases hb : (b.getD i 0).testBit p = true
    · simp only [hb, if_true] at h
      cases hr : drawP P rec nt all base p b l (i + 1) env loc with
      | none => simp [hr] at h
      | some x =>
        obtain ⟨r1, fps'⟩ := x
        simp only [hr, Option.some.injEq, Prod.mk.injEq] at h
        obtain ⟨rfl, rfl⟩ := h
        exact fin _ _ _ _ ⟨hd, .inl ⟨hb, rfl, rfl, rfl⟩⟩ ⟨fps', hr, rfl⟩ (.inl rfl) (fun h => .inl h)
    simp only [hb, Bool.false_eq_true, if_false] at h
    have hb' : (b.getD i 0).testBit p = false := by simpa using hb
    cases hw : wantedA all env o.guard with
    | none => simp [hw] at h
    | some t =>
      simp only [hw] at h
      cases t with
      | false =>
        dsimp only at h
        split at h
        · cases h
        rename_i hip
        cases hr : drawP P rec nt all base p b l (i + 1) (putO env o.dst (.tup [])) loc with
        | none => simp [hr] at h
        | some x =>
          obtain ⟨r1, fps'⟩ := x
          simp only [hr, Option.some.injEq, Prod.mk.injEq] at h
          obtain ⟨rfl, rfl⟩ := h
          exact fin _ _ _ _ ⟨hd, .inr (.inl ⟨hb', hip, hw, rfl, rfl, rfl⟩)⟩ ⟨fps', hr, rfl⟩ (.inl rfl) (fun h => .inl h)
      | true =>
        dsimp only at h
        cases hop : opA P rec (lk loc) (base + i) (ev env) o.op with
        | none => simp [hop] at h
        | some ef =>
          obtain ⟨res, upd, rd⟩ := ef
          cases res with
          | pan x =>
            simp only [hop] at h
            split at h
            case isFalse => cases h
            rename_i hu
            simp only [Bool.and_eq_true, decide_eq_true_eq] at hu
            obtain ⟨hu, hip⟩ := hu
            cases hr : drawP P rec nt all base p b l (i + 1) env loc with
            | none => simp [hr] at h
            | some y =>
              obtain ⟨r1, fps'⟩ := y
              cases r1 with
              | some z => simp [hr] at h
              | none =>
                simp only [hr, Option.some.injEq, Prod.mk.injEq] at h
                obtain ⟨rfl, rfl⟩ := h
                exact fin _ _ _ _ ⟨hd, .inr (.inr (.inr ⟨hip, hw, x, upd, rd, hop, fun p hp => by simpa using List.all_eq_true.1 hu p hp, rfl, rfl, rfl, rfl⟩))⟩ ⟨fps', hr, rfl⟩ (.inr ⟨rfl, hip⟩) (fun _ => .inr ⟨hip, by subst hip; exact hb'⟩)
          | val v =>
            simp only [hop] at h
            split at h
            case isFalse => cases h
            rename_i hu
            simp only [Bool.and_eq_true, decide_eq_true_eq] at hu
            obtain ⟨hu, hip⟩ := hu
            cases hr : drawP P rec nt all base p b l (i + 1) (putO env o.dst v) (updO loc upd) with
            | none => simp [hr] at h
            | some x =>
              obtain ⟨r1, fps'⟩ := x
              simp only [hr, Option.some.injEq, Prod.mk.injEq] at h
              obtain ⟨rfl, rfl⟩ := h
              exact fin _ _ _ _ ⟨hd, .inr (.inr (.inl ⟨hb', hip, hw, v, upd, rd, hop, fun p hp => by simpa using List.all_eq_true.1 hu p hp, rfl, rfl, rfl⟩))⟩ ⟨fps', hr, rfl⟩ (.inl rfl) (fun h => .inl h)
theorem noHole_updL : ∀ (u : List (Nat × O)) {look : Look}, NoHole look → NoHole (updL look u)
  | [], _, h => h
  | (id, o) :: r, look, h => by
    refine noHole_updL r (look := upd1 look id o) (fun j => ?_)
    unfold upd1
    split
    · cases o <;> simp
    · exact h j
theorem updL_eq : ∀ (u : List (Nat × O)) {l1 l2 : Look} {id : Nat}, l1 id = l2 id → updL l1 u id = updL l2 u id
  | [], _, _, _, h => h
  | (i, o) :: r, l1, l2, id, h => by
    refine updL_eq r ?_
    unfold upd1
    split
    · rfl
    · exact h
theorem bef_lt {all : Array Oper} (hback : backOk 0 all.toList = true) : ∀ {j i : Nat} {o : Oper}, all[j]? = some o → ((befs [] all.toList).getD j 0).testBit i = true → i < j := by
  intro j
  induction j using Nat.strongRecOn with
  | _ j ih =>
    intro i o ho hb
    obtain ⟨e, p1, p2, p3⟩ := bef_bit ho hb
    have hlt := back_edge hback (j := j) (o := o) (by simpa using ho) e p1 p2
    rcases p3 with rfl | p3
    · omega
    · have hj : j < all.size := by
        rcases Nat.lt_or_ge j all.size with h | h
        · exact h
        · rw [Array.getElem?_eq_none h] at ho; cases ho
      have := ih e.on (by omega) (o := all[e.on]'(by omega)) (by simp) p3
      omega
section
variable {P : Program}
theorem pan_ok_draw (hN : Named P) {rec : Rec} (hrec : RecOK P rec) {w : World} {F : Nat → Prop} {β : Int → Nat} {loc loc1 : List O} {x : Value} {env : Env} {fps : List (List Nat × List Nat)} {all : Array Oper} {nt p : Nat} (hS : Sim w F β (lk loc)) {a : Act} (hE : EnvR w F β (lk loc) a.tmps env) (ha : a.tmps.size = nt) (hd : a.defers = [])
    (h : drawP P rec nt all loc.length p (befs [] all.toList) all.toList 0 env (loc ++ holes all.size) = some (some (x, loc1), fps)) (hok : drawOk all fps = true) (hpan : panOk (befs [] all.toList) p loc.length fps = true) {Q : Exit → Act → World → Prop}
    (hq : ∀ a' w' β' look', Sim w' F β' look' → NoHole look' → St (fun _ => True) w β (lk loc) w' β' look' → (∀ id, id < loc.length → look' id = lk loc1 id) → (∀ id, loc.length + all.size ≤ id → look' id = none) → a'.defers = [] → Q (.panic [{ v := x, recovered := false }]) a' w') :
    wpAny P .any all Q all.size (Array.replicate all.size false) a w := by
  obtain ⟨E, L, hE0, hL0, hfl, hpin, hdid⟩ := traceP all.toList 0 env (loc ++ holes all.size) h
  simp only [Array.length_toList] at hfl hpin
  obtain ⟨_, hpn, hpp⟩ := hpin rfl
  rw [Nat.zero_add] at hpn
  generalize hn : all.size = n at *
  have hdid' : ∀ j o, all[j]? = some o → ∃ fp, fps[j]? = some fp ∧ DidP P rec nt all (loc.length + j) j p (befs [] all.toList) o (E j) (E (j + 1)) (L j) (L (j + 1)) fp (some (x, loc1)) := by
    intro j o hj
    obtain ⟨fp, h1, h2⟩ := hdid j o (by simpa using hj)
    rw [Nat.zero_add] at h2
    exact ⟨fp, h1, h2⟩
  unfold drawOk at hok
  simp only [Bool.and_eq_true] at hok
  obtain ⟨hback, hfree⟩ := hok
  generalize hX : feet all all.toList fps = X at hfree
  generalize hB : befs [] all.toList = B at hfree hdid' hpan hpp
  have hXl : X.length = n := by rw [← hX, feet_len (by simp [hfl, hn])]; simp [hn]
  have hXg : ∀ (j : Nat) (o : Oper) (fp : List Nat × List Nat), all[j]? = some o → fps[j]? = some fp → X[j]? = some (foot all o fp) := by
    intro j o fp h1 h2
    rw [← hX]
    exact feet_get (by simp [hfl, hn]) (by simpa using h1) h2
  have hops : ∀ j, j < n → ∃ o, all[j]? = some o := by
    intro j hj
    exact ⟨all[j]'(by omega), by simp [hn, hj]⟩
  have hlt : ∀ {j : Nat} {o : Oper}, all[j]? = some o → j < n := by
    intro j o hj
    rcases Nat.lt_or_ge j n with h | h
    · exact h
    · rw [Array.getElem?_eq_none (by omega)] at hj; cases hj
  -- two operations: in order, or apart
  have hpair : ∀ i j x y, i < j → X[i]? = some x → X[j]? = some y → (B.getD j 0).testBit i = true ∨ free2 x y = true := by
    intro i j x y hij hi hj
    unfold freeAll at hfree
    have hjl : j < X.length := by
      rcases Nat.lt_or_ge j X.length with h | h
      · exact h
      · rw [List.getElem?_eq_none h] at hj; cases hj
    have := List.all_eq_true.1 (List.all_eq_true.1 hfree j (List.mem_range.2 hjl)) i (List.mem_range.2 hij)
    rw [hi, hj] at this
    simpa using this
  -- footprints
  let dstOf : Nat → List Nat := fun j => ((X[j]?).map (·.dst)).getD []
  let wrOf : Nat → List Nat := fun j => ((X[j]?).map (·.wr)).getD []
  let Wt : Nat → Nat → Bool := fun t j => (dstOf j).contains t
  let Wi : Nat → Nat → Bool := fun id j => (wrOf j).contains id
  have hEstep : ∀ t j, j < n → Wt t j = false → gt (E (j + 1)) t = gt (E j) t := by
    intro t j hj hw
    obtain ⟨o, ho⟩ := hops j hj
    obtain ⟨fp, hf, _, hdo⟩ := hdid' j o ho
    have hx := hXg j o fp ho hf
    have hne : o.dst ≠ some t := by
      intro e
      simp [Wt, dstOf, hx, foot, e] at hw
    have hput : ∀ v, gt (putO (E j) o.dst v) t = gt (E j) t := by
      intro v
      cases hd : o.dst with
      | none => rfl
      | some d =>
        simp only [putO, gt_pt]
        rw [if_neg (fun e => hne (by rw [hd, e]))]
    rcases hdo with ⟨_, h1, _, _⟩ | ⟨_, _, _, h1, _, _⟩ | ⟨_, _, _, v, upd, rd, _, _, h1, _, _⟩ | ⟨_, _, x, upd, rd, _, _, h1, _, _⟩
    · rw [h1]
    · rw [h1]; exact hput _
    · rw [h1]; exact hput _
    · rw [h1]
  have hLstep : ∀ id j, j < n → Wi id j = false → lk (L (j + 1)) id = lk (L j) id := by
    intro id j hj hw
    obtain ⟨o, ho⟩ := hops j hj
    obtain ⟨fp, hf, _, hdo⟩ := hdid' j o ho
    have hx := hXg j o fp ho hf
    rcases hdo with ⟨_, _, h1, _⟩ | ⟨_, _, _, _, h1, _⟩ | ⟨_, _, _, v, upd, rd, _, _, _, h1, h2⟩ | ⟨_, _, x, upd, rd, _, _, _, h1, _⟩
    · rw [h1]
    · rw [h1]
    rotate_left
    · rw [h1]
    · rw [h1, lk_updO]
      apply updL_notin
      intro p hp e
      subst h2
      have : p.1 ∈ upd.map (·.1) := List.mem_map.2 ⟨p, hp, rfl⟩
      rw [e] at this
      have hmem : id ∈ (foot all o (rd, (loc.length + j) :: upd.map (·.1))).wr := List.mem_cons_of_mem _ this
      simp only [Wi, wrOf, hx, Option.map_some, Option.getD_some] at hw
      have hc : (foot all o (rd, (loc.length + j) :: upd.map (·.1))).wr.contains id = true := by simpa using hmem
      rw [hc] at hw; cases hw
  have hEval : ∀ t k, k ≤ n → gt (E k) t = gt (E (lw (fun _ => true) (Wt t) k)) t := fun t k hk => lw_value (f := fun k => gt (E k) t) (hEstep t) k hk
  have hLval : ∀ id k, k ≤ n → lk (L k) id = lk (L (lw (fun _ => true) (Wi id) k)) id := fun id k hk => lw_value (f := fun k => lk (L k) id) (hLstep id) k hk
  -- writers of a slot that is new
  have hwrLe : ∀ j id, j < n → id ∈ wrOf j → id ≤ loc.length + j := by
    intro j id hj hid
    obtain ⟨o, ho⟩ := hops j hj
    obtain ⟨fp, hf, _, hdo⟩ := hdid' j o ho
    have hx := hXg j o fp ho hf
    simp only [wrOf, hx, foot, Option.map_some, Option.getD_some] at hid
    have two : ∀ (rd : List Nat) (upd : List (Nat × O)), (∀ p ∈ upd, p.1 ≤ loc.length + j) → id ∈ (rd, (loc.length + j) :: upd.map (·.1)).2 → id ≤ loc.length + j := by
      intro rd upd hle hid
      simp only [List.mem_cons] at hid
      rcases hid with rfl | hid
      · exact Nat.le_refl _
      · obtain ⟨p, hp, rfl⟩ := List.mem_map.1 hid
        exact hle p hp
    rcases hdo with ⟨_, _, _, rfl⟩ | ⟨_, _, _, _, _, rfl⟩ | ⟨_, _, _, v, upd, rd, _, hle, _, _, rfl⟩ | ⟨_, _, x, upd, rd, _, hle, _, _, rfl, _⟩
    · simp at hid; omega
    · simp at hid; omega
    · exact two rd upd hle hid
    · exact two rd upd hle hid
  have hL0n : ∀ i, lk (L 0) (loc.length + i) = none := by
    intro i
    rw [hL0, lk_holes]
    simp [lk]
  have hslotL : ∀ i, i < n → lk (L i) (loc.length + i) = none := by
    intro i hi
    rw [hLval _ i (by omega), lw_zero, hL0n]
    intro j hj
    have : Wi (loc.length + i) j = false := by
      cases hw : Wi (loc.length + i) j with
      | false => rfl
      | true =>
        have := hwrLe j (loc.length + i) (by omega) (by simpa [Wi] using hw)
        omega
    rw [this, Bool.and_false]
  -- the induction
  let SS : Array Bool → Nat → Bool := fun listed j => listed.getD j false
  let envS : (Nat → Bool) → Nat → V := fun S t => gt (E (lw S (Wt t) n)) t
  let lookS : (Nat → Bool) → Look := fun S id => lk (L (lw S (Wi id) n)) id
  have hlookH : ∀ S, NoHole (lookS S) := fun S id h => noHole_lk _ id h
  have main : ∀ (fuel : Nat) (listed : Array Bool) (a : Act) (w1 : World) (β1 : Int → Nat), listed.size = n → ((List.range n).filter fun j => !SS listed j).length ≤ fuel →
      (∀ j, j < n → SS listed j = true → ∀ i, (B.getD j 0).testBit i = true → SS listed i = true) →
      SS listed p = false → Sim w1 F β1 (lookS (SS listed)) → (∀ t, RVs w1 F β1 (lookS (SS listed)) (a.tmps.getD t undef) (envS (SS listed) t)) → a.tmps.size = nt → a.defers = [] → St (fun _ => True) w β (lk loc) w1 β1 (lookS (SS listed)) →
      wpAny P .any all Q fuel listed a w1 := by
    intro fuel
    have noReady : ∀ listed : Array Bool, listed.size = n → Region.ready .any all listed = [] → ∀ j, j < n → SS listed j = true := by
      intro listed hls hr
      have key : ∀ j, j < n → (∀ i, i < j → SS listed i = true) → SS listed j = true := by
        intro j hj hbelow
        cases hs : SS listed j with
        | true => rfl
        | false =>
          exfalso
          obtain ⟨o, ho⟩ := hops j hj
          have : j ∈ Region.ready .any all listed := by
            unfold Region.ready
            rw [List.mem_filter]
            refine ⟨List.mem_range.2 (by omega), ?_⟩
            have h1 : listed.getD j true = false := by
              have : listed.getD j false = false := hs
              simp only [Array.getD_eq_getD_getElem?] at this ⊢
              rw [Array.getElem?_eq_getElem (by omega)] at this ⊢
              simpa using this
            rw [h1, ho]
            simp only [Bool.not_false, Option.map_some, Option.getD_some, Bool.true_and]
            rw [Array.all_eq_true_iff_forall_mem]
            intro e he
            cases hb : Region.binds .any e with
            | false => rfl
            | true =>
              have := back_edge hback (j := j) (o := o) (by simpa using ho) e (by simpa using he) hb
              have := hbelow e.on (by omega)
              simpa [SS] using this
          rw [hr] at this
          simp at this
      intro j
      induction j using Nat.strongRecOn with
      | _ j ih => exact fun hj => key j hj fun i hi => ih i hi (by omega)
    induction fuel with
    | zero =>
      intro listed a w1 β1 hls hc hdc hnp h1 h2 h3 h4 h5
      have hall : ∀ j, j < n → SS listed j = true := by
        intro j hj
        cases hs : SS listed j with
        | true => rfl
        | false =>
          have : j ∈ (List.range n).filter fun j => !SS listed j := List.mem_filter.2 ⟨List.mem_range.2 hj, by simp [hs]⟩
          have hnil : ((List.range n).filter fun j => !SS listed j) = [] := List.eq_nil_of_length_eq_zero (by omega)
          rw [hnil] at this
          simp at this
      have := hall p hpn
      rw [hnp] at this; cases this
    | succ fuel ih =>
      intro listed a w1 β1 hls hc hdc hnp h1 h2 h3 h4 h5
      refine ⟨(fun hr => by have := noReady listed hls hr p hpn; rw [hnp] at this; cases this), fun i hi => ?_⟩
      -- operation i, which may go next
      unfold Region.ready at hi
      rw [List.mem_filter] at hi
      obtain ⟨hir, hi2⟩ := hi
      have hin : i < n := by have := List.mem_range.1 hir; omega
      obtain ⟨o, ho⟩ := hops i hin
      simp only [ho, Option.map_some, Option.getD_some, Bool.and_eq_true, Bool.not_eq_true'] at hi2
      obtain ⟨hnl, hpre⟩ := hi2
      have hSi : SS listed i = false := by
        show listed.getD i false = false
        simp only [Array.getD_eq_getD_getElem?] at hnl ⊢
        rw [Array.getElem?_eq_getElem (by omega)] at hnl ⊢
        simpa using hnl
      have hpre' : ∀ e ∈ o.after.toList, Region.binds .any e = true → SS listed e.on = true := by
        intro e he hb
        have := Array.all_eq_true_iff_forall_mem.1 hpre e (by simpa using he)
        rw [hb] at this
        simpa [SS] using this
      have hbits : ∀ j, (B.getD i 0).testBit j = true → SS listed j = true := by
        intro j hb
        rw [← hB] at hb
        obtain ⟨e, p1, p2, p3⟩ := bef_bit ho hb
        have hon := hpre' e p1 p2
        rcases p3 with rfl | p3
        · exact hon
        · rw [hB] at p3
          have hlt' := back_edge hback (j := i) (o := o) (by simpa using ho) e p1 p2
          exact hdc e.on (by omega) hon j p3
      obtain ⟨fp, hfp, hdst, hdo⟩ := hdid' i o ho
      have hx := hXg i o fp ho hfp
      -- what conflicts with i is before it and listed, or behind it and not
      have conflict : ∀ j y, j < n → X[j]? = some y → j ≠ i → (j < i → free2 y (foot all o fp) = false) → (i < j → free2 (foot all o fp) y = false) → SS listed j = decide (j < i) := by
        intro j y hj hy hne h1 h2
        rcases Nat.lt_or_gt_of_ne hne with hlt | hgt
        · rcases hpair j i y _ hlt hy hx with hb | hf
          · rw [hbits j hb]; simp [hlt]
          · rw [h1 hlt] at hf; cases hf
        · rcases hpair i j _ y hgt hx hy with hb | hf
          · have : SS listed j ≠ true := by
              intro hs
              have := hdc j hj hs i hb
              rw [hSi] at this; cases this
            have hnd : decide (j < i) = false := by simp; omega
            rw [hnd]
            simpa using this
          · rw [h2 hgt] at hf; cases hf
      have notFree : ∀ {x y : Foot} {l1 l2 : List Nat} {z : Nat}, z ∈ l1 → z ∈ l2 → apart l1 l2 = true → False := by
        intro x y l1 l2 z h1 h2 h3
        exact apart_no h3 h1 h2
      have dst_of : ∀ j t, Wt t j = true → ∃ y, X[j]? = some y ∧ t ∈ y.dst := by
        intro j t hw
        simp only [Wt, dstOf] at hw
        cases hy : X[j]? with
        | none => simp [hy] at hw
        | some y => exact ⟨y, rfl, by simpa [hy] using hw⟩
      have wr_of : ∀ j id, Wi id j = true → ∃ y, X[j]? = some y ∧ id ∈ y.wr := by
        intro j id hw
        simp only [Wi, wrOf] at hw
        cases hy : X[j]? with
        | none => simp [hy] at hw
        | some y => exact ⟨y, rfl, by simpa [hy] using hw⟩
      have agree : ∀ (W : Nat → Bool), (∀ j, j < n → j ≠ i → W j = true → SS listed j = decide (j < i)) → lw (SS listed) W n = lw (fun _ => true) W i := by
        intro W hW
        have e1 : lw (SS listed) W n = lw (fun j => decide (j < i)) W n := by
          apply lw_congr
          intro j hj
          by_cases hji : j = i
          · subst hji; rw [hSi]; simp
          · cases hw : W j with
            | false => simp
            | true => rw [hW j hj hji hw]
        rw [e1, lw_below (i := i) (by omega) (fun j h1 _ => by
          have : decide (j < i) = false := by simp; omega
          rw [this, Bool.false_and])]
        apply lw_congr
        intro j hj
        simp [hj]
      have envA : ∀ t ∈ seen all o, envS (SS listed) t = gt (E i) t := by
        intro t ht
        show gt (E (lw (SS listed) (Wt t) n)) t = _
        rw [agree (Wt t), ← hEval t i (by omega)]
        intro j hj hne hw
        obtain ⟨y, hy, hty⟩ := dst_of j t hw
        refine conflict j y hj hy hne (fun _ => ?_) (fun _ => ?_)
        · cases hf : free2 y (foot all o fp) with
          | false => rfl
          | true =>
            simp only [free2, Bool.and_eq_true] at hf
            exact absurd ht (apart_no hf.1.1.1.1.1 hty)
        · cases hf : free2 (foot all o fp) y with
          | false => rfl
          | true =>
            simp only [free2, Bool.and_eq_true] at hf
            exact absurd ht (apart_no hf.1.1.1.1.2 hty)
      have lookA : ∀ id ∈ fp.1, lookS (SS listed) id = lk (L i) id := by
        intro id hid
        show lk (L (lw (SS listed) (Wi id) n)) id = _
        rw [agree (Wi id), ← hLval id i (by omega)]
        intro j hj hne hw
        obtain ⟨y, hy, hty⟩ := wr_of j id hw
        refine conflict j y hj hy hne (fun _ => ?_) (fun _ => ?_)
        · cases hf : free2 y (foot all o fp) with
          | false => rfl
          | true =>
            simp only [free2, Bool.and_eq_true] at hf
            exact absurd hid (apart_no hf.1.1.2 hty)
        · cases hf : free2 (foot all o fp) y with
          | false => rfl
          | true =>
            simp only [free2, Bool.and_eq_true] at hf
            exact absurd hid (apart_no hf.1.2 hty)
      have slotW : (loc.length + i) ∈ fp.2 := by
        rcases hdo with ⟨_, _, _, rfl⟩ | ⟨_, _, _, _, _, rfl⟩ | ⟨_, _, _, v, upd, rd, _, _, _, _, rfl⟩ | ⟨_, _, x, upd, rd, _, _, _, _, rfl, _⟩ <;> simp
      have wrBehind : ∀ id ∈ fp.2, ∀ j, i < j → j < n → Wi id j = true → SS listed j = false := by
        intro id hid j hij hj hw
        obtain ⟨y, hy, hty⟩ := wr_of j id hw
        have := conflict j y hj hy (by omega) (fun h => by omega) (fun _ => by
          cases hf : free2 (foot all o fp) y with
          | false => rfl
          | true =>
            simp only [free2, Bool.and_eq_true] at hf
            exact absurd hty (apart_no hf.2 hid))
        rw [this]; simp; omega
      have slotS : lookS (SS listed) (loc.length + i) = none := by
        show lk (L (lw (SS listed) (Wi (loc.length + i)) n)) _ = none
        rw [lw_zero, hL0n]
        intro j hj
        cases hw : Wi (loc.length + i) j with
        | false => simp
        | true =>
          have hle := hwrLe j (loc.length + i) hj (by simpa [Wi] using hw)
          by_cases hji : j = i
          · subst hji; rw [hSi]; rfl
          · rw [wrBehind _ slotW j (by omega) hj hw]; rfl
      -- the state behind
      have hSS' : ∀ j, SS (listed.setIfInBounds i true) j = (SS listed j || decide (j = i)) := by
        intro j
        show (listed.setIfInBounds i true).getD j false = _
        simp only [Array.getD_eq_getD_getElem?, Array.getElem?_setIfInBounds, SS]
        by_cases hji : i = j
        · subst hji; simp [hls, hin]
        · rw [if_neg hji]
          have : decide (j = i) = false := by simp; omega
          rw [this, Bool.or_false]
      have lwIn : ∀ W : Nat → Bool, W i = true → (∀ j, i < j → j < n → W j = true → SS listed j = false) → lw (SS (listed.setIfInBounds i true)) W n = i + 1 := by
        intro W hw hb
        refine lw_top hin (by rw [hSS', hw]; simp) (fun j h1 h2 => ?_)
        rw [hSS']
        have : decide (j = i) = false := by simp; omega
        rw [this, Bool.or_false]
        cases hwj : W j with
        | false => simp
        | true => rw [hb j h1 h2 hwj]; rfl
      have lwOut : ∀ W : Nat → Bool, W i = false → lw (SS (listed.setIfInBounds i true)) W n = lw (SS listed) W n := by
        intro W hw
        apply lw_congr
        intro j hj
        rw [hSS']
        by_cases hji : j = i
        · subst hji; rw [hw]; simp
        · have : decide (j = i) = false := by simp [hji]
          rw [this, Bool.or_false]
      have dstBehind : ∀ t, o.dst = some t → ∀ j, i < j → j < n → Wt t j = true → SS listed j = false := by
        intro t ht j hij hj hw
        obtain ⟨y, hy, hty⟩ := dst_of j t hw
        have := conflict j y hj hy (by omega) (fun h => by omega) (fun _ => by
          cases hf : free2 (foot all o fp) y with
          | false => rfl
          | true =>
            simp only [free2, Bool.and_eq_true] at hf
            exact absurd hty (apart_no hf.1.1.1.2 (by simp [foot, ht])))
        rw [this]; simp; omega
      have WtI : ∀ t, Wt t i = true ↔ o.dst = some t := by
        intro t
        simp only [Wt, dstOf, hx, foot, Option.map_some, Option.getD_some]
        cases o.dst <;> simp [eq_comm]
      have env' : ∀ t, envS (SS (listed.setIfInBounds i true)) t = if o.dst = some t then gt (E (i + 1)) t else envS (SS listed) t := by
        intro t
        show gt (E (lw (SS (listed.setIfInBounds i true)) (Wt t) n)) t = _
        by_cases ht : o.dst = some t
        · rw [if_pos ht, lwIn _ ((WtI t).2 ht) (dstBehind t ht)]
        · rw [if_neg ht, lwOut]
          cases hw : Wt t i with
          | false => rfl
          | true => exact absurd ((WtI t).1 hw) ht
      have WiI : ∀ id, Wi id i = true ↔ id ∈ fp.2 := by
        intro id
        simp [Wi, wrOf, hx, foot]
      have look' : ∀ id, lookS (SS (listed.setIfInBounds i true)) id = if id ∈ fp.2 then lk (L (i + 1)) id else lookS (SS listed) id := by
        intro id
        show lk (L (lw (SS (listed.setIfInBounds i true)) (Wi id) n)) id = _
        by_cases hid : id ∈ fp.2
        · rw [if_pos hid, lwIn _ ((WiI id).2 hid) (wrBehind id hid)]
        · rw [if_neg hid, lwOut]
          cases hw : Wi id i with
          | false => rfl
          | true => exact absurd ((WiI id).1 hw) hid
      have hcnt : ((List.range n).filter fun j => !SS (listed.setIfInBounds i true) j).length ≤ fuel := by
        have hmem : i ∈ (List.range n).filter fun j => !SS listed j := List.mem_filter.2 ⟨List.mem_range.2 hin, by simp [hSi]⟩
        have e1 : ((List.range n).filter fun j => !SS (listed.setIfInBounds i true) j) = ((List.range n).filter fun j => !SS listed j).erase i := by
          rw [((List.nodup_range).sublist List.filter_sublist).erase_eq_filter, List.filter_filter]
          apply List.filter_congr
          intro j _
          rw [hSS']
          by_cases hji : j = i
          · simp [hji]
          · simp [hji]
        rw [e1, List.length_erase_of_mem hmem]
        omega
      have hdc' : ∀ j, j < n → SS (listed.setIfInBounds i true) j = true → ∀ k, (B.getD j 0).testBit k = true → SS (listed.setIfInBounds i true) k = true := by
        intro j hj hs k hb
        rw [hSS'] at hs ⊢
        simp only [Bool.or_eq_true, decide_eq_true_eq] at hs ⊢
        rcases hs with hs | rfl
        · exact .inl (hdc j hj hs k hb)
        · exact .inl (hbits k hb)
      have hseenE : ∀ t ∈ seen all o, RVs w1 F β1 (lookS (SS listed)) (a.tmps.getD t undef) (gt (E i) t) := by
        intro t ht
        rw [← envA t ht]
        exact h2 t
      unfold wpOp
      rw [ho]
      dsimp only
      have putE : ∀ {w2 : World} {β2 : Int → Nat} {x : Value} {v : V}, Sim w2 F β2 (lookS (SS (listed.setIfInBounds i true))) → St (fun _ => True) w1 β1 (lookS (SS listed)) w2 β2 (lookS (SS (listed.setIfInBounds i true))) → RVs w2 F β2 (lookS (SS (listed.setIfInBounds i true))) x v → E (i + 1) = putO (E i) o.dst v →
          ∀ t, RVs w2 F β2 (lookS (SS (listed.setIfInBounds i true))) ((a.put o.dst x).tmps.getD t undef) (envS (SS (listed.setIfInBounds i true)) t) := by
        intro w2 β2 x v g1 g2 g3 g4 t
        rw [env' t]
        by_cases ht : o.dst = some t
        · rw [if_pos ht, g4, ht]
          have hlt' : t < a.tmps.size := by rw [h3]; rw [ht] at hdst; simpa [dstOk] using hdst
          simp only [putO, gt_pt, if_true, Act.put]
          have e1 : (a.tmps.setIfInBounds t x).getD t undef = x := by simp [Array.getD, hlt']
          rw [e1]
          exact g3
        · rw [if_neg ht]
          have e1 : (a.put o.dst x).tmps.getD t undef = a.tmps.getD t undef := by
            cases hd : o.dst with
            | none => rfl
            | some d =>
              simp only [Act.put, Array.getD_eq_getD_getElem?, Array.getElem?_setIfInBounds]
              rw [if_neg (fun e => ht (by rw [hd, e]))]
          rw [e1]
          exact RV.mono g2.keep g2.ids (h2 t)
      have hnp' : i ≠ p → SS (listed.setIfInBounds i true) p = false := by
        intro hip
        rw [hSS', hnp]
        simp; omega
      rcases hdo with ⟨hbit, _, _, _⟩ | ⟨_, hip, hw, hE1, hL1, hfpe⟩ | ⟨_, hip, hw, v, upd, rd, hop, hle, hE1, hL1, hfpe⟩ | ⟨hip, hw, x', upd, rd, hop, hle, hE1, hL1, hfpe, hres⟩
      · have := hbits p hbit
        rw [hnp] at this; cases this
      · rw [wanted_at hseenE hw]
        simp only [Bool.false_eq_true, if_false]
        have e1 : lookS (SS (listed.setIfInBounds i true)) = lookS (SS listed) := by
          funext id
          rw [look' id]
          split
          · rename_i hid
            rw [hfpe] at hid
            simp at hid
            subst hid
            rw [hL1, hslotL i hin, slotS]
          · rfl
        refine ih (listed.setIfInBounds i true) (a.put o.dst undef) w1 β1 (by simp [hls]) hcnt hdc' (hnp' hip) (by rw [e1]; exact h1) ?_ (by rw [put_size]; exact h3) (by rw [put_defers]; exact h4) (by rw [e1]; exact h5)
        exact putE (by rw [e1]; exact h1) (by rw [e1]; exact St.refl _ _ _ _) rv_und hE1
      · rw [wanted_at hseenE hw]
        simp only [if_true]
        left
        let ρ' : Operand → V := fun y => match y with | .tmp t => envS (SS listed) t | y => ev [] y
        have hop' : opA P rec (lookS (SS listed)) (loc.length + i) ρ' o.op = some ⟨.val v, upd, rd⟩ := by
          refine opA_congr hop (fun y hy => ?_) (fun id hid => lookA id (by rw [hfpe]; exact hid))
          cases y with
          | tmp t =>
            refine envA t ?_
            unfold seen
            exact List.mem_append_left _ (List.mem_filterMap.2 ⟨.tmp t, hy, rfl⟩)
          | const x => rfl
          | global g => rfl
          | func f => rfl
        have hE' : ∀ y, RVs w1 F β1 (lookS (SS listed)) (a.eval y) (ρ' y) := by
          intro y
          cases y with
          | tmp t => exact h2 t
          | const x => exact ofValue_rep x
          | global g => trivial
          | func f => exact ⟨rfl, by simp⟩
        have hgo := op_goes hN hrec h1 (hlookH _) slotS (a := a) hE' hop' (fun id p1 p2 => by
          obtain ⟨p, hp, rfl⟩ := List.mem_map.1 p2
          have := hle p hp
          have e : p.1 = loc.length + i := by omega
          rw [e]; exact slotS)
        have e1 : lookS (SS (listed.setIfInBounds i true)) = updL (lookS (SS listed)) upd := by
          funext id
          rw [look' id]
          split
          · rename_i hid
            rw [hL1, lk_updO]
            by_cases hk : id ∈ upd.map (·.1)
            · exact updL_key upd _ _ hk
            · have hid' : id = loc.length + i := by
                rw [hfpe] at hid
                rcases List.mem_cons.1 hid with h | h
                · exact h
                · exact absurd h hk
              have hno : ∀ p ∈ upd, p.1 ≠ id := fun p hp e => hk (List.mem_map.2 ⟨p, hp, e⟩)
              rw [updL_notin upd _ hno, updL_notin upd _ hno, hid', hslotL i hin, slotS]
          · rename_i hid
            rw [updL_notin]
            intro p hp e
            exact hid (by rw [hfpe]; exact List.mem_cons_of_mem _ (List.mem_map.2 ⟨p, hp, e⟩))
        refine hgo _ _ fun w2 β2 hg => ?_
        obtain ⟨g1, g2⟩ := hg
        dsimp only at g1 g2
        rw [← e1] at g1 g2
        intro x hxr
        dsimp only at hxr
        rw [← e1] at hxr
        exact ih (listed.setIfInBounds i true) (a.put o.dst x) w2 β2 (by simp [hls]) hcnt hdc' (hnp' hip) g1 (putE g1 g2 hxr hE1) (by rw [put_size]; exact h3) (by rw [put_defers]; exact h4) (h5.trans g2)
      · rw [wanted_at hseenE hw]
        simp only [if_true]
        left
        let ρ' : Operand → V := fun y => match y with | .tmp t => envS (SS listed) t | y => ev [] y
        have hop' : opA P rec (lookS (SS listed)) (loc.length + i) ρ' o.op = some ⟨.pan x', upd, rd⟩ := by
          refine opA_congr hop (fun y hy => ?_) (fun id hid => lookA id (by rw [hfpe]; exact hid))
          cases y with
          | tmp t =>
            refine envA t ?_
            unfold seen
            exact List.mem_append_left _ (List.mem_filterMap.2 ⟨.tmp t, hy, rfl⟩)
          | const x => rfl
          | global g => rfl
          | func f => rfl
        have hE' : ∀ y, RVs w1 F β1 (lookS (SS listed)) (a.eval y) (ρ' y) := by
          intro y
          cases y with
          | tmp t => exact h2 t
          | const x => exact ofValue_rep x
          | global g => trivial
          | func f => exact ⟨rfl, by simp⟩
        have hgo := op_goes hN hrec h1 (hlookH _) slotS (a := a) hE' hop' (fun id p1 p2 => by
          obtain ⟨p, hp, rfl⟩ := List.mem_map.1 p2
          have := hle p hp
          have e : p.1 = loc.length + i := by omega
          rw [e]; exact slotS)
        simp only [Option.some.injEq, Prod.mk.injEq] at hres
        obtain ⟨rfl, rfl⟩ := hres
        refine hgo _ _ fun w2 β2 hg => ?_
        obtain ⟨g1, g2⟩ := hg
        dsimp only at g1 g2 ⊢
        refine hq a w2 β2 _ g1 ?_ (h5.trans g2) ?_ ?_ h4
        · exact noHole_updL upd (hlookH _)
        · intro id hid
          rw [lk_updO]
          apply updL_eq
          show lk (L (lw (SS listed) (Wi id) n)) id = _
          rw [hLval id i (by omega)]
          congr 2
          have hw1 : ∀ j, j < n → Wi id j = true → (B.getD p 0).testBit j = true ∨ j = p := by
            intro j hj hw
            unfold panOk at hpan
            have := List.all_eq_true.1 hpan j (List.mem_range.2 (by rw [hfl]; exact hj))
            simp only [Bool.or_eq_true, decide_eq_true_eq] at this
            rcases this with (h | h) | h
            · exact .inr h
            · exact .inl h
            · obtain ⟨oj, hoj⟩ := hops j hj
              obtain ⟨fpj, hfj, _⟩ := hdid' j oj hoj
              have hxj := hXg j oj fpj hoj hfj
              simp only [Wi, wrOf, hxj, foot, Option.map_some, Option.getD_some, List.contains_iff_mem] at hw
              have hge : fps.getD j ([], []) = fpj := by rw [List.getD_eq_getElem?_getD, hfj]; rfl
              rw [hge] at h
              have := List.all_eq_true.1 h id hw
              simp only [decide_eq_true_eq] at this
              omega
          have hlt2 : ∀ j, (B.getD p 0).testBit j = true → j < p := by
            intro j hb
            rw [← hB] at hb
            have := bef_lt hback (by rw [hip] at ho; exact ho) hb
            exact this
          subst hip
          rw [lw_congr (k := n) (S' := fun j => decide (j < i)) (W' := Wi id) (fun j hj => by
            cases hw : Wi id j with
            | false => simp
            | true =>
              rcases hw1 j hj hw with h | rfl
              · rw [hbits j h]; simp [hlt2 j h]
              · rw [hSi]; simp), lw_below (i := i) (by omega) (fun j h1 _ => by
            have : decide (j < i) = false := by simp; omega
            rw [this, Bool.false_and])]
          apply lw_congr
          intro j hj
          simp [hj]
        · intro id hid
          rw [updL_notin]
          · show lk (L (lw (SS listed) (Wi id) n)) id = none
            rw [lw_zero, hL0, lk_holes]
            · simp [lk, List.getElem?_eq_none (show loc.length ≤ id by omega)]
            · intro j hj
              cases hw : Wi id j with
              | false => simp
              | true =>
                have := hwrLe j id hj (by simpa [Wi] using hw)
                omega
          · intro q hq e
            have := hle q hq
            omega
  have hSS0 : ∀ j, SS (Array.replicate n false) j = false := by
    intro j
    show (Array.replicate n false).getD j false = false
    simp [Array.getD_eq_getD_getElem?, Array.getElem?_replicate]
    split <;> rfl
  have e0 : lookS (SS (Array.replicate n false)) = lk loc := by
    funext id
    show lk (L (lw _ (Wi id) n)) id = _
    rw [lw_zero fun j _ => by rw [hSS0]; rfl, hL0, lk_holes]
  refine main n (Array.replicate n false) a w β (by simp) (by have := List.length_filter_le (fun j => !SS (Array.replicate n false) j) (List.range n); simpa using this) (fun j _ hs => by rw [hSS0] at hs; cases hs) (hSS0 p) (by rw [e0]; exact hS) (fun t => ?_) ha hd (by rw [e0]; exact St.refl _ _ _ _)
  rw [e0]
  show RVs w F β (lk loc) _ (gt (E (lw _ (Wt t) n)) t)
  rw [lw_zero fun j _ => by rw [hSS0]; rfl, hE0]
  exact hE t
end
theorem refsC_clean {look : Look} {c : C} : ∀ j ∈ refsC (cleanC look c), j ∈ refsC c := by
  intro j hj
  unfold cleanC at hj
  split at hj
  · split at hj
    · simp [refsC] at hj
    · exact hj
  · split at hj
    · simp [refsC] at hj
    · exact hj
  · exact hj
theorem cleanC_congr {l1 l2 : Look} {c : C} (h : ∀ j ∈ refsC c, l2 j = l1 j) : cleanC l2 c = cleanC l1 c := by
  cases c with
  | own id => simp only [cleanC, h id (by simp [refsC])]
  | ap id i off => simp only [cleanC, h id (by simp [refsC])]
  | _ => rfl
theorem cleanO_congr {l1 l2 : Look} {o : O} (h : ∀ j ∈ refsO (some o), l2 j = l1 j) : cleanO l2 o = cleanO l1 o := by
  cases o with
  | box cs =>
    simp only [cleanO, O.box.injEq]
    apply List.map_congr_left
    intro c hc
    exact cleanC_congr fun j hj => h j (List.mem_flatMap.2 ⟨c, hc, hj⟩)
  | _ => rfl
theorem refsO_clean {look : Look} {o : O} : ∀ j ∈ refsO (some (cleanO look o)), j ∈ refsO (some o) := by
  intro j hj
  cases o with
  | box cs =>
    simp only [cleanO, refsO, List.mem_flatMap, List.mem_map] at hj ⊢
    obtain ⟨_, ⟨c, hc, rfl⟩, hj⟩ := hj
    exact ⟨c, hc, refsC_clean j hj⟩
  | _ => exact hj
theorem reach_below {look : Look} {base : Nat} (hc : ∀ id, id < base → ∀ j ∈ refsO (look id), j < base) : ∀ (n : Nat) (seen todo : List Nat), (∀ j ∈ seen, j < base) → (∀ j ∈ todo, j < base) → ∀ id ∈ Am.reach look n seen todo, id < base
  | 0, seen, _, h, _, id, hi => h id (by simpa [Am.reach] using hi)
  | n + 1, seen, [], h, _, id, hi => h id (by simpa [Am.reach] using hi)
  | n + 1, seen, j :: todo, h, ht, id, hi => by
    unfold Am.reach at hi
    split at hi
    · exact reach_below hc n seen todo h (fun k hk => ht k (List.mem_cons_of_mem _ hk)) id hi
    · refine reach_below hc n _ _ ?_ ?_ id hi
      · intro k hk
        rcases List.mem_append.1 hk with hk | hk
        · exact h k hk
        · simp only [List.mem_singleton] at hk; subst hk; exact ht _ List.mem_cons_self
      · intro k hk
        rcases List.mem_append.1 hk with hk | hk
        · exact ht k (List.mem_cons_of_mem _ hk)
        · exact hc j (ht j List.mem_cons_self) k hk
theorem lk_clean (loc : List O) (l0 : Look) (id : Nat) : lk (loc.map (cleanO l0)) id = (lk loc id).map (cleanO l0) := by
  unfold lk
  rw [List.getElem?_map]
  cases h : loc[id]? with
  | none => rfl
  | some o => cases o <;> rfl
theorem panicOut_congr {cf : Cf} {x : Value} {loc1 loc2 : List O} {base : Nat} (hm : cf.m ≤ base) (h1 : base ≤ loc1.length) (h2 : base ≤ loc2.length) (hc : closedBelow base loc1 = true) (ha : ∀ id, id < base → lk loc2 id = lk loc1 id) :
    panicOut cf x loc2 = panicOut cf x loc1 := by
  have hcl : ∀ id, id < base → ∀ j ∈ refsO (lk loc1 id), j < base := by
    intro id hid j hj
    have := List.all_eq_true.1 (List.all_eq_true.1 hc id (List.mem_range.2 hid)) j hj
    simpa using this
  have hlk : ∀ id, id < base → lk (loc2.map (cleanO (lk loc2))) id = lk (loc1.map (cleanO (lk loc1))) id := by
    intro id hid
    rw [lk_clean, lk_clean, ha id hid]
    cases ho : lk loc1 id with
    | none => rfl
    | some o =>
      simp only [Option.map_some, Option.some.injEq]
      apply cleanO_congr
      intro j hj
      exact ha j (hcl id hid j (by rw [ho]; exact hj))
  have hcl1 : ∀ id, id < base → ∀ j ∈ refsO (lk (loc1.map (cleanO (lk loc1))) id), j < base := by
    intro id hid j hj
    rw [lk_clean] at hj
    cases ho : lk loc1 id with
    | none => rw [ho] at hj; simp [refsO] at hj
    | some o =>
      rw [ho] at hj
      exact hcl id hid j (by rw [ho]; exact refsO_clean j hj)
  have hroots : ∀ (loc : List O), ((List.range cf.m).flatMap fun id => refsO (lk loc id)) ++ [] = (List.range cf.m).flatMap fun id => refsO (lk loc id) := fun _ => List.append_nil _
  have hrt : ((List.range cf.m).flatMap fun id => refsO (lk (loc2.map (cleanO (lk loc2))) id)) = ((List.range cf.m).flatMap fun id => refsO (lk (loc1.map (cleanO (lk loc1))) id)) := by
    rw [List.flatMap_def, List.flatMap_def]
    congr 1
    apply List.map_congr_left
    intro id hid
    rw [hlk id (by have := List.mem_range.1 hid; omega)]
  have hbel : ∀ id ∈ kept cf.m [] (loc1.map (cleanO (lk loc1))), id < base := by
    unfold kept
    refine reach_below hcl1 _ _ _ (fun j hj => by have := List.mem_range.1 hj; omega) (fun j hj => ?_)
    rw [hroots] at hj
    obtain ⟨id, p1, p2⟩ := List.mem_flatMap.1 hj
    exact hcl1 id (by have := List.mem_range.1 p1; omega) j p2
  have hk : kept cf.m [] (loc2.map (cleanO (lk loc2))) = kept cf.m [] (loc1.map (cleanO (lk loc1))) := by
    unfold kept at hbel ⊢
    rw [hrt]
    exact reach_congr _ _ _ fun id hid => hlk id (hbel id hid)
  have hko : keptO (kept cf.m [] (loc1.map (cleanO (lk loc1)))) (loc2.map (cleanO (lk loc2))) = keptO (kept cf.m [] (loc1.map (cleanO (lk loc1)))) (loc1.map (cleanO (lk loc1))) := by
    unfold keptO
    rw [mapO_congr fun id hid => hlk id (hbel id hid)]
  unfold panicOut
  dsimp only
  rw [hk, hko]
  have e : decide (cf.m ≤ (loc2.map (cleanO (lk loc2))).length) = decide (cf.m ≤ (loc1.map (cleanO (lk loc1))).length) := by
    simp only [List.length_map]
    rw [decide_eq_true (by omega), decide_eq_true (by omega)]
  rw [e]
/-- The objects of a look that has none above, as a list. -/
def listOf (look : Look) (n : Nat) : List O := (List.range n).map fun id => (look id).getD .hole
theorem lk_listOf {look : Look} {n : Nat} (hH : NoHole look) (hb : ∀ id, n ≤ id → look id = none) : lk (listOf look n) = look := by
  funext id
  unfold lk listOf
  rw [List.getElem?_map]
  rcases Nat.lt_or_ge id n with h | h
  · rw [List.getElem?_range h]
    cases ho : look id with
    | none => simp [ho]
    | some o =>
      cases o with
      | hole => exact absurd ho (hH id)
      | _ => simp [ho]
  · rw [List.getElem?_eq_none (by simpa using h), hb id h]; rfl
end Go.Proofs.YteenjodhmppgjaaGreatDoor.Am
end
section
/- The abstract machine: runs are sound. -/
namespace Go.Proofs.YteenjodhmppgjaaGreatDoor.Am
open Go
def concs : List It → List Item → Prop
  | [], k => k = []
  | .code c :: K, k => ∃ k', k = .code c :: k' ∧ concs K k'
  | .inBlock id :: K, k => ∃ k', k = .inBlock id :: k' ∧ concs K k'
  | .inLoop c :: K, k => ∃ k', k = .inLoop c :: k' ∧ concs K k'
  | .ops all l :: K, k => ∃ is k', k = .inRegion all is :: k' ∧ is.map (fun i => all[i]?) = l.map some ∧ concs K k'
theorem exit_ok {id : Nat} : ∀ {K K' : List It} {k : List Item}, exitA id K = some K' → concs K k → ∃ k', exitTo id k = some k' ∧ concs K' k'
  | [], _, _, h, _ => by cases h
  | .code c :: K, K', k, h, hc => by
    obtain ⟨k1, rfl, hc⟩ := hc
    simp only [exitTo]; exact exit_ok (K := K) h hc
  | .inLoop c :: K, K', k, h, hc => by
    obtain ⟨k1, rfl, hc⟩ := hc
    simp only [exitTo]; exact exit_ok (K := K) h hc
  | .ops all l :: K, K', k, h, hc => by
    obtain ⟨is, k1, rfl, _, hc⟩ := hc
    simp only [exitTo]; exact exit_ok (K := K) h hc
  | .inBlock id' :: K, K', k, h, hc => by
    obtain ⟨k1, rfl, hc⟩ := hc
    simp only [exitA] at h
    simp only [exitTo]
    split at h
    · rename_i he
      cases h
      exact ⟨k1, by simp [he], hc⟩
    · rename_i he
      obtain ⟨k2, h1, h2⟩ := exit_ok (K := K) h hc
      exact ⟨k2, by simp [he, h1], h2⟩
/-- What a function leaves at its end. -/
def PostK (P : Program) (fn : Func) (m : Nat) (out : Out) (w0 : World) (F : Nat → Prop) (β0 : Int → Nat) (look0 : Look) : FinK → Act → World → Prop
  | .ret, a', w' => a'.defers = [] ∧ ∃ vs os v β', out = .ret vs os ∧ (results fn a'.tmps).run P w' = .ok v w' ∧ RRes w' F β' (lk os) v vs ∧ Sim w' F β' (lk os) ∧ St (· < m) w0 β0 look0 w' β' (lk os)
  | .pan ch, a', w' => a'.defers = [] ∧ ∃ x os β', out = .pan x os ∧ ch = [{ v := x, recovered := false }] ∧ Sim w' F β' (lk os) ∧ St (· < m) w0 β0 look0 w' β' (lk os)
section
variable {P : Program}
theorem PostK.trans {fn : Func} {m : Nat} {out : Out} {w0 w1 : World} {F : Nat → Prop} {β0 β1 : Int → Nat} {l0 l1 : Look} (h : St (· < m) w0 β0 l0 w1 β1 l1) {fk : FinK} {a : Act} {w : World} (hp : PostK P fn m out w1 F β1 l1 fk a w) : PostK P fn m out w0 F β0 l0 fk a w := by
  cases fk with
  | ret => obtain ⟨a1, vs, os, v, β', h1, h2, h3, h4, h5⟩ := hp; exact ⟨a1, vs, os, v, β', h1, h2, h3, h4, h.trans h5⟩
  | pan ch => obtain ⟨a1, x, os, β', h1, h2, h3, h4⟩ := hp; exact ⟨a1, x, os, β', h1, h2, h3, h.trans h4⟩
/-- Whoever stands at the head of these items comes to the end that out tells. -/
def At0 (P : Program) (fn : Func) (m : Nat) (out : Out) (F : Nat → Prop) (todo : List It) (items : List Item) (a : Act) (w : World) (β : Int → Nat) (look : Look) : Prop :=
  match todo, items with
  | .ops _ _ :: _, .inRegion all is :: k => wpOps P all (Qr P k (PostK P fn m out w F β look)) is a w
  | _, _ => Reach P items a w (PostK P fn m out w F β look)
def EOK (P : Program) : Entry → Out → Prop
  | .call f args objs, out => (Bodied P f ∧ CallOK P f args objs out) ∨ NatOK P f args objs out
  | .k cf todo env loc, out => ∀ (fn : Func) (items : List Item) (a : Act) (w : World) (F : Nat → Prop) (β : Int → Nat), fn.results.toList = cf.res → concs todo items → a.tmps.size = cf.nt → a.defers = [] →
      Sim w F β (lk loc) → EnvR w F β (lk loc) a.tmps env → At0 P fn cf.m out F todo items a w β (lk loc)
theorem at_reach {fn : Func} {m : Nat} {out : Out} {F : Nat → Prop} {todo : List It} {items : List Item} {a : Act} {w : World} {β : Int → Nat} {look : Look} (hc : concs todo items) (h : At0 P fn m out F todo items a w β look) : Reach P items a w (PostK P fn m out w F β look) := by
  cases todo with
  | nil => exact h
  | cons x K =>
    cases x with
    | code c => obtain ⟨k', rfl, _⟩ := hc; exact h
    | inBlock id => obtain ⟨k', rfl, _⟩ := hc; exact h
    | inLoop c => obtain ⟨k', rfl, _⟩ := hc; exact h
    | ops all l => obtain ⟨is, k', rfl, _, _⟩ := hc; exact reach_ops h
theorem reach_end {items : List Item} {a : Act} {w : World} {Post : FinK → Act → World → Prop} (hs : ∀ (b : Frame) (cs : List Frame), step P (lone (b.at a items) cs w) = .next (lone { b.at a items with mode := .returning } cs w)) (h : Post .ret a w) : Reach P items a w Post :=
  fun b cs => ⟨.ret, a, w, items, h, .one (hs b cs)⟩
theorem ends {fn : Func} {cf : Cf} {env : Env} {loc : List O} {out : Out} {w : World} {F : Nat → Prop} {β : Int → Nat} {a : Act} (hres : fn.results.toList = cf.res) (hd : a.defers = []) (hS : Sim w F β (lk loc)) (hE : EnvR w F β (lk loc) a.tmps env) (h : finishA P cf env loc = some out) :
    PostK P fn cf.m out w F β (lk loc) .ret a w := by
  obtain ⟨vs, os, v, β', h1, h2, h3, h4, h5⟩ := finish_ok hS hE hres h
  exact ⟨hd, vs, os, v, β', h1, h2, h3, h4, h5⟩
theorem wanted_ok {all : Array Oper} {env : Env} {g : Option (Nat × Bool)} {b : Bool} {w : World} {F : Nat → Prop} {β : Int → Nat} {look : Look} {a : Act} (hE : EnvR w F β look a.tmps env) (h : wantedA all env g = some b) (o : Oper) (ho : o.guard = g) : Region.wanted o (yielded all a.tmps) = b := by
  unfold wantedA at h
  unfold Region.wanted
  rw [ho]
  cases g with
  | none => simpa using h
  | some p =>
    obtain ⟨j, want⟩ := p
    dsimp only at h ⊢
    cases hj : all[j]? with
    | none => simp [hj] at h
    | some oj =>
      simp only [hj] at h
      cases hd : oj.dst with
      | none => simp [hd] at h
      | some t =>
        simp only [hd] at h
        split at h
        · rename_i c hc
          simp only [Option.some.injEq] at h
          subst h
          have h1 := hE t
          rw [hc] at h1
          have h2 : a.tmps.getD t undef = .bool c := (rv_v h1).1
          have h3 : a.tmps[t]? = some (.bool c) := by
            rw [Array.getD_eq_getD_getElem?] at h2
            cases h4 : a.tmps[t]? with
            | none => rw [h4] at h2; cases h2
            | some y => rw [h4] at h2; simp at h2; rw [h2]
          have h5 : yielded all a.tmps j = some c := by
            unfold yielded
            rw [hj]
            simp only [Option.bind_some, hd, h3]
          rw [h5]
          cases c <;> cases want <;> rfl
        · rename_i hc
          simp only [Option.some.injEq] at h
          subst h
          have h1 := hE t
          rw [hc] at h1
          obtain ⟨u, h2, _⟩ := h1
          have h5 : yielded all a.tmps j = none := by
            unfold yielded
            rw [hj]
            simp only [Option.bind_some, hd]
            rw [Array.getD_eq_getD_getElem?] at h2
            cases h4 : a.tmps[t]? with
            | none => rfl
            | some y => rw [h4] at h2; simp at h2; rw [h2]
          rw [h5]
          rfl
        · cases h
theorem upon_mono {o : Oper} {a : Act} {K K' : Act → World → Prop} {Q Q' : Exit → Act → World → Prop} (h : ∀ a w, K a w → K' a w) (hQ : ∀ e a w, Q e a w → Q' e a w) {r : Result Next} (hh : o.upon P a K Q r) : o.upon P a K' Q' r := by
  cases r with
  | ok n w' =>
    cases n <;> simp only [Oper.upon] at hh ⊢ <;>
      first
        | exact h _ _ hh
        | exact Calls.mono hh (fun e w'' he => by
            cases e with
            | returned v => exact h _ _ he
            | panicked ch => exact hQ _ _ _ he
            | outgrown => obtain ⟨a0, w0, hq⟩ := he; exact ⟨a0, w0, hQ _ _ _ hq⟩)
        | exact Rows.mono hh (fun _ _ he => h _ _ he)
  | halt x w' => cases x <;> simp only [Oper.upon] at hh ⊢ <;> first | exact hQ _ _ _ hh | exact hh
theorem wpOps_mono {ops : Array Oper} {Q Q' : Exit → Act → World → Prop} (hQ : ∀ e a w, Q e a w → Q' e a w) : ∀ (l : List Nat) (a : Act) (w : World), wpOps P ops Q l a w → wpOps P ops Q' l a w
  | [], a, w, h => hQ _ _ _ h
  | i :: rest, a, w, h => by
    simp only [wpOps] at h ⊢
    cases ho : ops[i]? with
    | none => simp only [ho] at h; exact wpOps_mono hQ rest a w h
    | some o =>
      simp only [ho] at h ⊢
      split
      · rename_i hw
        rw [if_pos hw] at h
        rcases h with h | ⟨h1, a0, w0, h2⟩
        · exact .inl (upon_mono (fun a w => wpOps_mono hQ rest a w) hQ h)
        · exact .inr ⟨h1, a0, w0, hQ _ _ _ h2⟩
      · rename_i hw
        rw [if_neg hw] at h
        exact wpOps_mono hQ rest _ w h
theorem runs_sound (hN : Named P) {ext : Ext} (hext : ∀ f g args objs out, ext f = some g → g args objs = some out → (Bodied P f ∧ CallOK P f args objs out) ∨ NatOK P f args objs out)
    (hMix : P.follows .mixedOrders = true) : ∀ (n : Nat) (e : Entry) (out : Out), runN P ext n e = some out → EOK P e out
  | 0, _, _, h => by cases h
  | n + 1, e, out, h => by
    have ih := runs_sound hN hext hMix n
    have hrec : RecOK P (runN P ext n) := fun f args objs o hr => ih _ _ hr
    simp only [runN] at h
    cases e with
    | call f args objs =>
      simp only [stepA] at h
      cases hx : ext f with
      | some g =>
        simp only [hx] at h
        exact hext f g args objs out hx h
      | none =>
        simp only [hx] at h
        cases hf : P.funcs[f]? with
        | none => simp [hf] at h
        | some fn =>
          simp only [hf] at h
          cases hb : fn.body with
          | none => simp [hb] at h
          | some c =>
            simp only [hb] at h
            split at h
            case isFalse => cases h
            rename_i hlen
            refine .inl ⟨⟨fn, hf, by simp [hb]⟩, fun w F β vals hS hargs => ?_⟩
            refine calls_of_reach hf hb ?_
            have hvl : vals.length = args.length := hargs.length
            have hsz : (vals.toArray ++ Array.replicate (fn.ntmps - vals.toArray.size) undef).size = fn.ntmps := by simp; omega
            have hE : EnvR w F β (lk objs) (vals.toArray ++ Array.replicate (fn.ntmps - vals.toArray.size) undef) (args.zipIdx.map fun (v, i) => (i, v)) := by
              intro t
              have key : ∀ (l : List V) (i t : Nat), gt ((l.zipIdx i).map fun (v, i) => (i, v)) t = if i ≤ t then (l[t - i]?).getD (.c .any) else .c .any := by
                intro l
                induction l with
                | nil => intro i t; simp [gt]
                | cons x l ihl =>
                  intro i t
                  simp only [List.zipIdx_cons, List.map_cons, gt, ihl]
                  by_cases e : i = t
                  · subst e; simp
                  · simp only [e, if_false]
                    by_cases h1 : i + 1 ≤ t
                    · rw [if_pos h1, if_pos (by omega), show t - i = (t - (i + 1)) + 1 by omega]; simp
                    · rw [if_neg h1, if_neg (by omega)]
              rw [key args 0 t]
              simp only [Nat.zero_le, if_true, Nat.sub_zero]
              cases ha : args[t]? with
              | none => exact trivial
              | some x =>
                obtain ⟨v, h1, h2⟩ := hargs.get_right ha
                have hlt : t < vals.length := by
                  rcases Nat.lt_or_ge t vals.length with h | h
                  · exact h
                  · rw [List.getElem?_eq_none h] at h1; cases h1
                have : (vals.toArray ++ Array.replicate (fn.ntmps - vals.toArray.size) undef).getD t undef = v := by
                  rw [Array.getD_eq_getD_getElem?, Array.getElem?_append_left (by simpa using hlt)]
                  simp [h1]
                rw [this]
                exact h2
            have hk := ih _ _ h fn [.code c] { tmps := vals.toArray ++ Array.replicate (fn.ntmps - vals.toArray.size) undef, defers := [] } w F β rfl ⟨[], rfl, rfl⟩ hsz rfl hS hE
            refine Reach.mono hk fun fk a' w' hp => ?_
            cases fk with
            | ret =>
              obtain ⟨h1, vs, os, v, β', rfl, h3, h4, h5, h6⟩ := hp
              exact ⟨h1, v, h3, β', v, rfl, h4, h5, h6⟩
            | pan ch =>
              obtain ⟨h1, x, os, β', rfl, rfl, h4, h5⟩ := hp
              exact ⟨h1, β', rfl, h4, h5⟩
    | k cf todo env loc =>
      intro fn items a w F β hres hc hsz hd hS hE
      -- a step that only moves on
      have move : ∀ {K : List It} {items' : List Item}, runN P ext n (.k cf K env loc) = some out → concs K items' → (∀ (b : Frame) (cs : List Frame), step P (lone (b.at a items) cs w) = .next (lone (b.at a items') cs w)) → Reach P items a w (PostK P fn cf.m out w F β (lk loc)) := by
        intro K items' hr hc' hs
        exact reach_step hs (at_reach hc' (ih _ _ hr fn items' a w F β hres hc' hsz hd hS hE))
      cases todo with
      | nil =>
        simp only [concs] at hc
        subst hc
        exact reach_end (fun b cs => step_end) (ends hres hd hS hE h)
      | cons x K =>
        cases x with
        | inBlock id =>
          obtain ⟨k', rfl, hc⟩ := hc
          exact move (K := K) h hc (fun b cs => step_inBlock)
        | inLoop c =>
          obtain ⟨k', rfl, hc⟩ := hc
          simp only [stepA, afterHead] at h
          cases hh : headL cf c K env loc with
          | none => simp [hh] at h
          | some p =>
            obtain ⟨env', os⟩ := p
            simp only [hh] at h
            obtain ⟨β', hS', hE', hst⟩ := head_ok hS (EnvR.pad hE _) hh
            have hc' : concs (.code c :: .inLoop c :: K) (.code c :: .inLoop c :: k') := ⟨_, rfl, _, rfl, hc⟩
            have hr := at_reach hc' (ih _ _ h fn _ a w F β' hres hc' hsz hd hS' hE')
            exact reach_step (fun b cs => step_inLoop) (hr.mono fun _ _ _ hp => PostK.trans hst hp)
        | code c =>
          obtain ⟨k', rfl, hc⟩ := hc
          show Reach P _ a w _
          simp only [stepA] at h
          cases c with
          | skip => exact move (K := K) h hc (fun b cs => step_skip)
          | ret => exact reach_end (fun b cs => step_ret) (ends hres hd hS hE h)
          | seq c1 c2 => exact move (K := .code c1 :: .code c2 :: K) h ⟨_, rfl, _, rfl, hc⟩ (fun b cs => step_seq)
          | block id c1 => exact move (K := .code c1 :: .inBlock id :: K) h ⟨_, rfl, _, rfl, hc⟩ (fun b cs => step_block)
          | cond x c1 c2 =>
            simp only [codeA] at h
            split at h
            · rename_i t ht
              have hx := ev_rep hE x
              rw [ht] at hx
              have hb : a.eval x = .bool t := (rv_v hx).1
              exact move (K := .code (if t then c1 else c2) :: K) h ⟨_, rfl, hc⟩ (fun b cs => step_cond hb)
            · cases h
          | exit id =>
            simp only [codeA] at h
            cases hx : exitA id K with
            | none => simp [hx] at h
            | some K' =>
              simp only [hx] at h
              obtain ⟨k2, h1, h2⟩ := exit_ok hx hc
              exact move (K := K') h h2 (fun b cs => step_exit h1)
          | loop c1 =>
            have hc' : concs (.inLoop c1 :: K) (.inLoop c1 :: k') := ⟨_, rfl, hc⟩
            have hr := at_reach hc' (ih _ _ h fn _ a w F β hres hc' hsz hd hS hE)
            exact reach_step (fun b cs => step_loop) (reach_unstep (fun b cs => step_inLoop) hr)
          | region id ops dr =>
            cases dr with
            | false =>
              have hl : (List.range ops.size).map (fun i => ops[i]?) = ops.toList.map some := by
                apply List.ext_getElem?
                intro i
                rw [List.getElem?_map, List.getElem?_map]
                by_cases hi : i < ops.size
                · rw [List.getElem?_range hi]; simp [hi]
                · rw [List.getElem?_eq_none (by simp; omega), List.getElem?_eq_none (by simp; omega)]; rfl
              exact move (K := .ops ops ops.toList :: K) h ⟨_, _, rfl, hl, hc⟩ (fun b cs => step_region)
            | true =>
              simp only [codeA] at h
              cases hdr : drawA P (runN P ext n) cf.nt ops loc.length ops.toList 0 env (loc ++ holes ops.size) with
              | none =>
                simp only [hdr] at h
                cases hpi : panIx P (runN P ext n) cf.nt ops loc.length ops.toList 0 env (loc ++ holes ops.size) with
                | none => simp [hpi] at h
                | some p =>
                  simp only [hpi] at h
                  unfold afterPan at h
                  split at h
                  case h_2 => cases h
                  rename_i x loc1 fps hdp
                  split at h
                  case isFalse => cases h
                  rename_i hall
                  simp only [Bool.and_eq_true, decide_eq_true_eq] at hall
                  obtain ⟨⟨⟨⟨hok, hpan⟩, hclo⟩, hmb⟩, hlen⟩ := hall
                  intro b cs
                  have hw := sim_frame (w' := { w with drawn := w.drawn + 1 }) hS rfl rfl rfl rfl
                  obtain ⟨hS1, st1⟩ := hw
                  have hE1 := EnvR.mono st1 hE
                  have hany := pan_ok_draw hN hrec hS1 hE1 hsz hd hdp hok hpan (Q := Qr P k' (PostK P fn cf.m out w F β (lk loc)))
                    (fun a' w' β' look' g1 g2 g3 g4 g5 g6 => by
                      have hl2 := lk_listOf (n := loc.length + ops.size) g2 g5
                      rw [← hl2] at g1 g3
                      have hcong := panicOut_congr (cf := cf) (x := x) (loc2 := listOf look' (loc.length + ops.size)) hmb hlen (by simp [listOf]) hclo (fun id hid => by rw [hl2]; exact g4 id hid)
                      rw [← hcong] at h
                      obtain ⟨os, β2, rfl, p1, p2⟩ := panic_ok g1 h
                      exact ⟨g6, x, os, β2, rfl, rfl, p1, (st1.trans g3).some.trans p2⟩)
                  have this : wpOps P ops (Qr P k' (PostK P fn cf.m out w F β (lk loc))) (Region.schedule (P.follows .mixedOrders) ops (w.tape w.drawn (.order b.fn id))) a { w with drawn := w.drawn + 1 } := by
                    simp only [Region.schedule, hMix, Bool.true_or, if_true]
                    exact wpAny_sound ops.size _ _ a _ hany
                  obtain ⟨fk, a', w', todo, p1, p2⟩ := reach_ops this b cs
                  exact ⟨fk, a', w', todo, p1, .head step_region_draw p2⟩
              | some p =>
                obtain ⟨env', loc', fps⟩ := p
                simp only [hdr, afterDraw] at h
                split at h
                case isFalse => cases h
                rename_i hok
                intro b cs
                have hw := sim_frame (w' := { w with drawn := w.drawn + 1 }) hS rfl rfl rfl rfl
                obtain ⟨hS1, st1⟩ := hw
                have hE1 := EnvR.mono st1 hE
                have hany := draw_ok hN hrec hS1 hE1 hsz hd hdr hok (Q := Qr P k' (PostK P fn cf.m out w F β (lk loc)))
                  (fun a' w' β' g1 g2 g3 g4 g5 => by
                    have hr := at_reach hc (ih _ _ h fn k' a' w' F β' hres hc g4 g5 g1 g2)
                    exact hr.mono fun _ _ _ hp => PostK.trans (st1.trans g3).some hp)
                have this : wpOps P ops (Qr P k' (PostK P fn cf.m out w F β (lk loc))) (Region.schedule (P.follows .mixedOrders) ops (w.tape w.drawn (.order b.fn id))) a { w with drawn := w.drawn + 1 } := by
                  simp only [Region.schedule, hMix, Bool.true_or, if_true]
                  exact wpAny_sound ops.size _ _ a _ hany
                obtain ⟨fk, a', w', todo, p1, p2⟩ := reach_ops this b cs
                exact ⟨fk, a', w', todo, p1, .head step_region_draw p2⟩
          | _ => cases h
        | ops all l =>
          obtain ⟨is, k', rfl, hl, hc⟩ := hc
          show wpOps P all _ is a w
          cases l with
          | nil =>
            have : is = [] := by simpa using hl
            subst this
            simp only [stepA] at h
            exact at_reach hc (ih _ _ h fn k' a w F β hres hc hsz hd hS hE)
          | cons o l =>
            cases is with
            | nil => simp at hl
            | cons i is =>
              simp only [List.map_cons, List.cons.injEq] at hl
              obtain ⟨hi, hl⟩ := hl
              simp only [stepA] at h
              split at h
              case isFalse => cases h
              rename_i hdst
              rw [← hsz] at hdst
              simp only [wpOps, hi]
              cases hw : wantedA all env o.guard with
              | none => simp [hw] at h
              | some b =>
                simp only [hw] at h
                have hwant := wanted_ok hE hw o rfl
                rw [hwant]
                cases b with
                | false =>
                  simp only [Bool.false_eq_true, if_false]
                  dsimp only at h
                  exact ih _ _ h fn (.inRegion all is :: k') (a.put o.dst undef) w F β hres ⟨is, k', rfl, hl, hc⟩ (by rw [put_size]; exact hsz) (by rw [put_defers]; exact hd) hS (hE.put rv_und hdst)
                | true =>
                  simp only [if_true]
                  left
                  dsimp only at h
                  cases hop : opA P (runN P ext n) (lk loc) loc.length (ev env) o.op with
                  | none => simp [hop, afterOp] at h
                  | some e =>
                    have hslot : ∀ id, loc.length ≤ id → lk loc id = none := by
                      intro id hid
                      simp [lk, List.getElem?_eq_none hid]
                    have hgo := op_goes hN hrec hS (noHole_lk loc) (hslot _ (Nat.le_refl _)) (a := a) (fun y => ev_rep hE y) hop (fun id h1 _ => hslot id h1)
                    refine hgo _ _ fun w' β' hg => ?_
                    obtain ⟨res, upd, rd⟩ := e
                    obtain ⟨g1, g2⟩ := hg
                    rw [← lk_updO] at g1 g2
                    cases res with
                    | val v =>
                      intro x hx
                      simp only [hop, afterOp] at h
                      dsimp only at hx
                      rw [← lk_updO] at hx
                      have := ih _ _ h fn (.inRegion all is :: k') (a.put o.dst x) w' F β' hres ⟨is, k', rfl, hl, hc⟩ (by rw [put_size]; exact hsz) (by rw [put_defers]; exact hd) g1 ((EnvR.mono g2 hE).put hx hdst)
                      have hmono : ∀ (e : Exit) (a : Act) (w'' : World), Qr P k' (PostK P fn cf.m out w' F β' (lk (updO loc upd))) e a w'' → Qr P k' (PostK P fn cf.m out w F β (lk loc)) e a w'' := by
                        intro e a w'' hq
                        cases e with
                        | normal => exact Reach.mono hq fun _ _ _ hp => PostK.trans g2.some hp
                        | panic ch => exact PostK.trans (P := P) (fn := fn) (fk := .pan ch) g2.some hq
                        | _ => exact hq
                      exact wpOps_mono hmono _ _ _ this
                    | pan x =>
                      simp only [hop, afterOp] at h
                      obtain ⟨os, β2, rfl, p1, p2⟩ := panic_ok g1 h
                      exact ⟨hd, x, os, β2, rfl, rfl, p1, g2.some.trans p2⟩
/-- What a run answers is what the function does. -/
theorem run_sound (hN : Named P) {ext : Ext} (hext : ∀ f g args objs out, ext f = some g → g args objs = some out → (Bodied P f ∧ CallOK P f args objs out) ∨ NatOK P f args objs out) (hMix : P.follows .mixedOrders = true) {f : FuncId} {args : List V} {objs : List O} {out : Out}
    (h : run P ext (.call f args objs) = some out) (hB : Bodied P f) : CallOK P f args objs out := by
  obtain ⟨n, hn⟩ := (run_iff P ext _ _).1 h
  rcases runs_sound hN hext hMix n _ _ hn with ⟨_, h⟩ | ⟨xs, y, _, _, _, _, h⟩
  · exact h
  · have h1 := h default
    rw [run_callFunc hN hB] at h1
    cases h1
end
end Go.Proofs.YteenjodhmppgjaaGreatDoor.Am
end
section
/- The abstract machine: how a run goes on, as rules for simp. -/
namespace Go.Proofs.YteenjodhmppgjaaGreatDoor.Am
open Go
section
variable {P : Program} {ext : Ext} {cf : Cf} {K : List It} {env : Env} {loc : List O} {all : Array Oper} {l : List Oper}
theorem r_end : run P ext (.k cf [] env loc) = finishA P cf env loc := by rw [run_eq]; rfl
theorem r_ret : run P ext (.k cf (.code .ret :: K) env loc) = finishA P cf env loc := by rw [run_eq]; rfl
theorem r_skip : run P ext (.k cf (.code .skip :: K) env loc) = run P ext (.k cf K env loc) := by rw [run_eq]; rfl
theorem r_seq (a b : Code) : run P ext (.k cf (.code (.seq a b) :: K) env loc) = run P ext (.k cf (.code a :: .code b :: K) env loc) := by rw [run_eq]; rfl
theorem r_block (id : Nat) (a : Code) : run P ext (.k cf (.code (.block id a) :: K) env loc) = run P ext (.k cf (.code a :: .inBlock id :: K) env loc) := by rw [run_eq]; rfl
theorem r_inBlock (id : Nat) : run P ext (.k cf (.inBlock id :: K) env loc) = run P ext (.k cf K env loc) := by rw [run_eq]; rfl
theorem r_loop (a : Code) : run P ext (.k cf (.code (.loop a) :: K) env loc) = run P ext (.k cf (.inLoop a :: K) env loc) := by rw [run_eq]; rfl
theorem r_region (n : Nat) (ops : Array Oper) : run P ext (.k cf (.code (.region n ops false) :: K) env loc) = run P ext (.k cf (.ops ops ops.toList :: K) env loc) := by rw [run_eq]; rfl
def panK (P : Program) (rec : Rec) (cf : Cf) (ops : Array Oper) (env : Env) (loc : List O) (b : Option Nat) : Option Out :=
  match b with
  | some p => afterPan cf ops loc.length p (drawP P rec cf.nt ops loc.length p (befs [] ops.toList) ops.toList 0 env (loc ++ holes ops.size))
  | none => none
def drawK (P : Program) (rec : Rec) (cf : Cf) (ops : Array Oper) (K : List It) (env : Env) (loc : List O) (a : Option (Env × List O × List (List Nat × List Nat))) : Option Out :=
  match a with
  | some r => afterDraw rec cf ops K (some r)
  | none => panK P rec cf ops env loc (panIx P rec cf.nt ops loc.length ops.toList 0 env (loc ++ holes ops.size))
theorem r_draw (n : Nat) (ops : Array Oper) : run P ext (.k cf (.code (.region n ops true) :: K) env loc) = drawK P (run P ext) cf ops K env loc (drawA P (run P ext) cf.nt ops loc.length ops.toList 0 env (loc ++ holes ops.size)) := by rw [run_eq]; rfl
theorem drawK_some (rec : Rec) (ops : Array Oper) (r : Env × List O × List (List Nat × List Nat)) : drawK P rec cf ops K env loc (some r) = afterDraw rec cf ops K (some r) := rfl
theorem r_ops_nil : run P ext (.k cf (.ops all [] :: K) env loc) = run P ext (.k cf K env loc) := by rw [run_eq]; rfl
/-- At the head of a loop's round: for `rw` alone. -/
theorem r_inLoop (c : Code) : run P ext (.k cf (.inLoop c :: K) env loc) = afterHead (run P ext) cf (.code c :: .inLoop c :: K) (headL cf c K env loc) := by rw [run_eq]; rfl
def condK (rec : Rec) (cf : Cf) (v : V) (a b : Code) (K : List It) (env : Env) (loc : List O) : Option Out :=
  match v with
  | .c (.d (.v (.bool t))) => rec (.k cf (.code (if t then a else b) :: K) env loc)
  | _ => none
theorem r_cond (x : Operand) (a b : Code) : run P ext (.k cf (.code (.cond x a b) :: K) env loc) = condK (run P ext) cf (ev env x) a b K env loc := by rw [run_eq]; rfl
theorem condK_true (rec : Rec) (a b : Code) : condK rec cf (.c (.d (.v (.bool true)))) a b K env loc = rec (.k cf (.code a :: K) env loc) := rfl
theorem condK_false (rec : Rec) (a b : Code) : condK rec cf (.c (.d (.v (.bool false)))) a b K env loc = rec (.k cf (.code b :: K) env loc) := rfl
def exitK (rec : Rec) (cf : Cf) (r : Option (List It)) (env : Env) (loc : List O) : Option Out :=
  match r with
  | some K => rec (.k cf K env loc)
  | none => none
theorem r_exit (id : Nat) : run P ext (.k cf (.code (.exit id) :: K) env loc) = exitK (run P ext) cf (exitA id K) env loc := by rw [run_eq]; rfl
theorem exitK_some (rec : Rec) (K : List It) : exitK rec cf (some K) env loc = rec (.k cf K env loc) := rfl
theorem exitA_code (id : Nat) (c : Code) (K : List It) : exitA id (.code c :: K) = exitA id K := rfl
theorem exitA_loop (id : Nat) (c : Code) (K : List It) : exitA id (.inLoop c :: K) = exitA id K := rfl
theorem exitA_ops (id : Nat) (K : List It) : exitA id (.ops all l :: K) = exitA id K := rfl
theorem exitA_block (id i : Nat) (K : List It) : exitA id (.inBlock i :: K) = if i == id then some K else exitA id K := rfl
def opK (P : Program) (rec : Rec) (cf : Cf) (all : Array Oper) (d : Option Nat) (o : Op) (l : List Oper) (K : List It) (env : Env) (loc : List O) (w : Option Bool) : Option Out :=
  match w with
  | some true => afterOp rec cf all d l K env loc (opA P rec (lk loc) loc.length (ev env) o)
  | some false => rec (.k cf (.ops all l :: K) (putO env d (.tup [])) loc)
  | none => none
theorem r_op (d : Option Nat) (o : Op) (t : Nat) (p : String) (a : Array Edge) (h : dstOk cf.nt d = true) :
    run P ext (.k cf (.ops all ({ dst := d, op := o, type := t, pos := p, after := a, guard := none } :: l) :: K) env loc) = afterOp (run P ext) cf all d l K env loc (opA P (run P ext) (lk loc) loc.length (ev env) o) := by
  rw [run_eq]; simp only [stepA, h, wantedA, if_true]
theorem r_opg (d : Option Nat) (o : Op) (t : Nat) (p : String) (a : Array Edge) (g : Nat × Bool) (h : dstOk cf.nt d = true) :
    run P ext (.k cf (.ops all ({ dst := d, op := o, type := t, pos := p, after := a, guard := some g } :: l) :: K) env loc) = opK P (run P ext) cf all d o l K env loc (wantedA all env (some g)) := by
  rw [run_eq]; simp only [stepA, h, if_true]; rfl
theorem opK_true (rec : Rec) (d : Option Nat) (o : Op) : opK P rec cf all d o l K env loc (some true) = afterOp rec cf all d l K env loc (opA P rec (lk loc) loc.length (ev env) o) := rfl
theorem opK_false (rec : Rec) (d : Option Nat) (o : Op) : opK P rec cf all d o l K env loc (some false) = rec (.k cf (.ops all l :: K) (putO env d (.tup [])) loc) := rfl
theorem afterOp_val (rec : Rec) (d : Option Nat) (v : V) (u : List (Nat × O)) (rd : List Nat) : afterOp rec cf all d l K env loc (some ⟨.val v, u, rd⟩) = rec (.k cf (.ops all l :: K) (putO env d v) (updO loc u)) := rfl
theorem afterOp_pan (rec : Rec) (d : Option Nat) (x : Value) (u : List (Nat × O)) (rd : List Nat) : afterOp rec cf all d l K env loc (some ⟨.pan x, u, rd⟩) = panicOut cf x (updO loc u) := rfl
theorem afterDraw_some (rec : Rec) (e : Env) (lo : List O) (fps : List (List Nat × List Nat)) (h : drawOk all fps = true) : afterDraw rec cf all K (some (e, lo, fps)) = rec (.k cf K e lo) := by simp only [afterDraw, h, if_true]

/-! ### calls whose arguments are data -/
def dataC : C → Bool
  | .d _ => true
  | .elt _ _ _ _ => true
  | .fn _ [] [] => true
  | _ => false
def dataV : V → Bool
  | .c x => dataC x
  | .agg cs => cs.all dataC
  | .tup _ => false
theorem argC_data {look : Look} {c : C} (h : dataC c = true) : argC look c = some (c, []) ∧ refsC c = [] ∧ ∀ r, renC r c = some c := by
  unfold dataC at h
  split at h
  · exact ⟨rfl, rfl, fun _ => rfl⟩
  · exact ⟨rfl, rfl, fun _ => rfl⟩
  · exact ⟨rfl, rfl, fun _ => rfl⟩
  · cases h
theorem argCs_data {look : Look} : ∀ {cs : List C}, cs.all dataC = true → argCs look cs = some (cs, []) ∧ cs.flatMap refsC = [] ∧ ∀ r, mapO (renC r) cs = some cs
  | [], _ => ⟨rfl, rfl, fun _ => rfl⟩
  | c :: cs, h => by
    simp only [List.all_cons, Bool.and_eq_true] at h
    obtain ⟨h1, h2, h3⟩ := argC_data (look := look) h.1
    obtain ⟨h4, h5, h6⟩ := argCs_data (look := look) h.2
    exact ⟨by simp only [argCs, h1, h4, List.append_nil], by simp only [List.flatMap_cons, h2, h5, List.append_nil], fun r => by simp only [mapO, h3, h6]⟩
theorem argV_data {look : Look} {v : V} (h : dataV v = true) : argV look v = some (v, []) ∧ refsV v = [] ∧ ∀ r, renV r v = some v := by
  cases v with
  | c x => obtain ⟨h1, h2, h3⟩ := argC_data (look := look) h; exact ⟨by simp only [argV, h1], h2, fun r => by simp only [renV, h3]⟩
  | agg cs => obtain ⟨h1, h2, h3⟩ := argCs_data (look := look) h; exact ⟨by simp only [argV, h1], h2, fun r => by simp only [renV, h3]⟩
  | tup vs => cases h
theorem argVs_data {look : Look} : ∀ {vs : List V}, vs.all dataV = true → argVs look vs = some (vs, []) ∧ vs.flatMap refsV = [] ∧ ∀ r, mapO (renV r) vs = some vs
  | [], _ => ⟨rfl, rfl, fun _ => rfl⟩
  | c :: cs, h => by
    simp only [List.all_cons, Bool.and_eq_true] at h
    obtain ⟨h1, h2, h3⟩ := argV_data (look := look) h.1
    obtain ⟨h4, h5, h6⟩ := argVs_data (look := look) h.2
    exact ⟨by simp only [argVs, h1, h4, List.append_nil], by simp only [List.flatMap_cons, h2, h5, List.append_nil], fun r => by simp only [mapO, h3, h6]⟩
theorem argVsK_data {keep : Bool} {look : Look} {vs : List V} (h : vs.all dataV = true) : argVsK keep look vs = some (vs, []) := by
  cases keep with
  | true => rfl
  | false => exact (argVs_data h).1
theorem callPrep_data {f : FuncId} {look : Look} {vs : List V} (h : vs.all dataV = true) : callPrep f look vs = some ([], [], vs, []) := by
  obtain ⟨h1, h2, h3⟩ := argVs_data (look := look) h
  simp only [callPrep, argVsK_data h, h2]
  have : Am.reach look 200 [] [] = [] := rfl
  simp only [this, h3, mapO]
  rfl
/-- No slice that is only read and lengthened is made. -/
def stkB (e : Option Eff) : Option Eff :=
  match e with
  | some e => if e.upd.all notStk = true then some e else none
  | none => none
theorem stkB_nil (r : R) (rd : List Nat) : stkB (some ⟨r, [], rd⟩) = some ⟨r, [], rd⟩ := rfl
theorem stkB_of {e : Eff} (h : e.upd.all notStk = true) : stkB (some e) = some e := by unfold stkB; exact if_pos h
theorem notStk_kills (l : List Nat) : (kills l).all notStk = true := List.all_eq_true.2 fun p hp => by obtain ⟨id, _, rfl⟩ := List.mem_map.1 hp; rfl
theorem stkB_kills (r : R) (l rd : List Nat) : stkB (some ⟨r, kills l, rd⟩) = some ⟨r, kills l, rd⟩ := stkB_of (notStk_kills l)
theorem stkB_if (r : R) (b : Bool) (l rd : List Nat) : stkB (some ⟨r, if b = true then [] else kills l, rd⟩) = some ⟨r, if b = true then [] else kills l, rd⟩ := by cases b; exact stkB_kills r l rd; rfl
theorem stkB_arr (r : R) (id k : Nat) (els : List (List D)) (rd : List Nat) : stkB (some ⟨r, [(id, .arr k els)], rd⟩) = some ⟨r, [(id, .arr k els)], rd⟩ := rfl
theorem stkB_ag (r : R) (id k : Nat) (els : List (List D)) (j : Nat) (rd : List Nat) : stkB (some ⟨r, [(id, .arr k els), (j, .gone)], rd⟩) = some ⟨r, [(id, .arr k els), (j, .gone)], rd⟩ := rfl
theorem stkB_gone (r : R) (id : Nat) (rd : List Nat) : stkB (some ⟨r, [(id, .gone)], rd⟩) = some ⟨r, [(id, .gone)], rd⟩ := rfl
theorem stkB_box (r : R) (id : Nat) (cs : List C) (rd : List Nat) : stkB (some ⟨r, [(id, .box cs)], rd⟩) = some ⟨r, [(id, .box cs)], rd⟩ := rfl
theorem stkBack_out {look : Look} {ids bor : List Nat} {slot : Nat} {r : Option Out} (h : ∀ id ∈ ids ++ bor, isStk (look id) = false) : stkBack look slot (callOut ids bor slot r) = stkB (callOut ids bor slot r) := by
  cases r with
  | none => rfl
  | some out =>
    show stkBack look slot (answer ids bor slot out) = stkB (answer ids bor slot out)
    cases he : answer ids bor slot out with
    | none => rfl
    | some e =>
      have hrd := answer_rd he
      have hb : backOK look slot e.rd e.upd = e.upd.all notStk := by
        unfold backOK
        congr 1
        funext p
        unfold backP
        cases hc : e.rd.contains p.1 with
        | false => rfl
        | true =>
          have := h p.1 (by rw [← hrd]; exact List.contains_iff_mem.1 hc)
          rw [this]
          rfl
      unfold stkBack stkB
      dsimp only
      rw [hb]
      cases hu : e.upd.all notStk with
      | false => rfl
      | true =>
        rw [if_pos rfl, if_pos rfl]
        congr 1
        obtain ⟨res, upd, rd⟩ := e
        congr 1
        exact List.filter_eq_self.2 fun p hp => List.all_eq_true.1 hu p hp
theorem binL_d (look : Look) (op : BinOp) (t : TypeId) (c : Bool) (x : D) (y : V) : binL P look op t c (.c (.d x)) y = binB P op t c (.c (.d x)) y := id rfl
theorem binL_agg (look : Look) (op : BinOp) (t : TypeId) (c : Bool) (x : List C) (y : V) : binL P look op t c (.agg x) y = binB P op t c (.agg x) y := id rfl
theorem binL_ptr (look : Look) (op : BinOp) (t : TypeId) (c : Bool) (i o : Nat) (y : V) : binL P look op t c (.c (.ptr i o)) y = binB P op t c (.c (.ptr i o)) y := id rfl
theorem binL_own (look : Look) (op : BinOp) (t : TypeId) (c : Bool) (i : Nat) : binL P look op t c (.c (.own i)) (.c (.d (.v (.slice none 0 0)))) = boK op (isSliceT P t) i (look i) := id rfl
theorem boK_arr (op : BinOp) (i k : Nat) (els : List (List D)) : boK op true i (some (.arr k els)) = (nilEq op false).map fun e => { e with rd := [i] } := id rfl
theorem boK_stk (op : BinOp) (i k : Nat) (els : List (List D)) (c : Option Nat) (r : Bool) : boK op true i (some (.stk k els c r)) = (nilEq op false).map fun e => { e with rd := [i] } := id rfl
theorem callA_data (rec : Rec) {look : Look} {slot : Nat} {f : FuncId} {vs : List V} (h : vs.all dataV = true) : callA rec look slot f vs = stkB (callOut [] [] slot (rec (.call f vs []))) := by
  unfold callA; rw [callPrep_data h]; exact stkBack_out (by intro id h; cases h)
theorem callOut_one {slot : Nat} {v : V} (h : dataV v = true) : callOut [] [] slot (some (.ret [v] [])) = some { res := .val v, upd := [], rd := [] } := by
  obtain ⟨_, _, h3⟩ := argV_data (look := fun _ => none) h
  simp only [callOut, answer, mapO, h3, results1, List.length_nil, Nat.lt_irrefl, if_false]
  by_cases hs : (([v].all scalarV) && ([] : List O).isEmpty) = true
  · rw [if_pos hs]; rfl
  · rw [if_neg hs]; rfl
theorem dataV_d (x : D) : dataV (.c (.d x)) = true := id rfl
theorem dataV_elt (k : Nat) (els : List (List D)) (i off : Nat) : dataV (.c (.elt k els i off)) = true := id rfl
theorem dataV_fn (f : FuncId) : dataV (.c (.fn f [] [])) = true := id rfl
theorem dataV_agg (cs : List C) : dataV (.agg cs) = cs.all dataC := id rfl
theorem dataC_d (x : D) : dataC (.d x) = true := id rfl
theorem dataC_elt (k : Nat) (els : List (List D)) (i off : Nat) : dataC (.elt k els i off) = true := id rfl
theorem dataC_fn (f : FuncId) : dataC (.fn f [] []) = true := id rfl
/-- Behind the head of a loop's round. -/
theorem r_inLoop_some {e : Env} {lo : List O} {c : Code} (h : headL cf c K env loc = some (e, lo)) : run P ext (.k cf (.inLoop c :: K) env loc) = run P ext (.k cf (.code c :: .inLoop c :: K) e lo) := by rw [r_inLoop, h]; rfl
/-- The part of a code at a path: 0 and 1 of a sequence or a condition, 0 of a block or a loop. -/
def sub : Code → List Nat → Code
  | c, [] => c
  | .seq a b, i :: p => if i = 0 then sub a p else sub b p
  | .cond _ a b, i :: p => if i = 0 then sub a p else sub b p
  | .block _ a, _ :: p => sub a p
  | .loop a, _ :: p => sub a p
  | c, _ :: _ => c
/-! ### ends -/
end
end Go.Proofs.YteenjodhmppgjaaGreatDoor.Am
end
section
/- The abstract machine: pieces of a function that defers. -/
namespace Go.Proofs.YteenjodhmppgjaaGreatDoor.Am
open Go
section
variable {P : Program}
theorem recOK_run (hN : Named P) {ext : Ext} (hext : ∀ f g args objs out, ext f = some g → g args objs = some out → (Bodied P f ∧ CallOK P f args objs out) ∨ NatOK P f args objs out) (hMix : P.follows .mixedOrders = true) : RecOK P (run P ext) := by
  intro f args objs out h
  obtain ⟨n, hn⟩ := (run_iff P ext _ _).1 h
  exact runs_sound hN hext hMix n _ _ hn
/-- What is known behind a piece: the slots, the objects, what has become of the world. -/
def Behind (P : Program) (w : World) (F : Nat → Prop) (β : Int → Nat) (loc : List O) (a : Act) (env' : Env) (loc' : List O) (a' : Act) (w' : World) (β' : Int → Nat) : Prop :=
  Sim w' F β' (lk loc') ∧ EnvR w' F β' (lk loc') a'.tmps env' ∧ St (fun _ => True) w β (lk loc) w' β' (lk loc') ∧ a'.tmps.size = a.tmps.size ∧ a'.defers = a.defers
end
end Go.Proofs.YteenjodhmppgjaaGreatDoor.Am
end
section
/- The facts of the program's types, as rules for simp. Printed by a program (gen/facts.py). -/
namespace Go.Proofs.YteenjodhmppgjaaGreatDoor.Am
open Go
theorem named : Named Tryz.prog := by unfold Named; kernel_rfl
theorem mixes : Tryz.prog.follows .mixedOrders = true := by kernel_rfl
theorem aggT_3 : aggT Tryz.prog 3 = some false := by kernel_rfl
theorem sizeT_3 : sizeT Tryz.prog 3 = some 1 := by kernel_rfl
theorem bytesT_3 : bytesT Tryz.prog 3 = some 8 := by kernel_rfl
theorem und_3 : Tryz.prog.underlying 3 = some (.int .i64) := by kernel_rfl
theorem zero1_3 : zero1 Tryz.prog 3 = some (.int .i64 0) := by kernel_rfl
theorem zeroT_3 : zeroT Tryz.prog 3 = some [.d (.v (.int .i64 0))] := by kernel_rfl
theorem aggT_4 : aggT Tryz.prog 4 = some false := by kernel_rfl
theorem sizeT_4 : sizeT Tryz.prog 4 = some 1 := by kernel_rfl
theorem bytesT_4 : bytesT Tryz.prog 4 = some 1 := by kernel_rfl
theorem und_4 : Tryz.prog.underlying 4 = some .bool := by kernel_rfl
theorem zero1_4 : zero1 Tryz.prog 4 = some (.bool false) := by kernel_rfl
theorem zeroT_4 : zeroT Tryz.prog 4 = some [.d (.v (.bool false))] := by kernel_rfl
theorem aggT_5 : aggT Tryz.prog 5 = some false := by kernel_rfl
theorem sizeT_5 : sizeT Tryz.prog 5 = some 1 := by kernel_rfl
theorem bytesT_5 : bytesT Tryz.prog 5 = some 1 := by kernel_rfl
theorem und_5 : Tryz.prog.underlying 5 = some (.int .u8) := by kernel_rfl
theorem zero1_5 : zero1 Tryz.prog 5 = some (.int .u8 0) := by kernel_rfl
theorem zeroT_5 : zeroT Tryz.prog 5 = some [.d (.v (.int .u8 0))] := by kernel_rfl
theorem aggT_9 : aggT Tryz.prog 9 = some false := by kernel_rfl
theorem sizeT_9 : sizeT Tryz.prog 9 = some 1 := by kernel_rfl
theorem bytesT_9 : bytesT Tryz.prog 9 = some 16 := by kernel_rfl
theorem und_9 : Tryz.prog.underlying 9 = some .string := by kernel_rfl
theorem zero1_9 : zero1 Tryz.prog 9 = some (.string ⟨#[]⟩) := by kernel_rfl
theorem zeroT_9 : zeroT Tryz.prog 9 = some [.d (.v (.string ⟨#[]⟩))] := by kernel_rfl
theorem aggT_22 : aggT Tryz.prog 22 = some false := by kernel_rfl
theorem sizeT_22 : sizeT Tryz.prog 22 = some 1 := by kernel_rfl
theorem bytesT_22 : bytesT Tryz.prog 22 = some 24 := by kernel_rfl
theorem und_22 : Tryz.prog.underlying 22 = some (.slice 39) := by kernel_rfl
theorem elemT_22 : elemT Tryz.prog 22 = some 39 := by kernel_rfl
theorem isSliceT_22 : isSliceT Tryz.prog 22 = true := by kernel_rfl
theorem zero1_22 : zero1 Tryz.prog 22 = some (.slice none 0 0) := by kernel_rfl
theorem zeroT_22 : zeroT Tryz.prog 22 = some [.d (.v (.slice none 0 0))] := by kernel_rfl
theorem aggT_24 : aggT Tryz.prog 24 = some true := by kernel_rfl
theorem sizeT_24 : sizeT Tryz.prog 24 = some 1 := by kernel_rfl
theorem bytesT_24 : bytesT Tryz.prog 24 = some 24 := by kernel_rfl
theorem fieldT_24_0 : fieldT Tryz.prog 24 0 = some (0, 22) := by kernel_rfl
theorem placesT_24 : placesT Tryz.prog 24 = some [(0, 1)] := by kernel_rfl
theorem zeroT_24 : zeroT Tryz.prog 24 = some [.d (.v (.slice none 0 0))] := by kernel_rfl
theorem aggT_27 : aggT Tryz.prog 27 = some false := by kernel_rfl
theorem sizeT_27 : sizeT Tryz.prog 27 = some 1 := by kernel_rfl
theorem bytesT_27 : bytesT Tryz.prog 27 = some 8 := by kernel_rfl
theorem und_27 : Tryz.prog.underlying 27 = some (.int .i64) := by kernel_rfl
theorem zero1_27 : zero1 Tryz.prog 27 = some (.int .i64 0) := by kernel_rfl
theorem zeroT_27 : zeroT Tryz.prog 27 = some [.d (.v (.int .i64 0))] := by kernel_rfl
theorem aggT_30 : aggT Tryz.prog 30 = some false := by kernel_rfl
theorem sizeT_30 : sizeT Tryz.prog 30 = some 1 := by kernel_rfl
theorem bytesT_30 : bytesT Tryz.prog 30 = some 24 := by kernel_rfl
theorem und_30 : Tryz.prog.underlying 30 = some (.slice 36) := by kernel_rfl
theorem elemT_30 : elemT Tryz.prog 30 = some 36 := by kernel_rfl
theorem isSliceT_30 : isSliceT Tryz.prog 30 = true := by kernel_rfl
theorem zero1_30 : zero1 Tryz.prog 30 = some (.slice none 0 0) := by kernel_rfl
theorem zeroT_30 : zeroT Tryz.prog 30 = some [.d (.v (.slice none 0 0))] := by kernel_rfl
theorem aggT_31 : aggT Tryz.prog 31 = some false := by kernel_rfl
theorem sizeT_31 : sizeT Tryz.prog 31 = some 1 := by kernel_rfl
theorem bytesT_31 : bytesT Tryz.prog 31 = some 24 := by kernel_rfl
theorem und_31 : Tryz.prog.underlying 31 = some (.slice 33) := by kernel_rfl
theorem elemT_31 : elemT Tryz.prog 31 = some 33 := by kernel_rfl
theorem isSliceT_31 : isSliceT Tryz.prog 31 = true := by kernel_rfl
theorem zero1_31 : zero1 Tryz.prog 31 = some (.slice none 0 0) := by kernel_rfl
theorem zeroT_31 : zeroT Tryz.prog 31 = some [.d (.v (.slice none 0 0))] := by kernel_rfl
theorem aggT_33 : aggT Tryz.prog 33 = some true := by kernel_rfl
theorem sizeT_33 : sizeT Tryz.prog 33 = some 5 := by kernel_rfl
theorem bytesT_33 : bytesT Tryz.prog 33 = some 80 := by kernel_rfl
theorem fieldT_33_0 : fieldT Tryz.prog 33 0 = some (0, 3) := by kernel_rfl
theorem fieldT_33_1 : fieldT Tryz.prog 33 1 = some (1, 3) := by kernel_rfl
theorem fieldT_33_2 : fieldT Tryz.prog 33 2 = some (2, 9) := by kernel_rfl
theorem fieldT_33_3 : fieldT Tryz.prog 33 3 = some (3, 30) := by kernel_rfl
theorem fieldT_33_4 : fieldT Tryz.prog 33 4 = some (4, 31) := by kernel_rfl
theorem placesT_33 : placesT Tryz.prog 33 = some [(0, 1), (1, 1), (2, 1), (3, 1), (4, 1)] := by kernel_rfl
theorem zeroT_33 : zeroT Tryz.prog 33 = some [.d (.v (.int .i64 0)), .d (.v (.int .i64 0)), .d (.v (.string ⟨#[]⟩)), .d (.v (.slice none 0 0)), .d (.v (.slice none 0 0))] := by kernel_rfl
theorem aggT_34 : aggT Tryz.prog 34 = some false := by kernel_rfl
theorem sizeT_34 : sizeT Tryz.prog 34 = some 1 := by kernel_rfl
theorem bytesT_34 : bytesT Tryz.prog 34 = some 24 := by kernel_rfl
theorem und_34 : Tryz.prog.underlying 34 = some (.slice 110) := by kernel_rfl
theorem elemT_34 : elemT Tryz.prog 34 = some 110 := by kernel_rfl
theorem isSliceT_34 : isSliceT Tryz.prog 34 = true := by kernel_rfl
theorem zero1_34 : zero1 Tryz.prog 34 = some (.slice none 0 0) := by kernel_rfl
theorem zeroT_34 : zeroT Tryz.prog 34 = some [.d (.v (.slice none 0 0))] := by kernel_rfl
theorem aggT_36 : aggT Tryz.prog 36 = some true := by kernel_rfl
theorem sizeT_36 : sizeT Tryz.prog 36 = some 2 := by kernel_rfl
theorem bytesT_36 : bytesT Tryz.prog 36 = some 32 := by kernel_rfl
theorem fieldT_36_0 : fieldT Tryz.prog 36 0 = some (0, 3) := by kernel_rfl
theorem fieldT_36_1 : fieldT Tryz.prog 36 1 = some (1, 34) := by kernel_rfl
theorem placesT_36 : placesT Tryz.prog 36 = some [(0, 1), (1, 1)] := by kernel_rfl
theorem zeroT_36 : zeroT Tryz.prog 36 = some [.d (.v (.int .i64 0)), .d (.v (.slice none 0 0))] := by kernel_rfl
theorem aggT_37 : aggT Tryz.prog 37 = some false := by kernel_rfl
theorem sizeT_37 : sizeT Tryz.prog 37 = some 1 := by kernel_rfl
theorem bytesT_37 : bytesT Tryz.prog 37 = some 24 := by kernel_rfl
theorem und_37 : Tryz.prog.underlying 37 = some (.slice 98) := by kernel_rfl
theorem elemT_37 : elemT Tryz.prog 37 = some 98 := by kernel_rfl
theorem isSliceT_37 : isSliceT Tryz.prog 37 = true := by kernel_rfl
theorem zero1_37 : zero1 Tryz.prog 37 = some (.slice none 0 0) := by kernel_rfl
theorem zeroT_37 : zeroT Tryz.prog 37 = some [.d (.v (.slice none 0 0))] := by kernel_rfl
theorem aggT_39 : aggT Tryz.prog 39 = some true := by kernel_rfl
theorem sizeT_39 : sizeT Tryz.prog 39 = some 23 := by kernel_rfl
theorem bytesT_39 : bytesT Tryz.prog 39 = some 360 := by kernel_rfl
theorem fieldT_39_0 : fieldT Tryz.prog 39 0 = some (0, 9) := by kernel_rfl
theorem fieldT_39_1 : fieldT Tryz.prog 39 1 = some (1, 3) := by kernel_rfl
theorem fieldT_39_2 : fieldT Tryz.prog 39 2 = some (2, 3) := by kernel_rfl
theorem fieldT_39_3 : fieldT Tryz.prog 39 3 = some (3, 33) := by kernel_rfl
theorem fieldT_39_4 : fieldT Tryz.prog 39 4 = some (8, 33) := by kernel_rfl
theorem fieldT_39_5 : fieldT Tryz.prog 39 5 = some (13, 33) := by kernel_rfl
theorem fieldT_39_6 : fieldT Tryz.prog 39 6 = some (18, 36) := by kernel_rfl
theorem fieldT_39_7 : fieldT Tryz.prog 39 7 = some (20, 36) := by kernel_rfl
theorem fieldT_39_8 : fieldT Tryz.prog 39 8 = some (22, 37) := by kernel_rfl
theorem placesT_39 : placesT Tryz.prog 39 = some [(0, 1), (1, 1), (2, 1), (3, 5), (8, 5), (13, 5), (18, 2), (20, 2), (22, 1)] := by kernel_rfl
theorem zeroT_39 : zeroT Tryz.prog 39 = some [.d (.v (.string ⟨#[]⟩)), .d (.v (.int .i64 0)), .d (.v (.int .i64 0)), .d (.v (.int .i64 0)), .d (.v (.int .i64 0)), .d (.v (.string ⟨#[]⟩)), .d (.v (.slice none 0 0)), .d (.v (.slice none 0 0)), .d (.v (.int .i64 0)), .d (.v (.int .i64 0)), .d (.v (.string ⟨#[]⟩)), .d (.v (.slice none 0 0)), .d (.v (.slice none 0 0)), .d (.v (.int .i64 0)), .d (.v (.int .i64 0)), .d (.v (.string ⟨#[]⟩)), .d (.v (.slice none 0 0)), .d (.v (.slice none 0 0)), .d (.v (.int .i64 0)), .d (.v (.slice none 0 0)), .d (.v (.int .i64 0)), .d (.v (.slice none 0 0)), .d (.v (.slice none 0 0))] := by kernel_rfl
theorem aggT_43 : aggT Tryz.prog 43 = some false := by kernel_rfl
theorem sizeT_43 : sizeT Tryz.prog 43 = some 1 := by kernel_rfl
theorem bytesT_43 : bytesT Tryz.prog 43 = some 24 := by kernel_rfl
theorem und_43 : Tryz.prog.underlying 43 = some (.slice 3) := by kernel_rfl
theorem elemT_43 : elemT Tryz.prog 43 = some 3 := by kernel_rfl
theorem isSliceT_43 : isSliceT Tryz.prog 43 = true := by kernel_rfl
theorem zero1_43 : zero1 Tryz.prog 43 = some (.slice none 0 0) := by kernel_rfl
theorem zeroT_43 : zeroT Tryz.prog 43 = some [.d (.v (.slice none 0 0))] := by kernel_rfl
theorem aggT_45 : aggT Tryz.prog 45 = some true := by kernel_rfl
theorem sizeT_45 : sizeT Tryz.prog 45 = some 2 := by kernel_rfl
theorem bytesT_45 : bytesT Tryz.prog 45 = some 32 := by kernel_rfl
theorem fieldT_45_0 : fieldT Tryz.prog 45 0 = some (0, 27) := by kernel_rfl
theorem fieldT_45_1 : fieldT Tryz.prog 45 1 = some (1, 43) := by kernel_rfl
theorem placesT_45 : placesT Tryz.prog 45 = some [(0, 1), (1, 1)] := by kernel_rfl
theorem zeroT_45 : zeroT Tryz.prog 45 = some [.d (.v (.int .i64 0)), .d (.v (.slice none 0 0))] := by kernel_rfl
theorem aggT_85 : aggT Tryz.prog 85 = some false := by kernel_rfl
theorem sizeT_85 : sizeT Tryz.prog 85 = some 1 := by kernel_rfl
theorem bytesT_85 : bytesT Tryz.prog 85 = some 16 := by kernel_rfl
theorem isIfaceT_85 : isIfaceT Tryz.prog 85 = true := by kernel_rfl
theorem zero1_85 : zero1 Tryz.prog 85 = some (.nilIface) := by kernel_rfl
theorem zeroT_85 : zeroT Tryz.prog 85 = some [.d (.v (.nilIface))] := by kernel_rfl
theorem aggT_98 : aggT Tryz.prog 98 = some true := by kernel_rfl
theorem sizeT_98 : sizeT Tryz.prog 98 = some 6 := by kernel_rfl
theorem bytesT_98 : bytesT Tryz.prog 98 = some 96 := by kernel_rfl
theorem fieldT_98_0 : fieldT Tryz.prog 98 0 = some (0, 9) := by kernel_rfl
theorem fieldT_98_1 : fieldT Tryz.prog 98 1 = some (1, 33) := by kernel_rfl
theorem placesT_98 : placesT Tryz.prog 98 = some [(0, 1), (1, 5)] := by kernel_rfl
theorem zeroT_98 : zeroT Tryz.prog 98 = some [.d (.v (.string ⟨#[]⟩)), .d (.v (.int .i64 0)), .d (.v (.int .i64 0)), .d (.v (.string ⟨#[]⟩)), .d (.v (.slice none 0 0)), .d (.v (.slice none 0 0))] := by kernel_rfl
theorem aggT_110 : aggT Tryz.prog 110 = some true := by kernel_rfl
theorem sizeT_110 : sizeT Tryz.prog 110 = some 2 := by kernel_rfl
theorem bytesT_110 : bytesT Tryz.prog 110 = some 16 := by kernel_rfl
theorem fieldT_110_0 : fieldT Tryz.prog 110 0 = some (0, 3) := by kernel_rfl
theorem fieldT_110_1 : fieldT Tryz.prog 110 1 = some (1, 3) := by kernel_rfl
theorem placesT_110 : placesT Tryz.prog 110 = some [(0, 1), (1, 1)] := by kernel_rfl
theorem zeroT_110 : zeroT Tryz.prog 110 = some [.d (.v (.int .i64 0)), .d (.v (.int .i64 0))] := by kernel_rfl
theorem aggT_128 : aggT Tryz.prog 128 = some true := by kernel_rfl
theorem sizeT_128 : sizeT Tryz.prog 128 = some 2 := by kernel_rfl
theorem bytesT_128 : bytesT Tryz.prog 128 = some 32 := by kernel_rfl
theorem fieldT_128_0 : fieldT Tryz.prog 128 0 = some (0, 27) := by kernel_rfl
theorem fieldT_128_1 : fieldT Tryz.prog 128 1 = some (1, 43) := by kernel_rfl
theorem placesT_128 : placesT Tryz.prog 128 = some [(0, 1), (1, 1)] := by kernel_rfl
theorem zeroT_128 : zeroT Tryz.prog 128 = some [.d (.v (.int .i64 0)), .d (.v (.slice none 0 0))] := by kernel_rfl
theorem aggT_133 : aggT Tryz.prog 133 = some false := by kernel_rfl
theorem sizeT_133 : sizeT Tryz.prog 133 = some 1 := by kernel_rfl
theorem bytesT_133 : bytesT Tryz.prog 133 = some 8 := by kernel_rfl
theorem isPtrT_133 : isPtrT Tryz.prog 133 = true := by kernel_rfl
theorem zero1_133 : zero1 Tryz.prog 133 = some (.pointer none) := by kernel_rfl
theorem und_133 : Tryz.prog.underlying 133 = some (.pointer 39) := by kernel_rfl
theorem zeroT_133 : zeroT Tryz.prog 133 = some [.d (.v (.pointer none))] := by kernel_rfl
theorem aggT_144 : aggT Tryz.prog 144 = some false := by kernel_rfl
theorem sizeT_144 : sizeT Tryz.prog 144 = some 1 := by kernel_rfl
theorem bytesT_144 : bytesT Tryz.prog 144 = some 24 := by kernel_rfl
theorem und_144 : Tryz.prog.underlying 144 = some (.slice 110) := by kernel_rfl
theorem elemT_144 : elemT Tryz.prog 144 = some 110 := by kernel_rfl
theorem isSliceT_144 : isSliceT Tryz.prog 144 = true := by kernel_rfl
theorem zero1_144 : zero1 Tryz.prog 144 = some (.slice none 0 0) := by kernel_rfl
theorem zeroT_144 : zeroT Tryz.prog 144 = some [.d (.v (.slice none 0 0))] := by kernel_rfl
theorem aggT_186 : aggT Tryz.prog 186 = some true := by kernel_rfl
theorem sizeT_186 : sizeT Tryz.prog 186 = some 3 := by kernel_rfl
theorem bytesT_186 : bytesT Tryz.prog 186 = some 32 := by kernel_rfl
theorem fieldT_186_0 : fieldT Tryz.prog 186 0 = some (0, 9) := by kernel_rfl
theorem fieldT_186_1 : fieldT Tryz.prog 186 1 = some (1, 3) := by kernel_rfl
theorem fieldT_186_2 : fieldT Tryz.prog 186 2 = some (2, 3) := by kernel_rfl
theorem placesT_186 : placesT Tryz.prog 186 = some [(0, 1), (1, 1), (2, 1)] := by kernel_rfl
theorem zeroT_186 : zeroT Tryz.prog 186 = some [.d (.v (.string ⟨#[]⟩)), .d (.v (.int .i64 0)), .d (.v (.int .i64 0))] := by kernel_rfl
theorem aggT_225 : aggT Tryz.prog 225 = some true := by kernel_rfl
theorem sizeT_225 : sizeT Tryz.prog 225 = some 93 := by kernel_rfl
theorem bytesT_225 : bytesT Tryz.prog 225 = some 992 := by kernel_rfl
theorem und_225 : Tryz.prog.underlying 225 = some (.array 31 186) := by kernel_rfl
theorem zeroT_225 : zeroT Tryz.prog 225 = some [.d (.v (.string ⟨#[]⟩)), .d (.v (.int .i64 0)), .d (.v (.int .i64 0)), .d (.v (.string ⟨#[]⟩)), .d (.v (.int .i64 0)), .d (.v (.int .i64 0)), .d (.v (.string ⟨#[]⟩)), .d (.v (.int .i64 0)), .d (.v (.int .i64 0)), .d (.v (.string ⟨#[]⟩)), .d (.v (.int .i64 0)), .d (.v (.int .i64 0)), .d (.v (.string ⟨#[]⟩)), .d (.v (.int .i64 0)), .d (.v (.int .i64 0)), .d (.v (.string ⟨#[]⟩)), .d (.v (.int .i64 0)), .d (.v (.int .i64 0)), .d (.v (.string ⟨#[]⟩)), .d (.v (.int .i64 0)), .d (.v (.int .i64 0)), .d (.v (.string ⟨#[]⟩)), .d (.v (.int .i64 0)), .d (.v (.int .i64 0)), .d (.v (.string ⟨#[]⟩)), .d (.v (.int .i64 0)), .d (.v (.int .i64 0)), .d (.v (.string ⟨#[]⟩)), .d (.v (.int .i64 0)), .d (.v (.int .i64 0)), .d (.v (.string ⟨#[]⟩)), .d (.v (.int .i64 0)), .d (.v (.int .i64 0)), .d (.v (.string ⟨#[]⟩)), .d (.v (.int .i64 0)), .d (.v (.int .i64 0)), .d (.v (.string ⟨#[]⟩)), .d (.v (.int .i64 0)), .d (.v (.int .i64 0)), .d (.v (.string ⟨#[]⟩)), .d (.v (.int .i64 0)), .d (.v (.int .i64 0)), .d (.v (.string ⟨#[]⟩)), .d (.v (.int .i64 0)), .d (.v (.int .i64 0)), .d (.v (.string ⟨#[]⟩)), .d (.v (.int .i64 0)), .d (.v (.int .i64 0)), .d (.v (.string ⟨#[]⟩)), .d (.v (.int .i64 0)), .d (.v (.int .i64 0)), .d (.v (.string ⟨#[]⟩)), .d (.v (.int .i64 0)), .d (.v (.int .i64 0)), .d (.v (.string ⟨#[]⟩)), .d (.v (.int .i64 0)), .d (.v (.int .i64 0)), .d (.v (.string ⟨#[]⟩)), .d (.v (.int .i64 0)), .d (.v (.int .i64 0)), .d (.v (.string ⟨#[]⟩)), .d (.v (.int .i64 0)), .d (.v (.int .i64 0)), .d (.v (.string ⟨#[]⟩)), .d (.v (.int .i64 0)), .d (.v (.int .i64 0)), .d (.v (.string ⟨#[]⟩)), .d (.v (.int .i64 0)), .d (.v (.int .i64 0)), .d (.v (.string ⟨#[]⟩)), .d (.v (.int .i64 0)), .d (.v (.int .i64 0)), .d (.v (.string ⟨#[]⟩)), .d (.v (.int .i64 0)), .d (.v (.int .i64 0)), .d (.v (.string ⟨#[]⟩)), .d (.v (.int .i64 0)), .d (.v (.int .i64 0)), .d (.v (.string ⟨#[]⟩)), .d (.v (.int .i64 0)), .d (.v (.int .i64 0)), .d (.v (.string ⟨#[]⟩)), .d (.v (.int .i64 0)), .d (.v (.int .i64 0)), .d (.v (.string ⟨#[]⟩)), .d (.v (.int .i64 0)), .d (.v (.int .i64 0)), .d (.v (.string ⟨#[]⟩)), .d (.v (.int .i64 0)), .d (.v (.int .i64 0)), .d (.v (.string ⟨#[]⟩)), .d (.v (.int .i64 0)), .d (.v (.int .i64 0))] := by kernel_rfl
theorem aggT_230 : aggT Tryz.prog 230 = some false := by kernel_rfl
theorem sizeT_230 : sizeT Tryz.prog 230 = some 1 := by kernel_rfl
theorem bytesT_230 : bytesT Tryz.prog 230 = some 8 := by kernel_rfl
theorem und_230 : Tryz.prog.underlying 230 = some (.int .u64) := by kernel_rfl
theorem zero1_230 : zero1 Tryz.prog 230 = some (.int .u64 0) := by kernel_rfl
theorem zeroT_230 : zeroT Tryz.prog 230 = some [.d (.v (.int .u64 0))] := by kernel_rfl
def zT3 := And.intro aggT_3 <| And.intro sizeT_3 <| And.intro bytesT_3 <| And.intro und_3 <| And.intro zero1_3 <| zeroT_3
def zT4 := And.intro aggT_4 <| And.intro sizeT_4 <| And.intro bytesT_4 <| And.intro und_4 <| And.intro zero1_4 <| zeroT_4
def zT5 := And.intro aggT_5 <| And.intro sizeT_5 <| And.intro bytesT_5 <| And.intro und_5 <| And.intro zero1_5 <| zeroT_5
def zT9 := And.intro aggT_9 <| And.intro sizeT_9 <| And.intro bytesT_9 <| And.intro und_9 <| And.intro zero1_9 <| zeroT_9
def zT22 := And.intro aggT_22 <| And.intro sizeT_22 <| And.intro bytesT_22 <| And.intro und_22 <| And.intro elemT_22 <| And.intro isSliceT_22 <| And.intro zero1_22 <| zeroT_22
def zT24 := And.intro aggT_24 <| And.intro sizeT_24 <| And.intro bytesT_24 <| And.intro fieldT_24_0 <| And.intro placesT_24 <| zeroT_24
def zT27 := And.intro aggT_27 <| And.intro sizeT_27 <| And.intro bytesT_27 <| And.intro und_27 <| And.intro zero1_27 <| zeroT_27
def zT30 := And.intro aggT_30 <| And.intro sizeT_30 <| And.intro bytesT_30 <| And.intro und_30 <| And.intro elemT_30 <| And.intro isSliceT_30 <| And.intro zero1_30 <| zeroT_30
def zT31 := And.intro aggT_31 <| And.intro sizeT_31 <| And.intro bytesT_31 <| And.intro und_31 <| And.intro elemT_31 <| And.intro isSliceT_31 <| And.intro zero1_31 <| zeroT_31
def zT33 := And.intro aggT_33 <| And.intro sizeT_33 <| And.intro bytesT_33 <| And.intro fieldT_33_0 <| And.intro fieldT_33_1 <| And.intro fieldT_33_2 <| And.intro fieldT_33_3 <| And.intro fieldT_33_4 <| And.intro placesT_33 <| zeroT_33
def zT34 := And.intro aggT_34 <| And.intro sizeT_34 <| And.intro bytesT_34 <| And.intro und_34 <| And.intro elemT_34 <| And.intro isSliceT_34 <| And.intro zero1_34 <| zeroT_34
def zT36 := And.intro aggT_36 <| And.intro sizeT_36 <| And.intro bytesT_36 <| And.intro fieldT_36_0 <| And.intro fieldT_36_1 <| And.intro placesT_36 <| zeroT_36
def zT37 := And.intro aggT_37 <| And.intro sizeT_37 <| And.intro bytesT_37 <| And.intro und_37 <| And.intro elemT_37 <| And.intro isSliceT_37 <| And.intro zero1_37 <| zeroT_37
def zT39 := And.intro aggT_39 <| And.intro sizeT_39 <| And.intro bytesT_39 <| And.intro fieldT_39_0 <| And.intro fieldT_39_1 <| And.intro fieldT_39_2 <| And.intro fieldT_39_3 <| And.intro fieldT_39_4 <| And.intro fieldT_39_5 <| And.intro fieldT_39_6 <| And.intro fieldT_39_7 <| And.intro fieldT_39_8 <| And.intro placesT_39 <| zeroT_39
def zT43 := And.intro aggT_43 <| And.intro sizeT_43 <| And.intro bytesT_43 <| And.intro und_43 <| And.intro elemT_43 <| And.intro isSliceT_43 <| And.intro zero1_43 <| zeroT_43
def zT45 := And.intro aggT_45 <| And.intro sizeT_45 <| And.intro bytesT_45 <| And.intro fieldT_45_0 <| And.intro fieldT_45_1 <| And.intro placesT_45 <| zeroT_45
def zT85 := And.intro aggT_85 <| And.intro sizeT_85 <| And.intro bytesT_85 <| And.intro isIfaceT_85 <| And.intro zero1_85 <| zeroT_85
def zT98 := And.intro aggT_98 <| And.intro sizeT_98 <| And.intro bytesT_98 <| And.intro fieldT_98_0 <| And.intro fieldT_98_1 <| And.intro placesT_98 <| zeroT_98
def zT110 := And.intro aggT_110 <| And.intro sizeT_110 <| And.intro bytesT_110 <| And.intro fieldT_110_0 <| And.intro fieldT_110_1 <| And.intro placesT_110 <| zeroT_110
def zT128 := And.intro aggT_128 <| And.intro sizeT_128 <| And.intro bytesT_128 <| And.intro fieldT_128_0 <| And.intro fieldT_128_1 <| And.intro placesT_128 <| zeroT_128
def zT133 := And.intro aggT_133 <| And.intro sizeT_133 <| And.intro bytesT_133 <| And.intro isPtrT_133 <| And.intro zero1_133 <| And.intro und_133 <| zeroT_133
def zT144 := And.intro aggT_144 <| And.intro sizeT_144 <| And.intro bytesT_144 <| And.intro und_144 <| And.intro elemT_144 <| And.intro isSliceT_144 <| And.intro zero1_144 <| zeroT_144
def zT186 := And.intro aggT_186 <| And.intro sizeT_186 <| And.intro bytesT_186 <| And.intro fieldT_186_0 <| And.intro fieldT_186_1 <| And.intro fieldT_186_2 <| And.intro placesT_186 <| zeroT_186
def zT225 := And.intro aggT_225 <| And.intro sizeT_225 <| And.intro bytesT_225 <| And.intro und_225 <| zeroT_225
def zT230 := And.intro aggT_230 <| And.intro sizeT_230 <| And.intro bytesT_230 <| And.intro und_230 <| And.intro zero1_230 <| zeroT_230
end Go.Proofs.YteenjodhmppgjaaGreatDoor.Am
end
section
/- Levels, terms, declarations as data; loops over lists. -/
open Go Go.Proofs Go.Proofs.YteenjodhmppgjaaGreatDoor.Am
namespace Go.Proofs.YteenjodhmppgjaaGreatDoor.Am
/-! ### rules for simp -/
def iV (n : Int) : V := .c (.d (.v (.int .i64 n)))
def bV (b : Bool) : V := .c (.d (.v (.bool b)))
def sV (s : ByteArray) : V := .c (.d (.v (.string s)))
def dV (x : D) : V := .c (.d x)
def nilD : D := .v (.slice none 0 0)
def wr (n : Int) : Int := IntKind.i64.wrap n
theorem dstOk_none (n : Nat) : dstOk n none = true := id rfl
theorem dstOk_some (n t : Nat) : dstOk n (some t) = decide (t < n) := id rfl
theorem beq_ft : (false == true) = false := by decide
theorem beq_tf : (true == false) = false := by decide
theorem ib_ne {a b : Int} (h : ¬ a = b) : (a == b) = false := beq_false_of_ne h
theorem ib_bne {a b : Int} (h : ¬ a = b) : (a != b) = true := by simp [bne, ib_ne h]
theorem ib_bne_self (a : Int) : (a != a) = false := by simp [bne]
theorem holes_succ (n : Nat) : holes (n + 1) = .hole :: holes n := rfl
theorem holes_zero : holes 0 = [] := rfl
theorem wrap_wr (n : Int) : IntKind.i64.wrap n = wr n := rfl
theorem wr_id {n : Int} (h1 : -(2 ^ 63) ≤ n) (h2 : n < 2 ^ 63) : wr n = n := by
  unfold wr
  have e : IntKind.i64.wrap n = (n + 9223372036854775808) % 18446744073709551616 - 9223372036854775808 := by
    simp [IntKind.wrap, IntKind.bits, IntKind.signed]
    try (split <;> omega)
  rw [e]; omega
theorem lenA_s (look : Look) (k : Nat) (els : List (List D)) : lenA look (.c (.d (.s k els))) = eff (.c (.d (.v (.int .i64 els.length)))) := id rfl
theorem lenA_nil (look : Look) : lenA look (.c (.d (.v (.slice none 0 0)))) = eff (.c (.d (.v (.int .i64 0)))) := id rfl
def lnK (i : Nat) (o : Option O) : Option Eff :=
  match o with
  | some (.arr _ els) => eff (.c (.d (.v (.int .i64 els.length)))) [i]
  | _ => none
theorem lenA_own (look : Look) (i : Nat) : lenA look (.c (.own i)) = lnK i (look i) := id rfl
theorem lnK_arr (i k : Nat) (els : List (List D)) : lnK i (some (.arr k els)) = eff (.c (.d (.v (.int .i64 els.length)))) [i] := id rfl
section
variable (P : Program) (op : BinOp) (t : TypeId) (c : Bool)
theorem binB_int (k : IntKind) (a : Int) (y : V) : binB P op t c (.c (.d (.v (.int k a)))) y = binA P op t (.c (.d (.v (.int k a)))) y := id rfl
theorem binB_str (s : ByteArray) (y : V) : binB P op t c (.c (.d (.v (.string s)))) y = binA P op t (.c (.d (.v (.string s)))) y := id rfl
theorem binB_bool (b : Bool) (y : V) : binB P op t c (.c (.d (.v (.bool b)))) y = binA P op t (.c (.d (.v (.bool b)))) y := id rfl
theorem binB_agg (cs ds : List C) : binB P op t c (.agg cs) (.agg ds) = structA P op t cs ds := id rfl
theorem binB_i (u : TypeId) (xs : List D) : binB P op t c (.c (.d (.i u xs))) (.c (.d (.v .nilIface))) = if isIfaceT P t = true then nilEq op false else none := id rfl
theorem binB_iface (u : TypeId) (x : Value) : binB P op t c (.c (.d (.v (.iface u x)))) (.c (.d (.v .nilIface))) = if isIfaceT P t = true then nilEq op false else none := id rfl
theorem binB_nil : binB P op t c (.c (.d (.v .nilIface))) (.c (.d (.v .nilIface))) = if isIfaceT P t = true ∧ c = true then nilEq op true else none := id rfl
theorem binB_slice (a : Option Addr) (n m : Nat) : binB P op t c (.c (.d (.v (.slice a n m)))) (.c (.d (.v (.slice none 0 0)))) = if isSliceT P t = true then nilEq op a.isNone else none := id rfl
theorem binB_s (k : Nat) (l : List D) (els : List (List D)) : binB P op t c (.c (.d (.s k (l :: els)))) (.c (.d (.v (.slice none 0 0)))) = if isSliceT P t = true then nilEq op false else none := id rfl
theorem binB_ptr (i o : Nat) : binB P op t c (.c (.ptr i o)) (.c (.d (.v (.pointer none)))) = if isPtrT P t = true then nilEq op false else none := id rfl
end
theorem storeA_ptr (P : Program) (look : Look) (t : TypeId) (id off : Nat) (x : V) : storeA P look t (.c (.ptr id off)) x =
    match cells x with
    | none => none
    | some ys => if sizeT P t = some ys.length then match look id with
      | some (.box cs) => if off + ys.length ≤ cs.length then some { res := .val (.c .any), upd := [(id, .box (over cs off ys))], rd := [id] } else none
      | _ => none
      else none := rfl
def stK (P : Program) (look : Look) (t : TypeId) (o : Option O) (id i off : Nat) (x : V) : Option Eff :=
  match cells x with
  | none => none
  | some ys => if sizeT P t = some ys.length then match o with
    | some (.arr k els) => match els[i]? with
      | some l => match toDs look ys with
        | some (ds, own) =>
          if off + ds.length ≤ l.length ∧ own.contains id = false then
            some { res := .val (.c .any), upd := kills own ++ [(id, .arr k (els.set i (l.take off ++ ds ++ l.drop (off + ds.length))))], rd := own ++ [id] }
          else none
        | none => none
      | none => none
    | _ => none
    else none
theorem storeA_ap (P : Program) (look : Look) (t : TypeId) (id i off : Nat) (x : V) : storeA P look t (.c (.ap id i off)) x = stK P look t (look id) id i off x := rfl
/-! ### slices of elements as data -/
/-- A slice: z: made, and nil where it has no element. -/
def listD (z : Bool) (k : Nat) (els : List (List D)) : D := if z = true ∧ els = [] then .v (.slice none 0 0) else .s k els
theorem listD_ne {z : Bool} {k : Nat} {els : List (List D)} (h : els ≠ []) : listD z k els = .s k els := by unfold listD; rw [if_neg]; exact fun e => h e.2
theorem listD_of_lt {z : Bool} {k : Nat} {els : List (List D)} {b : Int} (h0 : 0 ≤ b) (h : b < els.length) : listD z k els = .s k els := listD_ne (by rintro rfl; simp at h; omega)
theorem listD_false (k : Nat) (els : List (List D)) : listD false k els = .s k els := by simp [listD]
theorem lenA_listD (look : Look) (z : Bool) (k : Nat) (els : List (List D)) : lenA look (.c (.d (listD z k els))) = eff (.c (.d (.v (.int .i64 els.length)))) := by
  unfold listD
  split
  · rename_i h; rw [h.2]; rfl
  · rfl
/-! ### levels, terms, declarations -/
structure LV where
  v : Int
  p : Int
deriving DecidableEq
def lvD (x : LV) : List D := [.v (.int .i64 x.v), .v (.int .i64 x.p)]
def lvC (x : LV) : List C := [.d (.v (.int .i64 x.v)), .d (.v (.int .i64 x.p))]
def lvV (x : LV) : V := .agg (lvC x)
structure Lev where
  c : Int
  vs : List LV
  z : Bool
def Lev.d (x : Lev) : D := listD x.z 2 (x.vs.map lvD)
def levD (x : Lev) : List D := [.v (.int .i64 x.c), x.d]
def levC (x : Lev) : List C := [.d (.v (.int .i64 x.c)), .d x.d]
def levV (x : Lev) : V := .agg (levC x)
inductive Tm where
  | mk (op n : Int) (s : ByteArray) (u : List Lev) (zu : Bool) (l : List Tm) (zl : Bool)
namespace Tm
def op : Tm → Int | .mk a _ _ _ _ _ _ => a
def n : Tm → Int | .mk _ a _ _ _ _ _ => a
def s : Tm → ByteArray | .mk _ _ a _ _ _ _ => a
def u : Tm → List Lev | .mk _ _ _ a _ _ _ => a
def zu : Tm → Bool | .mk _ _ _ _ a _ _ => a
def l : Tm → List Tm | .mk _ _ _ _ _ a _ => a
def zl : Tm → Bool | .mk _ _ _ _ _ _ a => a
end Tm
def tmD : Tm → List D
  | .mk a b s u zu l zl => [.v (.int .i64 a), .v (.int .i64 b), .v (.string s), listD zu 2 (u.map levD), listD zl 5 (tmDs l)]
where tmDs : List Tm → List (List D)
  | [] => []
  | x :: r => tmD x :: tmDs r
theorem tmDs_eq (l : List Tm) : tmD.tmDs l = l.map tmD := by induction l <;> simp_all [tmD.tmDs]
def Tm.uD (x : Tm) : D := listD x.zu 2 (x.u.map levD)
def Tm.lD (x : Tm) : D := listD x.zl 5 (x.l.map tmD)
theorem tmD_eq (x : Tm) : tmD x = [.v (.int .i64 x.op), .v (.int .i64 x.n), .v (.string x.s), x.uD, x.lD] := by
  cases x; simp [tmD, tmDs_eq, Tm.op, Tm.n, Tm.s, Tm.uD, Tm.lD, Tm.u, Tm.zu, Tm.l, Tm.zl]
def tmC (x : Tm) : List C := [.d (.v (.int .i64 x.op)), .d (.v (.int .i64 x.n)), .d (.v (.string x.s)), .d x.uD, .d x.lD]
def tmV (x : Tm) : V := .agg (tmC x)
structure Con where
  name : ByteArray
  arg : Tm
def conD (x : Con) : List D := .v (.string x.name) :: tmD x.arg
structure Dc where
  name : ByteArray
  kind : Int
  levels : Int
  type : Tm
  body : Tm
  param : Tm
  over : Lev
  sort : Lev
  cons : List Con
  z : Bool
def Dc.d (x : Dc) : D := listD x.z 6 (x.cons.map conD)
def dcD (x : Dc) : List D := [.v (.string x.name), .v (.int .i64 x.kind), .v (.int .i64 x.levels)] ++ tmD x.type ++ tmD x.body ++ tmD x.param ++ levD x.over ++ levD x.sort ++ [x.d]
def dcC (x : Dc) : List C := [.d (.v (.string x.name)), .d (.v (.int .i64 x.kind)), .d (.v (.int .i64 x.levels)), .d (.v (.int .i64 x.type.op)), .d (.v (.int .i64 x.type.n)), .d (.v (.string x.type.s)), .d x.type.uD, .d x.type.lD,
  .d (.v (.int .i64 x.body.op)), .d (.v (.int .i64 x.body.n)), .d (.v (.string x.body.s)), .d x.body.uD, .d x.body.lD, .d (.v (.int .i64 x.param.op)), .d (.v (.int .i64 x.param.n)), .d (.v (.string x.param.s)), .d x.param.uD, .d x.param.lD,
  .d (.v (.int .i64 x.over.c)), .d x.over.d, .d (.v (.int .i64 x.sort.c)), .d x.sort.d, .d x.d]
theorem dcD_eq (x : Dc) : dcD x = [.v (.string x.name), .v (.int .i64 x.kind), .v (.int .i64 x.levels), .v (.int .i64 x.type.op), .v (.int .i64 x.type.n), .v (.string x.type.s), x.type.uD, x.type.lD,
  .v (.int .i64 x.body.op), .v (.int .i64 x.body.n), .v (.string x.body.s), x.body.uD, x.body.lD, .v (.int .i64 x.param.op), .v (.int .i64 x.param.n), .v (.string x.param.s), x.param.uD, x.param.lD,
  .v (.int .i64 x.over.c), x.over.d, .v (.int .i64 x.sort.c), x.sort.d, x.d] := by
  simp [dcD, tmD_eq, levD]
def dcV (x : Dc) : V := .agg (dcC x)
/-- A table: its declarations. -/
structure Tb where
  ds : List Dc
  z : Bool
def Tb.d (x : Tb) : D := listD x.z 23 (x.ds.map dcD)
def tbC (x : Tb) : List C := [.d x.d]
def tbV (x : Tb) : V := .agg (tbC x)
/-! ### sizes -/
def Lev.sz (x : Lev) : Nat := 1 + x.vs.length
def Tm.sz : Tm → Nat
  | .mk _ _ _ u _ l _ => 1 + (u.map Lev.sz).sum + szs l
where szs : List Tm → Nat
  | [] => 0
  | x :: r => x.sz + szs r
theorem Tm.szs_eq (l : List Tm) : Tm.sz.szs l = (l.map Tm.sz).sum := by induction l <;> simp_all [Tm.sz.szs]
theorem Tm.sz_eq (x : Tm) : x.sz = 1 + (x.u.map Lev.sz).sum + (x.l.map Tm.sz).sum := by cases x; simp [Tm.sz, Tm.szs_eq, Tm.u, Tm.l]
theorem Tm.sz_pos (x : Tm) : 0 < x.sz := by rw [x.sz_eq]; omega
theorem le_sum {l : List Nat} {n : Nat} (h : n ∈ l) : n ≤ l.sum := by
  induction l with
  | nil => cases h
  | cons a r ih =>
    simp only [List.sum_cons]
    rcases List.mem_cons.1 h with rfl | h
    · omega
    · have := ih h; omega
theorem len_le_sum {α : Type} (f : α → Nat) (h : ∀ x, 0 < f x) : ∀ l : List α, l.length ≤ (l.map f).sum
  | [] => Nat.le_refl _
  | a :: r => by have := len_le_sum f h r; have := h a; simp; omega
theorem Lev.sz_pos (x : Lev) : 0 < x.sz := by unfold Lev.sz; omega
theorem Tm.sz_lt {x y : Tm} (h : y ∈ x.l) : y.sz < x.sz := by
  have := le_sum (List.mem_map.2 ⟨y, h, rfl⟩ : y.sz ∈ x.l.map Tm.sz)
  rw [x.sz_eq]; omega
theorem Tm.len_lt (x : Tm) : x.l.length < x.sz := by
  have := len_le_sum _ Tm.sz_pos x.l
  rw [x.sz_eq]; omega
theorem Tm.ulen_lt (x : Tm) : x.u.length < x.sz := by
  have := len_le_sum _ Lev.sz_pos x.u
  rw [x.sz_eq]; omega
theorem callA_of {rec : Rec} {look : Look} {slot : Nat} {f : FuncId} {args args' : List V} {ids bor : List Nat} {objs' : List O} {out : Out} {e : Eff} (h1 : callPrep f look args = some (ids, bor, args', objs')) (h2 : rec (.call f args' objs') = some out) (h3 : answer ids bor slot out = some e)
    (h0 : (objs'.any isArrO && castF f) = false := by kernel_rfl) (h4 : stkBack look slot (some e) = some e := by kernel_rfl) :
    callA rec look slot f args = some e := by
  have h5 : callRec rec f args' objs' = some out := by unfold callRec; rw [h0]; exact h2
  simp only [callA, callFin, callOut, h1, h5, h3, h4]
/-! ### loops over lists -/
/-- A loop over a list with a state that may end early. -/
def foldE {α σ ρ : Type} (f : σ → α → σ ⊕ ρ) : σ → List α → σ ⊕ ρ
  | s, [] => .inl s
  | s, x :: l => match f s x with
    | .inl s' => foldE f s' l
    | .inr r => .inr r
theorem loop_foldE {α σ ρ : Type} (l : List α) (S : Int → σ → Option Out) (f : σ → α → σ ⊕ ρ) (g : ρ → Option Out) (fin : σ → Option Out) (hl : l.length < 2 ^ 62)
    (hstep : ∀ (k : Nat) (x : α) (s : σ), l[k]? = some x → (k : Int) < l.length → match f s x with | .inl s' => ∀ out, S (wr ((k : Int) + 1)) s' = out → S k s = out | .inr r => S k s = g r)
    (hdone : ∀ s, S l.length s = fin s) (s0 : σ) : S 0 s0 = match foldE f s0 l with | .inl s => fin s | .inr r => g r := by
  have key : ∀ (m k : Nat) (s : σ), k + m = l.length → S k s = match foldE f s (l.drop k) with | .inl s => fin s | .inr r => g r := by
    intro m
    induction m with
    | zero =>
      intro k s hk
      rw [List.drop_eq_nil_of_le (by omega)]
      rw [show k = l.length by omega]
      exact hdone s
    | succ m ih =>
      intro k s hk
      have hlt : k < l.length := by omega
      rw [List.drop_eq_getElem_cons hlt]
      have h := hstep k l[k] s (by simp [hlt]) (by omega)
      simp only [foldE]
      cases hf : f s l[k] with
      | inl s' =>
        rw [hf] at h
        dsimp only at h
        refine h _ ?_
        rw [wr_id (by omega) (by omega)]
        have := ih (k + 1) s' (by omega)
        exact_mod_cast this
      | inr r => rw [hf] at h; exact h
  simpa using key l.length 0 s0 (by omega)
/-- A loop of which it is known only that it comes to an end. -/
theorem loop_ex {α σ : Type} (l : List α) (S : Int → σ → Option Out) (Q : Out → Prop) (hl : l.length < 2 ^ 62)
    (hstep : ∀ (k : Nat) (x : α) (s : σ), l[k]? = some x → (k : Int) < l.length → (∃ s', ∀ out, S (wr ((k : Int) + 1)) s' = out → S k s = out) ∨ (∃ o, S k s = some o ∧ Q o))
    (hdone : ∀ s, ∃ o, S l.length s = some o ∧ Q o) (s0 : σ) : ∃ o, S 0 s0 = some o ∧ Q o := by
  have key : ∀ (m k : Nat) (s : σ), k + m = l.length → ∃ o, S k s = some o ∧ Q o := by
    intro m
    induction m with
    | zero => intro k s hk; rw [show k = l.length by omega]; exact hdone s
    | succ m ih =>
      intro k s hk
      have hlt : k < l.length := by omega
      rcases hstep k l[k] s (by simp [hlt]) (by omega) with ⟨s', h⟩ | h
      · obtain ⟨o, h1, h2⟩ := ih (k + 1) s' (by omega)
        refine ⟨o, h _ ?_, h2⟩
        rw [wr_id (by omega) (by omega)]
        exact_mod_cast h1
      · exact h
  exact key l.length 0 s0 (by omega)
def isB (o : Out) : Prop := ∃ b, o = .ret [bV b] []
def isI (o : Out) : Prop := ∃ n, o = .ret [iV n] []
theorem lt_of_get {α : Type} {l : List α} {k : Nat} {x : α} (h : l[k]? = some x) : k < l.length := by
  rcases Nat.lt_or_ge k l.length with h' | h'
  · exact h'
  · rw [List.getElem?_eq_none h'] at h; cases h
/-- A loop that looks for the first element with a property. -/
theorem loop_find {α : Type} (l : List α) (S : Int → Option Out) (p : α → Bool) (g : Nat → Option Out) (fin : Option Out) (hl : l.length < 2 ^ 62)
    (hstep : ∀ (k : Nat) (x : α), l[k]? = some x → (k : Int) < l.length → (p x = true → S k = g k) ∧ (p x = false → ∀ out, S (wr ((k : Int) + 1)) = out → S k = out))
    (hdone : S l.length = fin) : S 0 = match l.findIdx? p with | some k => g k | none => fin := by
  have key : ∀ (m k : Nat), k + m = l.length → S k = match (l.drop k).findIdx? p with | some i => g (k + i) | none => fin := by
    intro m
    induction m with
    | zero =>
      intro k hk
      rw [List.drop_eq_nil_of_le (by omega), show k = l.length by omega]
      exact hdone
    | succ m ih =>
      intro k hk
      have hlt : k < l.length := by omega
      rw [List.drop_eq_getElem_cons hlt, List.findIdx?_cons]
      obtain ⟨h1, h2⟩ := hstep k l[k] (by simp [hlt]) (by omega)
      cases hp : p l[k] with
      | true => simpa using h1 hp
      | false =>
        refine h2 hp _ ?_
        rw [wr_id (by omega) (by omega)]
        have := ih (k + 1) (by omega)
        rw [show ((k : Int) + 1) = ((k + 1 : Nat) : Int) by omega, this]
        cases (l.drop (k + 1)).findIdx? p with
        | none => rfl
        | some i => simp only [Option.map_some]; congr 1; omega
  simpa using key l.length 0 (by omega)
/-- The first place, from k on, at which an element has a property that may depend on the place. -/
def idxFrom {α : Type} (p : Nat → α → Bool) : Nat → List α → Option Nat
  | _, [] => none
  | k, x :: l => if p k x then some k else idxFrom p (k + 1) l
theorem loop_findK {α : Type} (l : List α) (S : Int → Option Out) (p : Nat → α → Bool) (g : Nat → Option Out) (fin : Option Out) (hl : l.length < 2 ^ 62)
    (hstep : ∀ (k : Nat) (x : α), l[k]? = some x → (k : Int) < l.length → (p k x = true → S k = g k) ∧ (p k x = false → ∀ out, S (wr ((k : Int) + 1)) = out → S k = out))
    (hdone : S l.length = fin) : S 0 = match idxFrom p 0 l with | some k => g k | none => fin := by
  have key : ∀ (m k : Nat), k + m = l.length → S k = match idxFrom p k (l.drop k) with | some i => g i | none => fin := by
    intro m
    induction m with
    | zero =>
      intro k hk
      rw [List.drop_eq_nil_of_le (by omega), show k = l.length by omega]
      exact hdone
    | succ m ih =>
      intro k hk
      have hlt : k < l.length := by omega
      rw [List.drop_eq_getElem_cons hlt, idxFrom]
      obtain ⟨h1, h2⟩ := hstep k l[k] (by simp [hlt]) (by omega)
      cases hp : p k l[k] with
      | true => simpa using h1 hp
      | false =>
        refine h2 hp _ ?_
        rw [wr_id (by omega) (by omega)]
        rw [show ((k : Int) + 1) = ((k + 1 : Nat) : Int) by omega, ih (k + 1) (by omega)]
        simp
  simpa using key l.length 0 (by omega)
theorem find_some {α : Type} {l : List α} {p : α → Bool} : (l.findIdx? p).isSome = l.any p := by
  induction l with
  | nil => rfl
  | cons a l ih =>
    rw [List.findIdx?_cons, List.any_cons, ← ih]
    cases p a <;> simp
/-- The place of the first element with a property, or -1. -/
def idxI {α : Type} (p : α → Bool) (l : List α) : Int := match l.findIdx? p with | some k => k | none => -1
theorem idxI_ge {α : Type} (p : α → Bool) (l : List α) : (decide (idxI p l ≥ 0)) = l.any p := by
  rw [← find_some]
  unfold idxI
  cases l.findIdx? p <;> simp <;> omega
/-- The rules of a step. -/
def zS := And.intro @lenA_listD <| And.intro @lenA_own <| And.intro @lnK_arr <| And.intro @wrap_wr <| And.intro @binB_int <| And.intro @binB_str <| And.intro @binB_bool <| And.intro @binB_agg <| And.intro @binB_i <| And.intro @binB_iface <| And.intro @binB_nil <| And.intro @binB_slice <| And.intro @binB_s <| And.intro @binB_ptr <| And.intro @binL_d <| And.intro @binL_agg <| And.intro @binL_ptr <| And.intro @binL_own <| And.intro @boK_arr <| And.intro @boK_stk <| And.intro @callA_data <| And.intro @callOut_one <| And.intro @stkB_nil <| And.intro @stkB_kills <| And.intro @stkB_if <| And.intro @stkB_arr <| And.intro @stkB_ag <| And.intro @stkB_gone <| And.intro @stkB_box <| And.intro @dataV_d <| And.intro @dataV_elt <| And.intro @dataV_fn <| And.intro @dataV_agg <| And.intro @dataC_d <| And.intro @dataC_elt <| And.intro @dataC_fn <| And.intro @r_seq <| And.intro @r_region <| And.intro @r_draw <| And.intro @drawK_some <| And.intro @afterDraw_some <| And.intro @r_ops_nil <| And.intro @r_block <| And.intro @r_loop <| And.intro @r_inBlock <| And.intro @r_skip <| And.intro @r_ret <| And.intro @r_end <| And.intro @r_op <| And.intro @r_opg <| And.intro @opK_true <| And.intro @opK_false <| And.intro @afterOp_val <| And.intro @afterOp_pan <| And.intro @r_cond <| And.intro @condK_true <| And.intro @condK_false <| And.intro @r_exit <| And.intro @exitK_some <| And.intro @exitA_code <| And.intro @exitA_loop <| And.intro @exitA_ops <| And.intro @exitA_block <| And.intro @dstOk_none <| And.intro @dstOk_some <| And.intro @lenA_s <| And.intro @lenA_nil <| And.intro @storeA_ptr <| And.intro @storeA_ap <| And.intro (@List.all_cons.{0}) <| And.intro (@List.all_nil.{0}) <| And.intro (@List.length_nil.{0}) <| And.intro (@List.length_cons.{0}) <| And.intro (@List.length_append.{0}) <| And.intro @Bool.and_self <| And.intro @Bool.and_true <| And.intro @Bool.true_and <| And.intro @Bool.not_true <| And.intro @Bool.not_false <| And.intro @decide_true <| And.intro @decide_false <| And.intro @Nat.lt_irrefl <| And.intro (@List.nil_append.{0}) <| And.intro (@List.cons_append.{0}) <| And.intro (@List.append_nil.{0}) <| And.intro (@List.map_cons.{0,0}) <| And.intro (@List.map_nil.{0,0}) <| And.intro (@List.getElem?_toArray.{0}) <| And.intro (@List.getElem?_cons_zero.{0}) <| And.intro (@List.getElem?_cons_succ.{0}) <| And.intro (@List.take_succ_cons.{0}) <| And.intro (@List.take_zero.{0}) <| And.intro (@List.drop_succ_cons.{0}) <| And.intro (@List.drop_zero.{0}) <| And.intro @Nat.sub_self <| And.intro (@List.replicate_zero.{0}) <| And.intro (@Option.map_some.{0,0}) <| And.intro (@Option.map_none.{0,0}) <| And.intro (@List.length_map.{0,0}) <| And.intro (@List.getElem?_map.{0,0}) <| And.intro @Nat.zero_add <| And.intro @Nat.add_zero <| And.intro @or_false <| And.intro @or_true <| And.intro @true_or <| And.intro @and_self <| And.intro @and_true <| And.intro @true_and <| And.intro @Bool.false_eq_true <| And.intro (@List.set_cons_zero.{0}) <| And.intro (@List.set_cons_succ.{0}) <| And.intro (@beq_self_eq_true.{0}) <| And.intro @beq_ft <| And.intro @beq_tf <| And.intro @ib_ne <| And.intro @ib_bne <| And.intro @ib_bne_self <| And.intro @not_false_eq_true <| @not_true_eq_false
def zD := And.intro @nilEq.eq_1 <| And.intro @nilEq.eq_2 <| And.intro @nilEq.eq_3 <| And.intro @wantedA.eq_1 <| And.intro @wantedA.eq_2 <| And.intro @opA.eq_1 <| And.intro @opA.eq_2 <| And.intro @opA.eq_3 <| And.intro @opA.eq_4 <| And.intro @opA.eq_5 <| And.intro @opA.eq_6 <| And.intro @opA.eq_7 <| And.intro @opA.eq_8 <| And.intro @opA.eq_9 <| And.intro @opA.eq_10 <| And.intro @opA.eq_11 <| And.intro @opA.eq_12 <| And.intro @opA.eq_13 <| And.intro @opA.eq_14 <| And.intro @opA.eq_15 <| And.intro @opA.eq_16 <| And.intro @opA.eq_17 <| And.intro @opA.eq_18 <| And.intro @opA.eq_19 <| And.intro @opA.eq_20 <| And.intro @opA.eq_21 <| And.intro @opA.eq_22 <| And.intro @opA.eq_23 <| And.intro @opA.eq_24 <| And.intro @opA.eq_25 <| And.intro @opA.eq_26 <| And.intro @opA.eq_27 <| And.intro @opA.eq_28 <| And.intro @opA.eq_29 <| And.intro @opA.eq_30 <| And.intro @opA.eq_31 <| And.intro @eff.eq_1 <| And.intro @boxA.eq_1 <| And.intro @cells.eq_1 <| And.intro @cells.eq_2 <| And.intro @cells.eq_3 <| And.intro @ev.eq_1 <| And.intro @ev.eq_2 <| And.intro @ev.eq_3 <| And.intro @ev.eq_4 <| And.intro @gt.eq_1 <| And.intro @gt.eq_2 <| And.intro @pt.eq_1 <| And.intro @pt.eq_2 <| And.intro @putO.eq_1 <| And.intro @putO.eq_2 <| And.intro @updO.eq_1 <| And.intro @updO.eq_2 <| And.intro @setO.eq_1 <| And.intro @okC.eq_1 <| And.intro @okC.eq_2 <| And.intro @loadA.eq_1 <| And.intro @loadA.eq_2 <| And.intro @loadA.eq_3 <| And.intro @loadA.eq_4 <| And.intro @cutC.eq_1 <| And.intro @fieldAddrA.eq_1 <| And.intro @fieldA.eq_1 <| And.intro @indexAddrA.eq_1 <| And.intro @indexA.eq_1 <| And.intro @builtinA.eq_1 <| And.intro @builtinA.eq_2 <| And.intro @builtinA.eq_3 <| And.intro @builtinA.eq_4 <| And.intro @builtinA.eq_5 <| And.intro @builtinA.eq_6 <| And.intro @builtinA.eq_7 <| And.intro @builtinA.eq_8 <| And.intro @builtinA.eq_9 <| And.intro @callOpA.eq_1 <| And.intro @callV.eq_1 <| And.intro @target.eq_1 <| And.intro @target.eq_2 <| And.intro @ptrV.eq_1 <| And.intro @lenS.eq_1 <| And.intro @lenS.eq_2 <| And.intro @binA.eq_1 <| And.intro @binA.eq_2 <| And.intro @binA.eq_3 <| And.intro @binA.eq_4 <| And.intro @binA.eq_5 <| And.intro @binA.eq_6 <| And.intro @intOp.eq_1 <| And.intro @intOp.eq_2 <| And.intro @intOp.eq_3 <| And.intro @intOp.eq_4 <| And.intro @intOp.eq_5 <| And.intro @intOp.eq_6 <| And.intro @intOp.eq_7 <| And.intro @intOp.eq_8 <| And.intro @intOp.eq_9 <| And.intro @intOp.eq_10 <| And.intro @intOp.eq_11 <| And.intro @intOp.eq_12 <| And.intro @intOp.eq_13 <| And.intro @intOp.eq_14 <| And.intro @strOp.eq_1 <| And.intro @strOp.eq_2 <| And.intro @strOp.eq_3 <| And.intro @strOp.eq_4 <| And.intro @strOp.eq_5 <| And.intro @strOp.eq_6 <| And.intro @strOp.eq_7 <| And.intro @strOp.eq_8 <| And.intro @unA.eq_1 <| And.intro @unA.eq_2 <| And.intro @unA.eq_3 <| And.intro @num.eq_1 <| And.intro @num.eq_2 <| And.intro @lk.eq_1 <| And.intro @over.eq_1 <| And.intro @allocA.eq_1 <| And.intro @pickA.eq_1 <| And.intro @pickA.eq_2 <| And.intro @buildA.eq_1 <| And.intro @fillA.eq_1 <| And.intro @fillA.eq_2 <| And.intro @extractA.eq_1 <| And.intro @extractA.eq_2 <| And.intro @ofComp.eq_1 <| And.intro @ofComp.eq_2 <| And.intro @ofComp.eq_3 <| And.intro @nilCheckA.eq_1 <| And.intro @nilCheckA.eq_2 <| And.intro @nilCheckA.eq_3 <| And.intro @nilCheckA.eq_4 <| And.intro @nilCheckA.eq_5 <| And.intro @ptrs.eq_1 <| And.intro @ptrs.eq_2 <| And.intro @ptrs.eq_3 <| And.intro @ofValue.eq_1 <| And.intro @ofValue.eq_2 <| And.intro @ofValue.eq_3 <| And.intro @cellB.eq_1 <| And.intro @cellB.eq_2 <| @cellB.eq_3
end Go.Proofs.YteenjodhmppgjaaGreatDoor.Am
end
section
/- Whether a table is heavy: the answer exists. -/
namespace Go.Proofs.YteenjodhmppgjaaGreatDoor.Am
open Go
variable (ext : Ext)
set_option maxHeartbeats 8000000
noncomputable def B62 : Code := (Tryz.f62.body.getD .skip)
noncomputable def L62a : Code := sub B62 [1, 1, 0, 1, 0, 0]
noncomputable def K62a : List It := [.inBlock 0, .code (sub B62 [1, 1, 1])]
noncomputable def H62a (ext : Ext) (m : Nat) (env : Env) (loc : List O) : Option Out := run Tryz.prog ext (.k ⟨59, m, [.tmp 4], false⟩ (.code L62a :: .inLoop L62a :: K62a) env loc)
noncomputable def L62b : Code := sub B62 [1, 1, 1, 0, 1, 0, 0]
noncomputable def K62b : List It := [.inBlock 2, .code (sub B62 [1, 1, 1, 1])]
noncomputable def H62b (ext : Ext) (m : Nat) (env : Env) (loc : List O) : Option Out := run Tryz.prog ext (.k ⟨59, m, [.tmp 4], false⟩ (.code L62b :: .inLoop L62b :: K62b) env loc)
noncomputable def B63 : Code := (Tryz.f63.body.getD .skip)
noncomputable def L63a : Code := sub B63 [1, 1, 0, 1, 0, 0]
noncomputable def K63a : List It := [.inBlock 0, .code (sub B63 [1, 1, 1])]
noncomputable def H63a (ext : Ext) (m : Nat) (env : Env) (loc : List O) : Option Out := run Tryz.prog ext (.k ⟨21, m, [.tmp 2], false⟩ (.code L63a :: .inLoop L63a :: K63a) env loc)
noncomputable def B99 : Code := (Tryz.f99.body.getD .skip)
noncomputable def L99a : Code := sub B99 [1, 1, 1, 0, 1, 0, 0]
noncomputable def K99a : List It := [.inBlock 0, .code (sub B99 [1, 1, 1, 1])]
noncomputable def H99a (ext : Ext) (m : Nat) (env : Env) (loc : List O) : Option Out := run Tryz.prog ext (.k ⟨71, m, [.tmp 4], false⟩ (.code L99a :: .inLoop L99a :: K99a) env loc)
noncomputable def B57 : Code := (Tryz.f57.body.getD .skip)
noncomputable def L57a : Code := sub B57 [1, 1, 0, 1, 0, 0]
noncomputable def K57a : List It := [.inBlock 0, .code (sub B57 [1, 1, 1])]
noncomputable def H57a (ext : Ext) (m : Nat) (env : Env) (loc : List O) : Option Out := run Tryz.prog ext (.k ⟨27, m, [.tmp 6], false⟩ (.code L57a :: .inLoop L57a :: K57a) env loc)
theorem lD_lt {x : Tm} {k : Nat} (h : (k : Int) < x.l.length) : x.lD = .s 5 (x.l.map tmD) := by unfold Tm.lD; exact listD_of_lt (b := k) (by omega) (by simpa using h)
theorem uD_lt {x : Tm} {k : Nat} (h : (k : Int) < x.u.length) : x.uD = .s 2 (x.u.map levD) := by unfold Tm.uD; exact listD_of_lt (b := k) (by omega) (by simpa using h)
theorem lenA_lD (look : Look) (x : Tm) : lenA look (.c (.d x.lD)) = eff (.c (.d (.v (.int .i64 x.l.length)))) := by unfold Tm.lD; rw [lenA_listD, List.length_map]
theorem lenA_uD (look : Look) (x : Tm) : lenA look (.c (.d x.uD)) = eff (.c (.d (.v (.int .i64 x.u.length)))) := by unfold Tm.uD; rw [lenA_listD, List.length_map]
theorem lenA_vd (look : Look) (x : Lev) : lenA look (.c (.d x.d)) = eff (.c (.d (.v (.int .i64 x.vs.length)))) := by unfold Lev.d; rw [lenA_listD, List.length_map]
theorem lenA_cd (look : Look) (x : Dc) : lenA look (.c (.d x.d)) = eff (.c (.d (.v (.int .i64 x.cons.length)))) := by unfold Dc.d; rw [lenA_listD, List.length_map]
theorem lenA_td (look : Look) (x : Tb) : lenA look (.c (.d x.d)) = eff (.c (.d (.v (.int .i64 x.ds.length)))) := by unfold Tb.d; rw [lenA_listD, List.length_map]
/-! ### Nodes -/
def E62 (m n k : Int) : Env := [(1, iV m), (2, .c (.ptr 0 0)), (5, iV n), (6, iV k)]
def E62b (m n k : Int) : Env := [(1, iV m), (2, .c (.ptr 0 0)), (5, iV n), (7, iV k)]
def O62 (x : Tm) : List O := [.box (tmC x)]
theorem enter62 (hx : ext 62 = none) (x : Tm) (m : Int) (out : Option Out) (h : H62a ext 0 (E62 m 1 0) (O62 x) = out) : run Tryz.prog ext (.call 62 [tmV x, iV m] []) = out := by
  unfold H62a at h
  (rw [run_eq]; simp only [stepA, hx, Tryz.func62, Tryz.f62, show retF 62 = false from rfl]; simp only [List.length_cons, List.length_nil, Nat.reduceAdd, Nat.reduceLeDiff, Nat.zero_le, ↓reduceIte, List.zipIdx_cons, List.zipIdx_nil, List.map_cons, List.map_nil])
  simp only [tmV, tmC, dV, iV, E62, O62] at h ⊢
  simp only [zS, zD, convertA, makeFuncA, Nat.reduceAdd, Nat.reduceSub, Nat.reduceMul, Nat.reduceLT, Nat.reduceLeDiff, Nat.reduceGT, ↓reduceIte, Nat.reduceEqDiff, Nat.reduceBEq, reduceCtorEq, Int.reduceBEq, Int.reduceBNe, Int.reduceLT, Int.reduceLE, Int.reduceGT, Int.reduceGE, zT33, zT31, zT30, zT3]
  (refine (r_inLoop_some ?_).trans h; kernel_rfl)
theorem step62a (x : Tm) (u : Lev) (m n : Int) (k : Nat) (hk : x.u[k]? = some u) (hl : (k : Int) < x.u.length) (h1 : n ≤ m) : ∃ n', ∀ out, H62a ext 0 (E62 m n' (wr ((k : Int) + 1))) (O62 x) = out → H62a ext 0 (E62 m n k) (O62 x) = out := by
  have h0 : (0 : Int) ≤ k := by omega
  refine ⟨wr (wr (n + 1) + (if m < (u.vs.length : Int) then m else (u.vs.length : Int))), fun out h => ?_⟩
  unfold H62a at h ⊢
  simp only [tmV, tmC, dV, iV, E62, O62, uD_lt hl] at h ⊢
  (rw [show (It.code L62a) = It.code (sub B62 [1, 1, 0, 1, 0, 0]) from rfl]; simp only [B62, K62a, sub, Option.getD_some, Tryz.f62, ↓reduceIte, Nat.one_ne_zero])
  simp only [zS, zD, convertA, makeFuncA, Nat.reduceAdd, Nat.reduceSub, Nat.reduceMul, Nat.reduceLT, Nat.reduceLeDiff, Nat.reduceGT, ↓reduceIte, Nat.reduceEqDiff, Nat.reduceBEq, reduceCtorEq, Int.reduceBEq, Int.reduceBNe, Int.reduceLT, Int.reduceLE, Int.reduceGT, Int.reduceGE, zT33, zT36, zT31, zT34, zT30, zT3, minA, h0, hl, h1, Int.toNat_natCast, hk, levD, lenA_vd]
  (refine (r_inLoop_some ?_).trans h; kernel_rfl)
theorem out62a (x : Tm) (m n k : Int) (hl : ¬ (k < x.u.length ∧ n ≤ m)) (out : Option Out) (h : H62b ext 0 (E62b m n 0) (O62 x) = out) : H62a ext 0 (E62 m n k) (O62 x) = out := by
  unfold H62b at h
  unfold H62a
  simp only [tmV, tmC, dV, iV, E62, E62b, O62] at h ⊢
  (rw [show (It.code L62a) = It.code (sub B62 [1, 1, 0, 1, 0, 0]) from rfl]; simp only [B62, K62a, sub, Option.getD_some, Tryz.f62, ↓reduceIte, Nat.one_ne_zero])
  by_cases h1 : k < x.u.length
  · have h2 : ¬ n ≤ m := fun e => hl ⟨h1, e⟩
    simp only [zS, zD, convertA, makeFuncA, Nat.reduceAdd, Nat.reduceSub, Nat.reduceMul, Nat.reduceLT, Nat.reduceLeDiff, Nat.reduceGT, ↓reduceIte, Nat.reduceEqDiff, Nat.reduceBEq, reduceCtorEq, Int.reduceBEq, Int.reduceBNe, Int.reduceLT, Int.reduceLE, Int.reduceGT, Int.reduceGE, zT33, zT36, zT31, zT30, zT3, lenA_uD, h1, h2]
    (refine (r_inLoop_some ?_).trans h; kernel_rfl)
  · simp only [zS, zD, convertA, makeFuncA, Nat.reduceAdd, Nat.reduceSub, Nat.reduceMul, Nat.reduceLT, Nat.reduceLeDiff, Nat.reduceGT, ↓reduceIte, Nat.reduceEqDiff, Nat.reduceBEq, reduceCtorEq, Int.reduceBEq, Int.reduceBNe, Int.reduceLT, Int.reduceLE, Int.reduceGT, Int.reduceGE, zT33, zT36, zT31, zT30, zT3, lenA_uD, h1]
    (refine (r_inLoop_some ?_).trans h; kernel_rfl)
theorem step62b (x y : Tm) (m n r : Int) (k : Nat) (hk : x.l[k]? = some y) (hl : (k : Int) < x.l.length) (h1 : n ≤ m) (hr : run Tryz.prog ext (.call 62 [tmV y, iV (wr (m - n))] []) = some (.ret [iV r] [])) (out : Option Out) (h : H62b ext 0 (E62b m (wr (n + r)) (wr ((k : Int) + 1))) (O62 x) = out) : H62b ext 0 (E62b m n k) (O62 x) = out := by
  have h0 : (0 : Int) ≤ k := by omega
  unfold H62b at h ⊢
  simp only [tmV, tmC, dV, iV, E62b, O62, lD_lt hl] at h hr ⊢
  (rw [show (It.code L62b) = It.code (sub B62 [1, 1, 1, 0, 1, 0, 0]) from rfl]; simp only [B62, K62b, sub, Option.getD_some, Tryz.f62, ↓reduceIte, Nat.one_ne_zero])
  simp only [zS, zD, convertA, makeFuncA, Nat.reduceAdd, Nat.reduceSub, Nat.reduceMul, Nat.reduceLT, Nat.reduceLeDiff, Nat.reduceGT, ↓reduceIte, Nat.reduceEqDiff, Nat.reduceBEq, reduceCtorEq, Int.reduceBEq, Int.reduceBNe, Int.reduceLT, Int.reduceLE, Int.reduceGT, Int.reduceGE, zT33, zT36, zT31, zT30, zT3, h0, hl, h1, Int.toNat_natCast, hk, tmD_eq y, hr]
  (refine (r_inLoop_some ?_).trans h; kernel_rfl)
theorem out62b (x : Tm) (m n k : Int) (hl : ¬ (k < x.l.length ∧ n ≤ m)) : ∃ o, H62b ext 0 (E62b m n k) (O62 x) = some o ∧ isI o := by
  refine ⟨.ret [iV (if wr (m + 1) < n then wr (m + 1) else n)] [], ?_, _, rfl⟩
  unfold H62b
  simp only [tmV, tmC, dV, iV, E62b, O62]
  (rw [show (It.code L62b) = It.code (sub B62 [1, 1, 1, 0, 1, 0, 0]) from rfl]; simp only [B62, K62b, sub, Option.getD_some, Tryz.f62, ↓reduceIte, Nat.one_ne_zero])
  by_cases h1 : k < x.l.length
  · have h2 : ¬ n ≤ m := fun e => hl ⟨h1, e⟩
    simp only [zS, zD, convertA, makeFuncA, Nat.reduceAdd, Nat.reduceSub, Nat.reduceMul, Nat.reduceLT, Nat.reduceLeDiff, Nat.reduceGT, ↓reduceIte, Nat.reduceEqDiff, Nat.reduceBEq, reduceCtorEq, Int.reduceBEq, Int.reduceBNe, Int.reduceLT, Int.reduceLE, Int.reduceGT, Int.reduceGE, zT33, zT36, zT31, zT30, zT3, minA, lenA_lD, h1, h2]
    (refine Eq.trans ?_ rfl; kernel_rfl)
  · simp only [zS, zD, convertA, makeFuncA, Nat.reduceAdd, Nat.reduceSub, Nat.reduceMul, Nat.reduceLT, Nat.reduceLeDiff, Nat.reduceGT, ↓reduceIte, Nat.reduceEqDiff, Nat.reduceBEq, reduceCtorEq, Int.reduceBEq, Int.reduceBNe, Int.reduceLT, Int.reduceLE, Int.reduceGT, Int.reduceGE, zT33, zT36, zT31, zT30, zT3, minA, lenA_lD, h1]
    (refine Eq.trans ?_ rfl; kernel_rfl)
theorem nodes62 (hx : ext 62 = none) : ∀ (N : Nat) (x : Tm) (m : Int), x.sz ≤ N → N < 2 ^ 60 → ∃ r, run Tryz.prog ext (.call 62 [tmV x, iV m] []) = some (.ret [iV r] [])
  | 0, x, m, h, _ => by have := x.sz_pos; omega
  | N + 1, x, m, h, hN => by
    have hul := x.ulen_lt
    have hll := x.len_lt
    have hb : ∀ n, ∃ o, H62b ext 0 (E62b m n 0) (O62 x) = some o ∧ isI o := fun n =>
      loop_ex x.l (fun k n => H62b ext 0 (E62b m n k) (O62 x)) isI (by omega) (fun k y n hk hl => by
        by_cases h1 : n ≤ m
        · obtain ⟨r, hr⟩ := nodes62 hx N y (wr (m - n)) (by have := Tm.sz_lt (List.mem_of_getElem? hk); omega) (by omega)
          exact .inl ⟨_, fun out ho => step62b ext x y m n r k hk hl h1 hr out ho⟩
        · exact .inr (out62b ext x m n k (fun e => h1 e.2))) (fun n => out62b ext x m n _ (fun e => by omega)) n
    have ha := loop_ex x.u (fun k n => H62a ext 0 (E62 m n k) (O62 x)) isI (by omega) (fun k u n hk hl => by
        by_cases h1 : n ≤ m
        · exact .inl (step62a ext x u m n k hk hl h1)
        · obtain ⟨o, h1', h2⟩ := hb n
          exact .inr ⟨o, out62a ext x m n k (fun e => h1 e.2) _ h1', h2⟩) (fun n => by
        obtain ⟨o, h1', h2⟩ := hb n
        exact ⟨o, out62a ext x m n _ (fun e => by omega) _ h1', h2⟩) 1
    obtain ⟨o, h1, r, rfl⟩ := ha
    exact ⟨r, enter62 ext hx x m _ h1⟩
/-! ### long -/
def E63 (k : Int) : Env := [(1, .c (.ptr 0 0)), (3, iV k)]
theorem long63 (hx : ext 63 = none) : ∀ (N : Nat) (x : Tm), x.sz ≤ N → N < 2 ^ 60 → ∃ b, run Tryz.prog ext (.call 63 [tmV x] []) = some (.ret [bV b] [])
  | 0, x, h, _ => by have := x.sz_pos; omega
  | N + 1, x, h, hN => by
    have hll := x.len_lt
    by_cases h1 : (x.s.size : Int) > 200
    · refine ⟨true, ?_⟩
      (rw [run_eq]; simp only [stepA, hx, Tryz.func63, Tryz.f63, show retF 63 = false from rfl]; simp only [List.length_cons, List.length_nil, Nat.reduceAdd, Nat.reduceLeDiff, Nat.zero_le, ↓reduceIte, List.zipIdx_cons, List.zipIdx_nil, List.map_cons, List.map_nil])
      simp only [tmV, tmC, bV]
      simp only [zS, zD, convertA, makeFuncA, Nat.reduceAdd, Nat.reduceSub, Nat.reduceMul, Nat.reduceLT, Nat.reduceLeDiff, Nat.reduceGT, ↓reduceIte, Nat.reduceEqDiff, Nat.reduceBEq, reduceCtorEq, Int.reduceBEq, Int.reduceBNe, Int.reduceLT, Int.reduceLE, Int.reduceGT, Int.reduceGE, zT33, zT9, zT31, zT3, h1]
      (refine Eq.trans ?_ rfl; kernel_rfl)
    have he : ∀ out, H63a ext 0 (E63 0) (O62 x) = out → run Tryz.prog ext (.call 63 [tmV x] []) = out := by
      intro out h
      unfold H63a at h
      (rw [run_eq]; simp only [stepA, hx, Tryz.func63, Tryz.f63, show retF 63 = false from rfl]; simp only [List.length_cons, List.length_nil, Nat.reduceAdd, Nat.reduceLeDiff, Nat.zero_le, ↓reduceIte, List.zipIdx_cons, List.zipIdx_nil, List.map_cons, List.map_nil])
      simp only [tmV, tmC, iV, E63, O62] at h ⊢
      simp only [zS, zD, convertA, makeFuncA, Nat.reduceAdd, Nat.reduceSub, Nat.reduceMul, Nat.reduceLT, Nat.reduceLeDiff, Nat.reduceGT, ↓reduceIte, Nat.reduceEqDiff, Nat.reduceBEq, reduceCtorEq, Int.reduceBEq, Int.reduceBNe, Int.reduceLT, Int.reduceLE, Int.reduceGT, Int.reduceGE, zT33, zT9, zT31, zT3, h1]
      (refine (r_inLoop_some ?_).trans h; kernel_rfl)
    have ha := loop_ex (σ := Unit) x.l (fun k _ => H63a ext 0 (E63 k) (O62 x)) isB (by omega) (fun k y _ hk hl => by
        have h0 : (0 : Int) ≤ k := by omega
        obtain ⟨b, hr⟩ := long63 hx N y (by have := Tm.sz_lt (List.mem_of_getElem? hk); omega) (by omega)
        cases b with
        | true =>
          refine .inr ⟨.ret [bV true] [], ?_, _, rfl⟩
          unfold H63a
          simp only [tmV, tmC, dV, iV, bV, E63, O62, lD_lt hl] at hr ⊢
          (rw [show (It.code L63a) = It.code (sub B63 [1, 1, 0, 1, 0, 0]) from rfl]; simp only [B63, K63a, sub, Option.getD_some, Tryz.f63, ↓reduceIte, Nat.one_ne_zero])
          simp only [zS, zD, convertA, makeFuncA, Nat.reduceAdd, Nat.reduceSub, Nat.reduceMul, Nat.reduceLT, Nat.reduceLeDiff, Nat.reduceGT, ↓reduceIte, Nat.reduceEqDiff, Nat.reduceBEq, reduceCtorEq, Int.reduceBEq, Int.reduceBNe, Int.reduceLT, Int.reduceLE, Int.reduceGT, Int.reduceGE, zT33, zT31, zT3, h0, hl, Int.toNat_natCast, hk, tmD_eq y, hr]
          (refine Eq.trans ?_ rfl; kernel_rfl)
        | false =>
          refine .inl ⟨(), fun out h => ?_⟩
          unfold H63a at h ⊢
          simp only [tmV, tmC, dV, iV, bV, E63, O62, lD_lt hl] at hr h ⊢
          (rw [show (It.code L63a) = It.code (sub B63 [1, 1, 0, 1, 0, 0]) from rfl]; simp only [B63, K63a, sub, Option.getD_some, Tryz.f63, ↓reduceIte, Nat.one_ne_zero])
          simp only [zS, zD, convertA, makeFuncA, Nat.reduceAdd, Nat.reduceSub, Nat.reduceMul, Nat.reduceLT, Nat.reduceLeDiff, Nat.reduceGT, ↓reduceIte, Nat.reduceEqDiff, Nat.reduceBEq, reduceCtorEq, Int.reduceBEq, Int.reduceBNe, Int.reduceLT, Int.reduceLE, Int.reduceGT, Int.reduceGE, zT33, zT31, zT3, h0, hl, Int.toNat_natCast, hk, tmD_eq y, hr]
          (refine (r_inLoop_some ?_).trans h; kernel_rfl)) (fun _ => by
        refine ⟨.ret [bV false] [], ?_, _, rfl⟩
        unfold H63a
        simp only [tmV, tmC, dV, iV, bV, E63, O62]
        (rw [show (It.code L63a) = It.code (sub B63 [1, 1, 0, 1, 0, 0]) from rfl]; simp only [B63, K63a, sub, Option.getD_some, Tryz.f63, ↓reduceIte, Nat.one_ne_zero])
        simp only [zS, zD, convertA, makeFuncA, Nat.reduceAdd, Nat.reduceSub, Nat.reduceMul, Nat.reduceLT, Nat.reduceLeDiff, Nat.reduceGT, ↓reduceIte, Nat.reduceEqDiff, Nat.reduceBEq, reduceCtorEq, Int.reduceBEq, Int.reduceBNe, Int.reduceLT, Int.reduceLE, Int.reduceGT, Int.reduceGE, zT33, zT31, zT3, lenA_lD, Int.lt_irrefl]
        (refine Eq.trans ?_ rfl; kernel_rfl)) ()
    obtain ⟨o, h1, b, rfl⟩ := ha
    exact ⟨b, he _ h1⟩
theorem heavy17 (hx : ext 17 = none) (h62 : ext 62 = none) (h63 : ext 63 = none) (x : Tm) (m : Int) (hs : x.sz < 2 ^ 50) : ∃ b, run Tryz.prog ext (.call 17 [tmV x, iV m] []) = some (.ret [bV b] []) := by
  obtain ⟨r, h1⟩ := nodes62 ext h62 x.sz x m (Nat.le_refl _) (by omega)
  obtain ⟨b, h2⟩ := long63 ext h63 x.sz x (Nat.le_refl _) (by omega)
  by_cases c : r > m
  · refine ⟨true, ?_⟩
    (rw [run_eq]; simp only [stepA, hx, Tryz.func17, Tryz.f17, show retF 17 = false from rfl]; simp only [List.length_cons, List.length_nil, Nat.reduceAdd, Nat.reduceLeDiff, Nat.zero_le, ↓reduceIte, List.zipIdx_cons, List.zipIdx_nil, List.map_cons, List.map_nil])
    simp only [tmV, tmC, iV, bV] at h1 h2 ⊢
    simp only [zS, zD, convertA, makeFuncA, Nat.reduceAdd, Nat.reduceSub, Nat.reduceMul, Nat.reduceLT, Nat.reduceLeDiff, Nat.reduceGT, ↓reduceIte, Nat.reduceEqDiff, Nat.reduceBEq, reduceCtorEq, Int.reduceBEq, Int.reduceBNe, Int.reduceLT, Int.reduceLE, Int.reduceGT, Int.reduceGE, zT33, zT3, h1, c]
    (refine Eq.trans ?_ rfl; kernel_rfl)
  · refine ⟨b, ?_⟩
    (rw [run_eq]; simp only [stepA, hx, Tryz.func17, Tryz.f17, show retF 17 = false from rfl]; simp only [List.length_cons, List.length_nil, Nat.reduceAdd, Nat.reduceLeDiff, Nat.zero_le, ↓reduceIte, List.zipIdx_cons, List.zipIdx_nil, List.map_cons, List.map_nil])
    simp only [tmV, tmC, iV, bV] at h1 h2 ⊢
    simp only [zS, zD, convertA, makeFuncA, Nat.reduceAdd, Nat.reduceSub, Nat.reduceMul, Nat.reduceLT, Nat.reduceLeDiff, Nat.reduceGT, ↓reduceIte, Nat.reduceEqDiff, Nat.reduceBEq, reduceCtorEq, Int.reduceBEq, Int.reduceBNe, Int.reduceLT, Int.reduceLE, Int.reduceGT, Int.reduceGE, zT33, zT3, h1, h2, c]
    (refine Eq.trans ?_ rfl; kernel_rfl)
end Go.Proofs.YteenjodhmppgjaaGreatDoor.Am
end
section
/- Whether a table, a list of levels is heavy: the answer exists; Find. -/
namespace Go.Proofs.YteenjodhmppgjaaGreatDoor.Am
open Go
variable (ext : Ext)
set_option maxHeartbeats 8000000
noncomputable def B37 : Code := (Tryz.f37.body.getD .skip)
noncomputable def L37a : Code := sub B37 [1, 0, 1, 0, 0]
noncomputable def K37a : List It := [.inBlock 0, .code (sub B37 [1, 1])]
noncomputable def H37a (ext : Ext) (m : Nat) (env : Env) (loc : List O) : Option Out := run Tryz.prog ext (.k ⟨22, m, [.tmp 4], false⟩ (.code L37a :: .inLoop L37a :: K37a) env loc)
noncomputable def B69 : Code := (Tryz.f69.body.getD .skip)
noncomputable def L69a : Code := sub B69 [1, 0, 1, 0, 0]
noncomputable def K69a : List It := [.inBlock 0, .code (sub B69 [1, 1])]
noncomputable def H69a (ext : Ext) (m : Nat) (env : Env) (loc : List O) : Option Out := run Tryz.prog ext (.k ⟨19, m, [.tmp 4], false⟩ (.code L69a :: .inLoop L69a :: K69a) env loc)
def Lev.ok (x : Lev) : Prop := x.vs.length < 2 ^ 50
def Dc.ok (x : Dc) : Prop := x.type.sz < 2 ^ 50 ∧ x.body.sz < 2 ^ 50 ∧ x.param.sz < 2 ^ 50 ∧ x.cons.length < 2 ^ 50 ∧ ∀ c ∈ x.cons, c.arg.sz < 2 ^ 50
def Tb.ok (x : Tb) : Prop := x.ds.length < 2 ^ 50 ∧ ∀ d ∈ x.ds, d.ok
theorem conD_eq (x : Con) : conD x = [.v (.string x.name), .v (.int .i64 x.arg.op), .v (.int .i64 x.arg.n), .v (.string x.arg.s), x.arg.uD, x.arg.lD] := by simp [conD, tmD_eq]
theorem consD_lt {x : Dc} {k : Nat} (h : (k : Int) < x.cons.length) : x.d = .s 6 (x.cons.map conD) := by unfold Dc.d; exact listD_of_lt (b := k) (by omega) (by simpa using h)
theorem dsD_lt {x : Tb} {k : Int} (h0 : 0 ≤ k) (h : k < x.ds.length) : x.d = .s 23 (x.ds.map dcD) := by unfold Tb.d; exact listD_of_lt (b := k) h0 (by simpa using h)
def E99 (m k : Int) : Env := [(1, iV m), (2, .c (.ptr 0 0)), (5, iV k)]
def O99 (x : Dc) : List O := [.box (dcC x)]
theorem decl99 (hx : ext 99 = none) (h17 : ext 17 = none) (h62 : ext 62 = none) (h63 : ext 63 = none) (x : Dc) (m : Int) (hs : x.ok) : ∃ b, run Tryz.prog ext (.call 99 [dcV x, iV m] []) = some (.ret [bV b] []) := by
  obtain ⟨s1, s2, s3, s4, s5⟩ := hs
  obtain ⟨b1, r1⟩ := heavy17 ext h17 h62 h63 x.type m s1
  obtain ⟨b2, r2⟩ := heavy17 ext h17 h62 h63 x.body m s2
  obtain ⟨b3, r3⟩ := heavy17 ext h17 h62 h63 x.param m s3
  by_cases a1 : (x.name.size : Int) > 200
  · refine ⟨true, ?_⟩
    (rw [run_eq]; simp only [stepA, hx, Tryz.func99, Tryz.f99, show retF 99 = false from rfl]; simp only [List.length_cons, List.length_nil, Nat.reduceAdd, Nat.reduceLeDiff, Nat.zero_le, ↓reduceIte, List.zipIdx_cons, List.zipIdx_nil, List.map_cons, List.map_nil])
    simp only [dcV, dcC, bV, iV]
    simp only [zS, zD, convertA, makeFuncA, Nat.reduceAdd, Nat.reduceSub, Nat.reduceMul, Nat.reduceLT, Nat.reduceLeDiff, Nat.reduceGT, ↓reduceIte, Nat.reduceEqDiff, Nat.reduceBEq, reduceCtorEq, Int.reduceBEq, Int.reduceBNe, Int.reduceLT, Int.reduceLE, Int.reduceGT, Int.reduceGE, zT39, zT9, zT36, zT37, zT34, zT3, lenA_vd, lenA_cd, a1]
    (refine Eq.trans ?_ rfl; kernel_rfl)
  by_cases a2 : (x.cons.length : Int) > 20
  · refine ⟨true, ?_⟩
    (rw [run_eq]; simp only [stepA, hx, Tryz.func99, Tryz.f99, show retF 99 = false from rfl]; simp only [List.length_cons, List.length_nil, Nat.reduceAdd, Nat.reduceLeDiff, Nat.zero_le, ↓reduceIte, List.zipIdx_cons, List.zipIdx_nil, List.map_cons, List.map_nil])
    simp only [dcV, dcC, bV, iV]
    simp only [zS, zD, convertA, makeFuncA, Nat.reduceAdd, Nat.reduceSub, Nat.reduceMul, Nat.reduceLT, Nat.reduceLeDiff, Nat.reduceGT, ↓reduceIte, Nat.reduceEqDiff, Nat.reduceBEq, reduceCtorEq, Int.reduceBEq, Int.reduceBNe, Int.reduceLT, Int.reduceLE, Int.reduceGT, Int.reduceGE, zT39, zT9, zT36, zT37, zT34, zT3, lenA_vd, lenA_cd, a1, a2]
    (refine Eq.trans ?_ rfl; kernel_rfl)
  by_cases a3 : (x.over.vs.length : Int) > 20
  · refine ⟨true, ?_⟩
    (rw [run_eq]; simp only [stepA, hx, Tryz.func99, Tryz.f99, show retF 99 = false from rfl]; simp only [List.length_cons, List.length_nil, Nat.reduceAdd, Nat.reduceLeDiff, Nat.zero_le, ↓reduceIte, List.zipIdx_cons, List.zipIdx_nil, List.map_cons, List.map_nil])
    simp only [dcV, dcC, bV, iV]
    simp only [zS, zD, convertA, makeFuncA, Nat.reduceAdd, Nat.reduceSub, Nat.reduceMul, Nat.reduceLT, Nat.reduceLeDiff, Nat.reduceGT, ↓reduceIte, Nat.reduceEqDiff, Nat.reduceBEq, reduceCtorEq, Int.reduceBEq, Int.reduceBNe, Int.reduceLT, Int.reduceLE, Int.reduceGT, Int.reduceGE, zT39, zT9, zT36, zT37, zT34, zT3, lenA_vd, lenA_cd, a1, a2, a3]
    (refine Eq.trans ?_ rfl; kernel_rfl)
  by_cases a4 : (x.sort.vs.length : Int) > 20
  · refine ⟨true, ?_⟩
    (rw [run_eq]; simp only [stepA, hx, Tryz.func99, Tryz.f99, show retF 99 = false from rfl]; simp only [List.length_cons, List.length_nil, Nat.reduceAdd, Nat.reduceLeDiff, Nat.zero_le, ↓reduceIte, List.zipIdx_cons, List.zipIdx_nil, List.map_cons, List.map_nil])
    simp only [dcV, dcC, bV, iV]
    simp only [zS, zD, convertA, makeFuncA, Nat.reduceAdd, Nat.reduceSub, Nat.reduceMul, Nat.reduceLT, Nat.reduceLeDiff, Nat.reduceGT, ↓reduceIte, Nat.reduceEqDiff, Nat.reduceBEq, reduceCtorEq, Int.reduceBEq, Int.reduceBNe, Int.reduceLT, Int.reduceLE, Int.reduceGT, Int.reduceGE, zT39, zT9, zT36, zT37, zT34, zT3, lenA_vd, lenA_cd, a1, a2, a3, a4]
    (refine Eq.trans ?_ rfl; kernel_rfl)
  cases b1 with
  | true =>
    refine ⟨true, ?_⟩
    (rw [run_eq]; simp only [stepA, hx, Tryz.func99, Tryz.f99, show retF 99 = false from rfl]; simp only [List.length_cons, List.length_nil, Nat.reduceAdd, Nat.reduceLeDiff, Nat.zero_le, ↓reduceIte, List.zipIdx_cons, List.zipIdx_nil, List.map_cons, List.map_nil])
    simp only [dcV, dcC, bV, iV, tmV, tmC] at r1 ⊢
    simp only [zS, zD, convertA, makeFuncA, Nat.reduceAdd, Nat.reduceSub, Nat.reduceMul, Nat.reduceLT, Nat.reduceLeDiff, Nat.reduceGT, ↓reduceIte, Nat.reduceEqDiff, Nat.reduceBEq, reduceCtorEq, Int.reduceBEq, Int.reduceBNe, Int.reduceLT, Int.reduceLE, Int.reduceGT, Int.reduceGE, zT39, zT9, zT33, zT36, zT37, zT34, zT3, lenA_vd, lenA_cd, a1, a2, a3, a4, r1]
    (refine Eq.trans ?_ rfl; kernel_rfl)
  | false =>
  cases b2 with
  | true =>
    refine ⟨true, ?_⟩
    (rw [run_eq]; simp only [stepA, hx, Tryz.func99, Tryz.f99, show retF 99 = false from rfl]; simp only [List.length_cons, List.length_nil, Nat.reduceAdd, Nat.reduceLeDiff, Nat.zero_le, ↓reduceIte, List.zipIdx_cons, List.zipIdx_nil, List.map_cons, List.map_nil])
    simp only [dcV, dcC, bV, iV, tmV, tmC] at r1 r2 ⊢
    simp only [zS, zD, convertA, makeFuncA, Nat.reduceAdd, Nat.reduceSub, Nat.reduceMul, Nat.reduceLT, Nat.reduceLeDiff, Nat.reduceGT, ↓reduceIte, Nat.reduceEqDiff, Nat.reduceBEq, reduceCtorEq, Int.reduceBEq, Int.reduceBNe, Int.reduceLT, Int.reduceLE, Int.reduceGT, Int.reduceGE, zT39, zT9, zT33, zT36, zT37, zT34, zT3, lenA_vd, lenA_cd, a1, a2, a3, a4, r1, r2]
    (refine Eq.trans ?_ rfl; kernel_rfl)
  | false =>
  cases b3 with
  | true =>
    refine ⟨true, ?_⟩
    (rw [run_eq]; simp only [stepA, hx, Tryz.func99, Tryz.f99, show retF 99 = false from rfl]; simp only [List.length_cons, List.length_nil, Nat.reduceAdd, Nat.reduceLeDiff, Nat.zero_le, ↓reduceIte, List.zipIdx_cons, List.zipIdx_nil, List.map_cons, List.map_nil])
    simp only [dcV, dcC, bV, iV, tmV, tmC] at r1 r2 r3 ⊢
    simp only [zS, zD, convertA, makeFuncA, Nat.reduceAdd, Nat.reduceSub, Nat.reduceMul, Nat.reduceLT, Nat.reduceLeDiff, Nat.reduceGT, ↓reduceIte, Nat.reduceEqDiff, Nat.reduceBEq, reduceCtorEq, Int.reduceBEq, Int.reduceBNe, Int.reduceLT, Int.reduceLE, Int.reduceGT, Int.reduceGE, zT39, zT9, zT33, zT36, zT37, zT34, zT3, lenA_vd, lenA_cd, a1, a2, a3, a4, r1, r2, r3]
    (refine Eq.trans ?_ rfl; kernel_rfl)
  | false =>
    have he : ∀ out, H99a ext 0 (E99 m 0) (O99 x) = out → run Tryz.prog ext (.call 99 [dcV x, iV m] []) = out := by
      intro out h
      unfold H99a at h
      (rw [run_eq]; simp only [stepA, hx, Tryz.func99, Tryz.f99, show retF 99 = false from rfl]; simp only [List.length_cons, List.length_nil, Nat.reduceAdd, Nat.reduceLeDiff, Nat.zero_le, ↓reduceIte, List.zipIdx_cons, List.zipIdx_nil, List.map_cons, List.map_nil])
      simp only [dcV, dcC, bV, iV, tmV, tmC, E99, O99] at h r1 r2 r3 ⊢
      simp only [zS, zD, convertA, makeFuncA, Nat.reduceAdd, Nat.reduceSub, Nat.reduceMul, Nat.reduceLT, Nat.reduceLeDiff, Nat.reduceGT, ↓reduceIte, Nat.reduceEqDiff, Nat.reduceBEq, reduceCtorEq, Int.reduceBEq, Int.reduceBNe, Int.reduceLT, Int.reduceLE, Int.reduceGT, Int.reduceGE, zT39, zT9, zT33, zT36, zT37, zT34, zT3, lenA_vd, lenA_cd, a1, a2, a3, a4, r1, r2, r3]
      (refine (r_inLoop_some ?_).trans h; kernel_rfl)
    have ha := loop_ex (σ := Unit) x.cons (fun k _ => H99a ext 0 (E99 m k) (O99 x)) isB (by omega) (fun k y _ hk hl => by
        have h0 : (0 : Int) ≤ k := by omega
        obtain ⟨b, hr⟩ := heavy17 ext h17 h62 h63 y.arg m (s5 y (List.mem_of_getElem? hk))
        by_cases c1 : (y.name.size : Int) > 200
        · refine .inr ⟨.ret [bV true] [], ?_, _, rfl⟩
          unfold H99a
          simp only [dcV, dcC, dV, iV, bV, tmV, tmC, E99, O99, consD_lt hl] at hr ⊢
          (rw [show (It.code L99a) = It.code (sub B99 [1, 1, 1, 0, 1, 0, 0]) from rfl]; simp only [B99, K99a, sub, Option.getD_some, Tryz.f99, ↓reduceIte, Nat.one_ne_zero])
          simp only [zS, zD, convertA, makeFuncA, Nat.reduceAdd, Nat.reduceSub, Nat.reduceMul, Nat.reduceLT, Nat.reduceLeDiff, Nat.reduceGT, ↓reduceIte, Nat.reduceEqDiff, Nat.reduceBEq, reduceCtorEq, Int.reduceBEq, Int.reduceBNe, Int.reduceLT, Int.reduceLE, Int.reduceGT, Int.reduceGE, zT39, zT98, zT9, zT33, zT37, zT3, h0, hl, Int.toNat_natCast, hk, conD_eq y, c1]
          (refine Eq.trans ?_ rfl; kernel_rfl)
        cases b with
        | true =>
          refine .inr ⟨.ret [bV true] [], ?_, _, rfl⟩
          unfold H99a
          simp only [dcV, dcC, dV, iV, bV, tmV, tmC, E99, O99, consD_lt hl] at hr ⊢
          (rw [show (It.code L99a) = It.code (sub B99 [1, 1, 1, 0, 1, 0, 0]) from rfl]; simp only [B99, K99a, sub, Option.getD_some, Tryz.f99, ↓reduceIte, Nat.one_ne_zero])
          simp only [zS, zD, convertA, makeFuncA, Nat.reduceAdd, Nat.reduceSub, Nat.reduceMul, Nat.reduceLT, Nat.reduceLeDiff, Nat.reduceGT, ↓reduceIte, Nat.reduceEqDiff, Nat.reduceBEq, reduceCtorEq, Int.reduceBEq, Int.reduceBNe, Int.reduceLT, Int.reduceLE, Int.reduceGT, Int.reduceGE, zT39, zT98, zT9, zT33, zT37, zT3, h0, hl, Int.toNat_natCast, hk, conD_eq y, c1, hr]
          (refine Eq.trans ?_ rfl; kernel_rfl)
        | false =>
          refine .inl ⟨(), fun out h => ?_⟩
          unfold H99a at h ⊢
          simp only [dcV, dcC, dV, iV, bV, tmV, tmC, E99, O99, consD_lt hl] at hr h ⊢
          (rw [show (It.code L99a) = It.code (sub B99 [1, 1, 1, 0, 1, 0, 0]) from rfl]; simp only [B99, K99a, sub, Option.getD_some, Tryz.f99, ↓reduceIte, Nat.one_ne_zero])
          simp only [zS, zD, convertA, makeFuncA, Nat.reduceAdd, Nat.reduceSub, Nat.reduceMul, Nat.reduceLT, Nat.reduceLeDiff, Nat.reduceGT, ↓reduceIte, Nat.reduceEqDiff, Nat.reduceBEq, reduceCtorEq, Int.reduceBEq, Int.reduceBNe, Int.reduceLT, Int.reduceLE, Int.reduceGT, Int.reduceGE, zT39, zT98, zT9, zT33, zT37, zT3, h0, hl, Int.toNat_natCast, hk, conD_eq y, c1, hr]
          (refine (r_inLoop_some ?_).trans h; kernel_rfl)) (fun _ => by
        refine ⟨.ret [bV false] [], ?_, _, rfl⟩
        unfold H99a
        simp only [dcV, dcC, dV, iV, bV, E99, O99]
        (rw [show (It.code L99a) = It.code (sub B99 [1, 1, 1, 0, 1, 0, 0]) from rfl]; simp only [B99, K99a, sub, Option.getD_some, Tryz.f99, ↓reduceIte, Nat.one_ne_zero])
        simp only [zS, zD, convertA, makeFuncA, Nat.reduceAdd, Nat.reduceSub, Nat.reduceMul, Nat.reduceLT, Nat.reduceLeDiff, Nat.reduceGT, ↓reduceIte, Nat.reduceEqDiff, Nat.reduceBEq, reduceCtorEq, Int.reduceBEq, Int.reduceBNe, Int.reduceLT, Int.reduceLE, Int.reduceGT, Int.reduceGE, zT39, zT37, zT3, lenA_cd, Int.lt_irrefl]
        (refine Eq.trans ?_ rfl; kernel_rfl)) ()
    obtain ⟨o, h1, b, rfl⟩ := ha
    exact ⟨b, he _ h1⟩
def E57 (m k : Int) : Env := [(2, iV m), (3, .c (.ptr 0 0)), (7, iV k)]
def O57 (x : Tb) : List O := [.box (tbC x)]
theorem table57 (hx : ext 57 = none) (h99 : ext 99 = none) (h17 : ext 17 = none) (h62 : ext 62 = none) (h63 : ext 63 = none) (x : Tb) (n m : Int) (hs : x.ok) : ∃ b, run Tryz.prog ext (.call 57 [tbV x, iV n, iV m] []) = some (.ret [bV b] []) := by
  obtain ⟨s1, s2⟩ := hs
  by_cases a1 : (x.ds.length : Int) > n
  · refine ⟨true, ?_⟩
    (rw [run_eq]; simp only [stepA, hx, Tryz.func57, Tryz.f57, show retF 57 = false from rfl]; simp only [List.length_cons, List.length_nil, Nat.reduceAdd, Nat.reduceLeDiff, Nat.zero_le, ↓reduceIte, List.zipIdx_cons, List.zipIdx_nil, List.map_cons, List.map_nil])
    simp only [tbV, tbC, bV, iV]
    simp only [zS, zD, convertA, makeFuncA, Nat.reduceAdd, Nat.reduceSub, Nat.reduceMul, Nat.reduceLT, Nat.reduceLeDiff, Nat.reduceGT, ↓reduceIte, Nat.reduceEqDiff, Nat.reduceBEq, reduceCtorEq, Int.reduceBEq, Int.reduceBNe, Int.reduceLT, Int.reduceLE, Int.reduceGT, Int.reduceGE, zT24, zT22, zT3, lenA_td, a1]
    (refine Eq.trans ?_ rfl; kernel_rfl)
  have he : ∀ out, H57a ext 0 (E57 m 0) (O57 x) = out → run Tryz.prog ext (.call 57 [tbV x, iV n, iV m] []) = out := by
    intro out h
    unfold H57a at h
    (rw [run_eq]; simp only [stepA, hx, Tryz.func57, Tryz.f57, show retF 57 = false from rfl]; simp only [List.length_cons, List.length_nil, Nat.reduceAdd, Nat.reduceLeDiff, Nat.zero_le, ↓reduceIte, List.zipIdx_cons, List.zipIdx_nil, List.map_cons, List.map_nil])
    simp only [tbV, tbC, bV, iV, E57, O57] at h ⊢
    simp only [zS, zD, convertA, makeFuncA, Nat.reduceAdd, Nat.reduceSub, Nat.reduceMul, Nat.reduceLT, Nat.reduceLeDiff, Nat.reduceGT, ↓reduceIte, Nat.reduceEqDiff, Nat.reduceBEq, reduceCtorEq, Int.reduceBEq, Int.reduceBNe, Int.reduceLT, Int.reduceLE, Int.reduceGT, Int.reduceGE, zT24, zT22, zT3, lenA_td, a1]
    (refine (r_inLoop_some ?_).trans h; kernel_rfl)
  have ha := loop_ex (σ := Unit) x.ds (fun k _ => H57a ext 0 (E57 m k) (O57 x)) isB (by omega) (fun k y _ hk hl => by
      have h0 : (0 : Int) ≤ k := by omega
      obtain ⟨b, hr⟩ := decl99 ext h99 h17 h62 h63 y m (s2 y (List.mem_of_getElem? hk))
      cases b with
      | true =>
        refine .inr ⟨.ret [bV true] [], ?_, _, rfl⟩
        unfold H57a
        simp only [dcV, dcC, tbC, dV, iV, bV, E57, O57, dsD_lt h0 hl] at hr ⊢
        (rw [show (It.code L57a) = It.code (sub B57 [1, 1, 0, 1, 0, 0]) from rfl]; simp only [B57, K57a, sub, Option.getD_some, Tryz.f57, ↓reduceIte, Nat.one_ne_zero])
        simp only [zS, zD, convertA, makeFuncA, Nat.reduceAdd, Nat.reduceSub, Nat.reduceMul, Nat.reduceLT, Nat.reduceLeDiff, Nat.reduceGT, ↓reduceIte, Nat.reduceEqDiff, Nat.reduceBEq, reduceCtorEq, Int.reduceBEq, Int.reduceBNe, Int.reduceLT, Int.reduceLE, Int.reduceGT, Int.reduceGE, zT39, zT24, zT22, zT3, h0, hl, Int.toNat_natCast, hk, dcD_eq y, hr]
        (refine Eq.trans ?_ rfl; kernel_rfl)
      | false =>
        refine .inl ⟨(), fun out h => ?_⟩
        unfold H57a at h ⊢
        simp only [dcV, dcC, tbC, dV, iV, bV, E57, O57, dsD_lt h0 hl] at hr h ⊢
        (rw [show (It.code L57a) = It.code (sub B57 [1, 1, 0, 1, 0, 0]) from rfl]; simp only [B57, K57a, sub, Option.getD_some, Tryz.f57, ↓reduceIte, Nat.one_ne_zero])
        simp only [zS, zD, convertA, makeFuncA, Nat.reduceAdd, Nat.reduceSub, Nat.reduceMul, Nat.reduceLT, Nat.reduceLeDiff, Nat.reduceGT, ↓reduceIte, Nat.reduceEqDiff, Nat.reduceBEq, reduceCtorEq, Int.reduceBEq, Int.reduceBNe, Int.reduceLT, Int.reduceLE, Int.reduceGT, Int.reduceGE, zT39, zT24, zT22, zT3, h0, hl, Int.toNat_natCast, hk, dcD_eq y, hr]
        (refine (r_inLoop_some ?_).trans h; kernel_rfl)) (fun _ => by
      refine ⟨.ret [bV false] [], ?_, _, rfl⟩
      unfold H57a
      simp only [tbC, dV, iV, bV, E57, O57]
      (rw [show (It.code L57a) = It.code (sub B57 [1, 1, 0, 1, 0, 0]) from rfl]; simp only [B57, K57a, sub, Option.getD_some, Tryz.f57, ↓reduceIte, Nat.one_ne_zero])
      simp only [zS, zD, convertA, makeFuncA, Nat.reduceAdd, Nat.reduceSub, Nat.reduceMul, Nat.reduceLT, Nat.reduceLeDiff, Nat.reduceGT, ↓reduceIte, Nat.reduceEqDiff, Nat.reduceBEq, reduceCtorEq, Int.reduceBEq, Int.reduceBNe, Int.reduceLT, Int.reduceLE, Int.reduceGT, Int.reduceGE, zT24, zT22, zT3, lenA_td, Int.lt_irrefl]
      (refine Eq.trans ?_ rfl; kernel_rfl)) ()
  obtain ⟨o, h1, b, rfl⟩ := ha
  exact ⟨b, he _ h1⟩
theorem heavy13 (hx : ext 13 = none) (h57 : ext 57 = none) (h99 : ext 99 = none) (h17 : ext 17 = none) (h62 : ext 62 = none) (h63 : ext 63 = none) (x : Tb) (hs : x.ok) : ∃ b, run Tryz.prog ext (.call 13 [tbV x] []) = some (.ret [bV b] []) := by
  obtain ⟨b, hr⟩ := table57 ext h57 h99 h17 h62 h63 x 40 400 hs
  refine ⟨b, ?_⟩
  (rw [run_eq]; simp only [stepA, hx, Tryz.func13, Tryz.f13, show retF 13 = false from rfl]; simp only [List.length_cons, List.length_nil, Nat.reduceAdd, Nat.reduceLeDiff, Nat.zero_le, ↓reduceIte, List.zipIdx_cons, List.zipIdx_nil, List.map_cons, List.map_nil])
  simp only [tbV, tbC, bV, iV] at hr ⊢
  simp only [zS, zD, convertA, makeFuncA, Nat.reduceAdd, Nat.reduceSub, Nat.reduceMul, Nat.reduceLT, Nat.reduceLeDiff, Nat.reduceGT, ↓reduceIte, Nat.reduceEqDiff, Nat.reduceBEq, reduceCtorEq, Int.reduceBEq, Int.reduceBNe, Int.reduceLT, Int.reduceLE, Int.reduceGT, Int.reduceGE, zT24, hr]
  (refine Eq.trans ?_ rfl; kernel_rfl)
/-! ### Find -/
def isNm (s : ByteArray) (d : Dc) : Bool := d.name.toList == s.toList
def find (t : Tb) (s : ByteArray) : Int := idxI (isNm s) t.ds
def E37 (s : ByteArray) (k : Int) : Env := [(1, sV s), (2, .c (.ptr 0 0)), (5, iV k)]
theorem find37 (hx : ext 37 = none) (x : Tb) (s : ByteArray) (hs : x.ds.length < 2 ^ 50) : run Tryz.prog ext (.call 37 [tbV x, sV s] []) = some (.ret [iV (find x s)] []) := by
  have he : ∀ out, H37a ext 0 (E37 s 0) (O57 x) = out → run Tryz.prog ext (.call 37 [tbV x, sV s] []) = out := by
    intro out h
    unfold H37a at h
    (rw [run_eq]; simp only [stepA, hx, Tryz.func37, Tryz.f37, show retF 37 = false from rfl]; simp only [List.length_cons, List.length_nil, Nat.reduceAdd, Nat.reduceLeDiff, Nat.zero_le, ↓reduceIte, List.zipIdx_cons, List.zipIdx_nil, List.map_cons, List.map_nil])
    simp only [tbV, tbC, sV, iV, E37, O57] at h ⊢
    simp only [zS, zD, convertA, makeFuncA, Nat.reduceAdd, Nat.reduceSub, Nat.reduceMul, Nat.reduceLT, Nat.reduceLeDiff, Nat.reduceGT, ↓reduceIte, Nat.reduceEqDiff, Nat.reduceBEq, reduceCtorEq, Int.reduceBEq, Int.reduceBNe, Int.reduceLT, Int.reduceLE, Int.reduceGT, Int.reduceGE, zT24, zT22, zT3]
    (refine (r_inLoop_some ?_).trans h; kernel_rfl)
  refine he _ ?_
  have := loop_find x.ds (fun k => H37a ext 0 (E37 s k) (O57 x)) (isNm s) (fun k => some (.ret [iV k] [])) (some (.ret [iV (-1)] [])) (by omega) (fun k y hk hl => by
      have h0 : (0 : Int) ≤ k := by omega
      unfold H37a isNm
      refine ⟨fun hp => ?_, fun hp out h => ?_⟩
      · simp only [tbC, dV, iV, sV, E37, O57, dsD_lt h0 hl]
        (rw [show (It.code L37a) = It.code (sub B37 [1, 0, 1, 0, 0]) from rfl]; simp only [B37, K37a, sub, Option.getD_some, Tryz.f37, ↓reduceIte, Nat.one_ne_zero])
        simp only [zS, zD, convertA, makeFuncA, Nat.reduceAdd, Nat.reduceSub, Nat.reduceMul, Nat.reduceLT, Nat.reduceLeDiff, Nat.reduceGT, ↓reduceIte, Nat.reduceEqDiff, Nat.reduceBEq, reduceCtorEq, Int.reduceBEq, Int.reduceBNe, Int.reduceLT, Int.reduceLE, Int.reduceGT, Int.reduceGE, zT39, zT24, zT22, zT9, zT3, h0, hl, Int.toNat_natCast, hk, dcD_eq y, hp]
        (refine Eq.trans ?_ rfl; kernel_rfl)
      · simp only [tbC, dV, iV, sV, E37, O57, dsD_lt h0 hl] at h ⊢
        (rw [show (It.code L37a) = It.code (sub B37 [1, 0, 1, 0, 0]) from rfl]; simp only [B37, K37a, sub, Option.getD_some, Tryz.f37, ↓reduceIte, Nat.one_ne_zero])
        simp only [zS, zD, convertA, makeFuncA, Nat.reduceAdd, Nat.reduceSub, Nat.reduceMul, Nat.reduceLT, Nat.reduceLeDiff, Nat.reduceGT, ↓reduceIte, Nat.reduceEqDiff, Nat.reduceBEq, reduceCtorEq, Int.reduceBEq, Int.reduceBNe, Int.reduceLT, Int.reduceLE, Int.reduceGT, Int.reduceGE, zT39, zT24, zT22, zT9, zT3, h0, hl, Int.toNat_natCast, hk, dcD_eq y, hp]
        (refine (r_inLoop_some ?_).trans h; kernel_rfl)) (by
      unfold H37a
      simp only [tbC, dV, iV, sV, E37, O57]
      (rw [show (It.code L37a) = It.code (sub B37 [1, 0, 1, 0, 0]) from rfl]; simp only [B37, K37a, sub, Option.getD_some, Tryz.f37, ↓reduceIte, Nat.one_ne_zero])
      simp only [zS, zD, convertA, makeFuncA, Nat.reduceAdd, Nat.reduceSub, Nat.reduceMul, Nat.reduceLT, Nat.reduceLeDiff, Nat.reduceGT, ↓reduceIte, Nat.reduceEqDiff, Nat.reduceBEq, reduceCtorEq, Int.reduceBEq, Int.reduceBNe, Int.reduceLT, Int.reduceLE, Int.reduceGT, Int.reduceGE, zT24, zT22, zT3, lenA_td, Int.lt_irrefl]
      (refine Eq.trans ?_ rfl; kernel_rfl))
  rw [this]
  unfold find idxI
  cases x.ds.findIdx? (isNm s) <;> rfl
def E69 (x : Tb) (k : Int) : Env := [(0, dV x.d), (1, .c (.fn 70 [] [0])), (7, iV x.ds.length), (8, iV k)]
def O69 (s : ByteArray) : List O := [.box [.d (.v (.string s))]]
theorem clo70 (hx : ext 70 = none) (y : Dc) (s : ByteArray) : run Tryz.prog ext (.call 70 [dcV y, .c (.ptr 0 0)] (O69 s)) = some (.ret [bV (isNm s y)] (O69 s)) := by
  (rw [run_eq]; simp only [stepA, hx, Tryz.func70, Tryz.f70, show retF 70 = false from rfl]; simp only [List.length_cons, List.length_nil, Nat.reduceAdd, Nat.reduceLeDiff, Nat.zero_le, ↓reduceIte, List.zipIdx_cons, List.zipIdx_nil, List.map_cons, List.map_nil])
  simp only [dcV, dcC, bV, O69, isNm]
  simp only [zS, zD, convertA, makeFuncA, Nat.reduceAdd, Nat.reduceSub, Nat.reduceMul, Nat.reduceLT, Nat.reduceLeDiff, Nat.reduceGT, ↓reduceIte, Nat.reduceEqDiff, Nat.reduceBEq, reduceCtorEq, Int.reduceBEq, Int.reduceBNe, Int.reduceLT, Int.reduceLE, Int.reduceGT, Int.reduceGE, zT39, zT9]
  (refine Eq.trans ?_ rfl; kernel_rfl)
theorem idx69 (hx : ext 69 = none) (h70 : ext 70 = none) (x : Tb) (s : ByteArray) (hs : x.ds.length < 2 ^ 50) : run Tryz.prog ext (.call 69 [dV x.d, .c (.fn 70 [] [0])] (O69 s)) = some (.ret [iV (find x s)] (O69 s)) := by
  have he : ∀ out, H69a ext 1 (E69 x 0) (O69 s) = out → run Tryz.prog ext (.call 69 [dV x.d, .c (.fn 70 [] [0])] (O69 s)) = out := by
    intro out h
    unfold H69a at h
    (rw [run_eq]; simp only [stepA, hx, Tryz.func69, Tryz.f69, show retF 69 = false from rfl]; simp only [List.length_cons, List.length_nil, Nat.reduceAdd, Nat.reduceLeDiff, Nat.zero_le, ↓reduceIte, List.zipIdx_cons, List.zipIdx_nil, List.map_cons, List.map_nil])
    simp only [dV, iV, E69, O69] at h ⊢
    simp only [zS, zD, convertA, makeFuncA, Nat.reduceAdd, Nat.reduceSub, Nat.reduceMul, Nat.reduceLT, Nat.reduceLeDiff, Nat.reduceGT, ↓reduceIte, Nat.reduceEqDiff, Nat.reduceBEq, reduceCtorEq, Int.reduceBEq, Int.reduceBNe, Int.reduceLT, Int.reduceLE, Int.reduceGT, Int.reduceGE, zT22, zT3, lenA_td]
    (refine (r_inLoop_some ?_).trans h; kernel_rfl)
  refine he _ ?_
  have := loop_find x.ds (fun k => H69a ext 1 (E69 x k) (O69 s)) (isNm s) (fun k => some (.ret [iV k] (O69 s))) (some (.ret [iV (-1)] (O69 s))) (by omega) (fun k y hk hl => by
      have h0 : (0 : Int) ≤ k := by omega
      have hr := clo70 ext h70 y s
      have e := callA_of (rec := run Tryz.prog ext) (look := lk (O69 s)) (slot := 1) (f := 70) (args := [dcV y, .c (.ptr 0 0)]) (ids := [0]) (bor := []) (e := ⟨.val (bV (isNm s y)), [(0, .box [.d (.v (.string s))])], [0]⟩) (by kernel_rfl) hr (by kernel_rfl)
      unfold H69a
      refine ⟨fun hp => ?_, fun hp out h => ?_⟩
      · rw [hp] at e
        simp only [dV, iV, bV, dcV, dcC, E69, O69, dsD_lt h0 hl] at e ⊢
        (rw [show (It.code L69a) = It.code (sub B69 [1, 0, 1, 0, 0]) from rfl]; simp only [B69, K69a, sub, Option.getD_some, Tryz.f69, ↓reduceIte, Nat.one_ne_zero])
        simp only [zS, zD, convertA, makeFuncA, Nat.reduceAdd, Nat.reduceSub, Nat.reduceMul, Nat.reduceLT, Nat.reduceLeDiff, Nat.reduceGT, ↓reduceIte, Nat.reduceEqDiff, Nat.reduceBEq, reduceCtorEq, Int.reduceBEq, Int.reduceBNe, Int.reduceLT, Int.reduceLE, Int.reduceGT, Int.reduceGE, zT39, zT22, zT3, h0, hl, Int.toNat_natCast, hk, dcD_eq y, e]
        (refine Eq.trans ?_ rfl; kernel_rfl)
      · rw [hp] at e
        simp only [dV, iV, bV, dcV, dcC, E69, O69, dsD_lt h0 hl] at e h ⊢
        (rw [show (It.code L69a) = It.code (sub B69 [1, 0, 1, 0, 0]) from rfl]; simp only [B69, K69a, sub, Option.getD_some, Tryz.f69, ↓reduceIte, Nat.one_ne_zero])
        simp only [zS, zD, convertA, makeFuncA, Nat.reduceAdd, Nat.reduceSub, Nat.reduceMul, Nat.reduceLT, Nat.reduceLeDiff, Nat.reduceGT, ↓reduceIte, Nat.reduceEqDiff, Nat.reduceBEq, reduceCtorEq, Int.reduceBEq, Int.reduceBNe, Int.reduceLT, Int.reduceLE, Int.reduceGT, Int.reduceGE, zT39, zT22, zT3, h0, hl, Int.toNat_natCast, hk, dcD_eq y, e]
        (refine (r_inLoop_some ?_).trans h; kernel_rfl)) (by
      unfold H69a
      simp only [dV, iV, E69, O69]
      (rw [show (It.code L69a) = It.code (sub B69 [1, 0, 1, 0, 0]) from rfl]; simp only [B69, K69a, sub, Option.getD_some, Tryz.f69, ↓reduceIte, Nat.one_ne_zero])
      simp only [zS, zD, convertA, makeFuncA, Nat.reduceAdd, Nat.reduceSub, Nat.reduceMul, Nat.reduceLT, Nat.reduceLeDiff, Nat.reduceGT, ↓reduceIte, Nat.reduceEqDiff, Nat.reduceBEq, reduceCtorEq, Int.reduceBEq, Int.reduceBNe, Int.reduceLT, Int.reduceLE, Int.reduceGT, Int.reduceGE, zT22, zT3, Int.lt_irrefl]
      (refine Eq.trans ?_ rfl; kernel_rfl))
  rw [this]
  unfold find idxI
  cases x.ds.findIdx? (isNm s) <;> rfl
theorem find22 (hx : ext 22 = none) (h69 : ext 69 = none) (h70 : ext 70 = none) (x : Tb) (s : ByteArray) (hs : x.ds.length < 2 ^ 50) : run Tryz.prog ext (.call 22 [tbV x, sV s] []) = some (.ret [iV (find x s)] []) := by
  have hr := idx69 ext h69 h70 x s hs
  have e := callA_of (rec := run Tryz.prog ext) (look := lk [.box (tbC x), .box [.d (.v (.string s))]]) (slot := 2) (f := 69) (args := [dV x.d, .c (.fn 70 [] [1])]) (ids := [1]) (bor := []) (e := ⟨.val (iV (find x s)), [(1, .box [.d (.v (.string s))])], [1]⟩) (by kernel_rfl) hr (by kernel_rfl)
  (rw [run_eq]; simp only [stepA, hx, Tryz.func22, Tryz.f22, show retF 22 = false from rfl]; simp only [List.length_cons, List.length_nil, Nat.reduceAdd, Nat.reduceLeDiff, Nat.zero_le, ↓reduceIte, List.zipIdx_cons, List.zipIdx_nil, List.map_cons, List.map_nil])
  simp only [tbV, tbC, dV, iV, sV] at e ⊢
  simp only [zS, zD, convertA, makeFuncA, Nat.reduceAdd, Nat.reduceSub, Nat.reduceMul, Nat.reduceLT, Nat.reduceLeDiff, Nat.reduceGT, ↓reduceIte, Nat.reduceEqDiff, Nat.reduceBEq, reduceCtorEq, Int.reduceBEq, Int.reduceBNe, Int.reduceLT, Int.reduceLE, Int.reduceGT, Int.reduceGE, zT24, zT22, zT9, zT3, e]
  (refine Eq.trans ?_ rfl; kernel_rfl)
end Go.Proofs.YteenjodhmppgjaaGreatDoor.Am
end
