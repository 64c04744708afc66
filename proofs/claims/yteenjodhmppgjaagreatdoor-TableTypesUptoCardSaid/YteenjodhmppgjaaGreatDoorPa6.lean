/- Part 6 of the proof of the card of TableTypes, second form: no statement of its own; no conditions. -/
import Derived.Test.YteenjodhmppgjaaGreatDoorPa5
set_option linter.unusedSimpArgs false
set_option linter.unusedVariables false
set_option linter.defProp false
set_option linter.unusedSectionVars false
section
/- Subst: the program's answer and the reference's say the same, second part. -/
namespace Go.Proofs.YteenjodhmppgjaaGreatDoor.Am
open Go
/-! ### what is valid -/
theorem valid_ok {x : Lev} (h : x.valid = true) : ∀ y ∈ x.vs, 0 ≤ y.v ∧ 0 ≤ y.p ∧ y.p ≤ 1000 := by
  intro y hy
  obtain ⟨k, hk⟩ := List.getElem?_of_mem hy
  have := okLV_of_valid h hk
  simp [okLV] at this; omega
theorem valid_c {x : Lev} (h : x.valid = true) : 0 ≤ x.c ∧ x.c ≤ 1000 := by
  unfold Lev.valid at h
  simp only [Bool.and_eq_true, decide_eq_true_eq] at h
  exact ⟨h.1.1.1, h.1.1.2⟩
theorem valid_ne {x : Lev} (h : x.valid = true) : x.vs.Pairwise (fun a b => a.v ≠ b.v) := by
  unfold Lev.valid at h
  simp only [Bool.and_eq_true, Option.isNone_iff_eq_none] at h
  have hn := none_iff.1 h.2
  rw [List.pairwise_iff_getElem]
  intro i j hi hj hij e
  have := hn j x.vs[j] (by simp [hj])
  simp only [Nat.zero_add, badLV, Bool.or_eq_false_iff, List.any_eq_false] at this
  have h2 := this.2 x.vs[i] (by
    rw [List.mem_take_iff_getElem]
    exact ⟨i, by omega, rfl⟩)
  simp [e] at h2
/-! ### the most of all -/
theorem le_most (c : Int) : ∀ (l : List LV) (m : Int), c ≤ l.foldl (fun m x => mx m x.p) m ↔ c ≤ m ∨ ∃ y ∈ l, c ≤ y.p
  | [], m => by simp
  | x :: l, m => by
    rw [List.foldl_cons, le_most c l, mx_max]
    simp only [List.mem_cons, exists_eq_or_imp]
    rw [← or_assoc]
    have : c ≤ max m x.p ↔ c ≤ m ∨ c ≤ x.p := by omega
    rw [this]
theorem le_mostI (c : Int) (l : List LV) : c ≤ mostI l ↔ c ≤ -1 ∨ ∃ y ∈ l, c ≤ y.p := le_most c l (-1)
theorem cut_all : ∀ (l : List LV) (c : Int), NN l → 0 ≤ c → l.foldl cutC1 c = if c ≤ mostI l then 0 else c
  | [], c, _, h => by
    have e := le_mostI c []
    rw [List.foldl_nil, if_neg (by
      rw [e]
      rintro (h | ⟨_, h, _⟩)
      · omega
      · cases h)]
  | x :: l, c, h, hc => by
    have hx := h x List.mem_cons_self
    have hl : NN l := fun y hy => h y (List.mem_cons_of_mem _ hy)
    have e := le_mostI c (x :: l)
    have e' := le_mostI c l
    simp only [List.mem_cons, exists_eq_or_imp] at e
    rw [List.foldl_cons]
    have eu : cutC1 c x = if x.p ≥ c then 0 else c := rfl
    rw [eu]
    by_cases h1 : x.p ≥ c
    · rw [if_pos h1, cut_all l 0 hl (by omega), if_pos (e.2 (.inr (.inl h1)))]
      split <;> rfl
    · rw [if_neg h1, cut_all l c hl hc]
      by_cases h2 : c ≤ mostI l
      · rw [if_pos h2, if_pos]
        rw [e]
        rcases e'.1 h2 with h | h
        · exact .inl h
        · exact .inr (.inr h)
      · rw [if_neg h2, if_neg]
        rw [e]
        rintro (h | h | h)
        · omega
        · omega
        · exact h2 (e'.2 (.inr h))
/-! ### what is put for a variable -/
def entR (bys : List Lev) (y : LV) : List LV := (bOf bys y).2.map (moreLV y.p)
def entP (bys : List Lev) (y : LV) : List LV := (sortL (bOf bys y).2).map (moreLV y.p)
theorem bOf_ok {bys : List Lev} {y : LV} (hb : badBy bys y = false) : ((bOf bys y).2.Pairwise fun a b => a.v ≠ b.v) ∧ (∀ z ∈ (bOf bys y).2, 0 ≤ z.p ∧ z.p ≤ 1000) ∧ 0 ≤ (bOf bys y).1 ∧ (bOf bys y).1 ≤ 1000 := by
  unfold badBy at hb
  unfold bOf
  cases h : bys[y.v.toNat]? with
  | none => simp
  | some b =>
    rw [h] at hb
    have hv : b.valid = true := by simpa using hb
    exact ⟨valid_ne hv, fun z hz => (valid_ok hv z hz).2, valid_c hv⟩
theorem more_p {n : Int} {z : LV} (h0 : 0 ≤ n) (h1 : n ≤ 1000) (h2 : 0 ≤ z.p ∧ z.p ≤ 1000) : (moreLV n z).p = z.p + n ∧ (moreLV n z).v = z.v := ⟨wr_id (by omega) (by omega), rfl⟩
theorem map_srt {n : Int} {l : List LV} (h : Srt l) : Srt (l.map (moreLV n)) := by
  unfold Srt at h ⊢
  rw [List.pairwise_map]; exact h
theorem entR_nn {bys : List Lev} {y : LV} (hb : badBy bys y = false) (hy : 0 ≤ y.p ∧ y.p ≤ 1000) : NN (entR bys y) := by
  intro e he
  obtain ⟨z, hz, rfl⟩ := List.mem_map.1 he
  have h := (bOf_ok hb).2.1 z hz
  rw [(more_p hy.1 hy.2 h).1]; omega
theorem ent_mem (bys : List Lev) (y e : LV) : e ∈ entP bys y ↔ e ∈ entR bys y := by
  unfold entP entR
  rw [List.mem_map, List.mem_map]
  simp only [sortL_mem]
theorem entP_nn {bys : List Lev} {y : LV} (hb : badBy bys y = false) (hy : 0 ≤ y.p ∧ y.p ≤ 1000) : NN (entP bys y) := fun e he => entR_nn hb hy e ((ent_mem bys y e).1 he)
theorem entP_srt {bys : List Lev} {y : LV} (hb : badBy bys y = false) : Srt (entP bys y) := map_srt (sortL_srt (bOf_ok hb).1)
/-- The program's fold. -/
theorem foldP (bys : List Lev) : ∀ (ys : List LV) (s : Int × List LV), (∀ y ∈ ys, badBy bys y = false ∧ 0 ≤ y.p ∧ y.p ≤ 1000) → Srt s.2 → NN s.2 →
    Srt (ys.foldl (stepP bys) s).2 ∧ NN (ys.foldl (stepP bys) s).2 ∧ (∀ v, lkp v (ys.foldl (stepP bys) s).2 = max (lkp v s.2) (lkp v (ys.flatMap (entR bys)))) ∧ ∀ n, (ys.foldl (stepP bys) s).1 ≤ n ↔ s.1 ≤ n ∧ ∀ y ∈ ys, (bOf bys y).1 + y.p ≤ n
  | [], s, _, h1, h2 => ⟨h1, h2, fun v => by have := lkp_ge v s.2; simp only [List.foldl_nil, List.flatMap_nil, lkp]; omega, fun n => by simp⟩
  | y :: ys, s, h, h1, h2 => by
    obtain ⟨hb, hy⟩ := h y List.mem_cons_self
    rw [List.foldl_cons]
    obtain ⟨a, b, c, d⟩ := foldP bys ys (stepP bys s y) (fun z hz => h z (List.mem_cons_of_mem _ hz)) (join_srt h1 (entP_srt hb)) (join_nn h2 (entP_nn hb hy))
    refine ⟨a, b, fun v => ?_, fun n => ?_⟩
    · have e1 : lkp v (stepP bys s y).2 = max (lkp v s.2) (lkp v (entR bys y)) := by
        show lkp v (joinL s.2 (entP bys y)) = _
        rw [join_lkp, lkp_congr (ent_mem bys y)]
      rw [c, e1, List.flatMap_cons, lkp_append]; omega
    · have e1 : (stepP bys s y).1 = max s.1 ((bOf bys y).1 + y.p) := by
        have := (bOf_ok hb).2.2
        show mx s.1 (wr ((bOf bys y).1 + y.p)) = _
        rw [mx_max, wr_id (by omega) (by omega)]
      rw [d, e1, Int.max_le]
      simp only [List.mem_cons, forall_eq_or_imp, and_assoc]
/-- The reference's fold. -/
theorem foldR (bys : List Lev) : ∀ (ys : List LV) (s : Int × List LV), (∀ y ∈ ys, 0 ≤ y.v ∧ 0 ≤ y.p ∧ y.p ≤ 1000) →
    if ys.any (badBy bys) = true then foldE (substStep bys) s ys = .inr () else ∃ c, foldE (substStep bys) s ys = .inl (c, s.2 ++ ys.flatMap (entR bys)) ∧ ∀ n, c ≤ n ↔ s.1 ≤ n ∧ ∀ y ∈ ys, y.v < bys.length → (bOf bys y).1 + y.p ≤ n
  | [], s, _ => by
    rw [List.any_nil, if_neg (by simp)]
    exact ⟨s.1, by simp [foldE], by simp⟩
  | y :: ys, s, h => by
    have hy := h y List.mem_cons_self
    have hys : ∀ z ∈ ys, 0 ≤ z.v ∧ 0 ≤ z.p ∧ z.p ≤ 1000 := fun z hz => h z (List.mem_cons_of_mem _ hz)
    rw [List.any_cons]
    simp only [foldE]
    by_cases c : y.v ≥ bys.length
    · have hn : bys[y.v.toNat]? = none := List.getElem?_eq_none (by omega)
      have hb : badBy bys y = false := by unfold badBy; rw [hn]
      have hs : substStep bys s y = .inl (s.1, s.2 ++ [y]) := by unfold substStep; rw [if_pos c]
      have he : entR bys y = [y] := by
        unfold entR bOf; rw [hn]
        simp only [List.map_cons, List.map_nil, moreLV]
        rw [wr_id (by omega) (by omega)]; simp
      rw [hs, hb, Bool.false_or]
      have ih := foldR bys ys (s.1, s.2 ++ [y]) hys
      split
      · rename_i hh; rw [if_pos hh] at ih; exact ih
      · rename_i hh
        rw [if_neg hh] at ih
        obtain ⟨c', e, hc⟩ := ih
        refine ⟨c', by dsimp only; rw [e, List.flatMap_cons, he]; simp, fun n => ?_⟩
        rw [hc]
        simp only [List.mem_cons, forall_eq_or_imp]
        constructor
        · rintro ⟨p, q⟩; exact ⟨p, fun hlt => by omega, q⟩
        · rintro ⟨p, _, q⟩; exact ⟨p, q⟩
    · have hlt : y.v.toNat < bys.length := by omega
      have hg : bys[y.v.toNat]? = some bys[y.v.toNat] := by simp [hlt]
      generalize bys[y.v.toNat] = b at hg
      have hs : substStep bys s y = if b.valid then .inl (mx s.1 (wr (b.c + y.p)), s.2 ++ b.vs.map (moreLV y.p)) else .inr () := by
        unfold substStep; rw [if_neg c, hg]
      have hb : badBy bys y = !b.valid := by unfold badBy; rw [hg]
      rw [hs, hb]
      cases hv : b.valid with
      | false => simp
      | true =>
        have ho : bOf bys y = (b.c, b.vs) := by unfold bOf; rw [hg]
        have he : entR bys y = b.vs.map (moreLV y.p) := by unfold entR; rw [ho]
        have hbc := valid_c hv
        rw [Bool.not_true, Bool.false_or, if_pos rfl]
        have ih := foldR bys ys (mx s.1 (wr (b.c + y.p)), s.2 ++ b.vs.map (moreLV y.p)) hys
        split
        · rename_i hh; rw [if_pos hh] at ih; exact ih
        · rename_i hh
          rw [if_neg hh] at ih
          obtain ⟨c', e, hc⟩ := ih
          refine ⟨c', by dsimp only; rw [e, List.flatMap_cons, he]; simp, fun n => ?_⟩
          rw [hc, mx_max, wr_id (by omega) (by omega), Int.max_le]
          simp only [List.mem_cons, forall_eq_or_imp, ho]
          constructor
          · rintro ⟨⟨p, r⟩, q⟩; exact ⟨p, fun _ => r, q⟩
          · rintro ⟨p, r, q⟩; exact ⟨⟨p, r (by omega)⟩, q⟩
theorem allR_refl {α : Type} (R : α → α → Bool) (h : ∀ x, R x x = true) : ∀ l : List α, allR R l l = true
  | [] => rfl
  | x :: l => by rw [allR, h, allR_refl R h l]; rfl
theorem eqLV_refl (x : LV) : eqLV x x = true := by simp [eqLV]
theorem eqLev_of {x y : Lev} (h1 : x.c = y.c) (h2 : x.vs = y.vs) : eqLev x y = true := by
  unfold eqLev; rw [h1, h2, allR_refl _ eqLV_refl]; simp
/-- Both say the same. -/
theorem subst_same (x : Lev) (bys : List Lev) : (substP x bys).2 = (substR x bys).2 ∧ eqLev (substP x bys).1 (substR x bys).1 = true := by
  unfold substP substR
  cases hv : x.valid with
  | false => exact ⟨rfl, rfl⟩
  | true =>
    rw [if_pos rfl, if_pos rfl]
    have hok := valid_ok hv
    have hR := foldR bys x.vs (x.c, []) hok
    by_cases hb : x.vs.any (badBy bys) = true
    · rw [if_pos hb] at hR
      rw [if_pos hb, hR]; exact ⟨rfl, rfl⟩
    · rw [if_neg hb] at hR
      rw [if_neg hb]
      obtain ⟨cR, e, hcR⟩ := hR
      rw [e]
      dsimp only
      rw [List.nil_append]
      have hgood : ∀ y ∈ x.vs, badBy bys y = false := fun y hy => by simpa using (List.any_eq_false.1 (by simpa using hb)) y hy
      obtain ⟨p1, p2, p3, p4⟩ := foldP bys (sortL x.vs) (x.c, []) (fun y hy => ⟨hgood y ((sortL_mem _ _).1 hy), (hok y ((sortL_mem _ _).1 hy)).2⟩) List.Pairwise.nil (fun _ h => by cases h)
      have hnn : NN (x.vs.flatMap (entR bys)) := by
        intro z hz
        obtain ⟨y, hy, hz⟩ := List.mem_flatMap.1 hz
        exact entR_nn (hgood y hy) (hok y hy).2 z hz
      obtain ⟨q1, q2, q3⟩ := put_all (x.vs.flatMap (entR bys)) [] List.Pairwise.nil (fun _ h => by cases h) hnn
      have hl : ((sortL x.vs).foldl (stepP bys) (x.c, [])).2 = (x.vs.flatMap (entR bys)).foldl putL [] := by
        refine uniq p1 q1 p2 q2 fun v => ?_
        rw [p3, q3, lkp_congr (l := (sortL x.vs).flatMap (entR bys)) (m := x.vs.flatMap (entR bys))]
        intro z
        simp only [List.mem_flatMap, sortL_mem]
      rw [← hl] at q2 q3
      simp only [canonR]
      rw [← hl]
      generalize ((sortL x.vs).foldl (stepP bys) (x.c, [])).2 = l at *
      generalize ((sortL x.vs).foldl (stepP bys) (x.c, [])).1 = cP at *
      have h0 : 0 ≤ cR := by
        have := ((hcR cR).1 (Int.le_refl _)).1
        have := (valid_c hv).1
        omega
      rw [cut_all l cR q2 h0]
      have hRP : cR ≤ cP := by
        rw [hcR]
        have := (p4 cP).1 (Int.le_refl _)
        exact ⟨this.1, fun y hy _ => this.2 y ((sortL_mem _ _).2 hy)⟩
      have hPR : cP ≤ max cR (mostI l) := by
        rw [p4]
        have := (hcR cR).1 (Int.le_refl _)
        refine ⟨by omega, fun y hy => ?_⟩
        have hy' := (sortL_mem _ _).1 hy
        by_cases hlt : y.v < bys.length
        · have := this.2 y hy' hlt; omega
        · have hn : bys[y.v.toNat]? = none := List.getElem?_eq_none (by have := (hok y hy').1; omega)
          have ho : bOf bys y = (0, [⟨y.v, 0⟩]) := by unfold bOf; rw [hn]
          have hmem : y ∈ entR bys y := by
            have := hok y hy'
            unfold entR; rw [ho]
            simp only [List.map_cons, List.map_nil, moreLV, List.mem_singleton]
            rw [wr_id (by omega) (by omega)]; simp
          have h1 : y.p ≤ lkp y.v l := by
            rw [q3]
            have := le_lkp (v := y.v) (List.mem_flatMap.2 ⟨y, hy', hmem⟩ : y ∈ x.vs.flatMap (entR bys)) rfl
            omega
          have h2 : lkp y.v l ≤ mostI l := by
            rw [lkp_le]
            exact ⟨by rw [le_mostI]; exact .inl (by omega), fun z hz _ => by rw [le_mostI]; exact .inr ⟨z, hz, Int.le_refl _⟩⟩
          rw [ho]; dsimp only; omega
      have hc : (if cP ≤ mostI l then 0 else cP) = (if cR ≤ mostI l then 0 else cR) := by
        split <;> split <;> omega
      unfold canonP fitsR
      dsimp only
      rw [hc]
      generalize (if cR ≤ mostI l then 0 else cR) = c
      have hm : mostI l > 1000 ↔ l.any (fun y => decide (y.p > 1000)) = true := by
        have := le_mostI 1001 l
        simp only [List.any_eq_true, decide_eq_true_eq]
        constructor
        · intro h
          rcases this.1 (by omega) with h | ⟨y, hy, h⟩
          · omega
          · exact ⟨y, hy, by omega⟩
        · rintro ⟨y, hy, h⟩
          have := this.2 (.inr ⟨y, hy, by omega⟩)
          omega
      by_cases hbad : c > 1000 ∨ mostI l > 1000 ∨ (l.length : Int) > 8
      · rw [if_pos hbad, if_pos (by rw [← hm]; omega)]; exact ⟨rfl, rfl⟩
      · rw [if_neg hbad, if_neg (by rw [← hm]; omega)]
        exact ⟨rfl, eqLev_of rfl rfl⟩
end Go.Proofs.YteenjodhmppgjaaGreatDoor.Am
end
section
/- TableTypes: the law. -/
namespace Go.Proofs.YteenjodhmppgjaaGreatDoor.Am
open Go
variable (ext : Ext)
theorem mapE_same {α β γ : Type} (f : α → β × Int) (g : α → γ × Int) (R : β → γ → Bool) : ∀ (l : List α), (∀ x ∈ l, (f x).2 = (g x).2 ∧ R (f x).1 (g x).1 = true) →
    (∃ e, mapE f l = .inr e ∧ mapE g l = .inr e) ∨ ∃ r s, mapE f l = .inl r ∧ mapE g l = .inl s ∧ allR R r s = true
  | [], _ => .inr ⟨[], [], rfl, rfl, rfl⟩
  | x :: l, h => by
    obtain ⟨h1, h2⟩ := h x List.mem_cons_self
    simp only [mapE]
    rw [← h1]
    by_cases c : (f x).2 = 0
    · rw [if_pos c, if_pos c]
      rcases mapE_same f g R l (fun y hy => h y (List.mem_cons_of_mem _ hy)) with ⟨e, a, b⟩ | ⟨r, s, a, b, d⟩
      · rw [a, b]; exact .inl ⟨e, rfl, rfl⟩
      · rw [a, b]; exact .inr ⟨_, _, rfl, rfl, by rw [allR, h2, d]; rfl⟩
    · rw [if_neg c, if_neg c]; exact .inl ⟨_, rfl, rfl⟩
theorem bytes_refl (s : ByteArray) : (s.toList == s.toList) = true := by simp
theorem eqTm_zTm : eqTm zTm zTm = true := by rw [eqTm_eq]; simp [zTm, Tm.op, Tm.n, Tm.s, Tm.u, Tm.l, allR]
theorem setL_same {f g : Lev → Lev × Int} (h : ∀ u, (f u).2 = (g u).2 ∧ eqLev (f u).1 (g u).1 = true) : ∀ (N : Nat) (x : Tm), x.sz ≤ N → (setL f x).2 = (setL g x).2 ∧ eqTm (setL f x).1 (setL g x).1 = true
  | 0, x, hN => by have := x.sz_pos; omega
  | N + 1, x, hN => by
    rw [setL_eq f, setL_eq g]
    rcases mapE_same f g eqLev x.u (fun u _ => h u) with ⟨e, a, b⟩ | ⟨r, s, a, b, d⟩
    · rw [a, b]; exact ⟨rfl, eqTm_zTm⟩
    · rw [a, b]
      dsimp only
      rcases mapE_same (setL f) (setL g) eqTm x.l (fun y hy => setL_same h N y (by have := Tm.sz_lt hy; omega)) with ⟨e, a', b'⟩ | ⟨r', s', a', b', d'⟩
      · rw [a', b']; exact ⟨rfl, eqTm_zTm⟩
      · rw [a', b']
        refine ⟨rfl, ?_⟩
        rw [eqTm_eq]
        simp [Tm.op, Tm.n, Tm.s, Tm.u, Tm.l, d, d']
theorem mapE_sum {α β : Type} (f : α → β × Int) (g : α → Nat) (g' : β → Nat) : ∀ (l : List α) (r : List β), mapE f l = .inl r → (∀ x ∈ l, g' (f x).1 ≤ 9 * g x) → (r.map g').sum ≤ 9 * (l.map g).sum
  | [], r, h, _ => by cases h; simp
  | x :: l, r, h, hx => by
    simp only [mapE] at h
    split at h
    · split at h
      · rename_i r' e
        cases h
        have := mapE_sum f g g' l r' e fun y hy => hx y (List.mem_cons_of_mem _ hy)
        have := hx x List.mem_cons_self
        simp only [List.map_cons, List.sum_cons]; omega
      · cases h
    · cases h
theorem zTm_sz : zTm.sz = 1 := by rw [Tm.sz_eq]; rfl
theorem setL_sz {f : Lev → Lev × Int} (h : ∀ u, (f u).1.sz ≤ 9) : ∀ (N : Nat) (x : Tm), x.sz ≤ N → (setL f x).1.sz ≤ 9 * x.sz
  | 0, x, hN => by have := x.sz_pos; omega
  | N + 1, x, hN => by
    have hp := x.sz_pos
    rw [setL_eq f]
    split
    · rw [zTm_sz]; omega
    · rename_i u' e
      split
      · rw [zTm_sz]; omega
      · rename_i l' e'
        have h1 := mapE_sum f Lev.sz Lev.sz x.u u' e fun y _ => by have := h y; have := Lev.sz_pos y; omega
        have h2 := mapE_sum (setL f) Tm.sz Tm.sz x.l l' e' fun y hy => setL_sz h N y (by have := Tm.sz_lt hy; omega)
        have hs := Tm.sz_eq (.mk x.op x.n x.s u' true l' true)
        have hs' : (Tm.mk x.op x.n x.s u' true l' true).sz = 1 + (u'.map Lev.sz).sum + (l'.map Tm.sz).sum := hs
        have hx := x.sz_eq
        dsimp only
        omega
theorem canonP_len (c : Int) (l : List LV) (z : Bool) : (canonP c l z).1.vs.length ≤ 8 := by
  unfold canonP
  by_cases h : (if c ≤ mostI l then 0 else c) > 1000 ∨ mostI l > 1000 ∨ (l.length : Int) > 8
  · rw [if_pos h]; simp [zLev]
  · rw [if_neg h]; show l.length ≤ 8; omega
theorem substP_sz (bys : List Lev) (u : Lev) : (substP u bys).1.sz ≤ 9 := by
  unfold substP Lev.sz
  split
  · split
    · simp [zLev]
    · have := canonP_len ((sortL u.vs).foldl (stepP bys) (u.c, [])).1 ((sortL u.vs).foldl (stepP bys) (u.c, [])).2 u.vs.isEmpty
      omega
  · simp [zLev]
def Dc.sm (x : Dc) : Prop := x.type.sz < 2 ^ 29 ∧ x.body.sz < 2 ^ 29
theorem thing_sz (x : Tb) (s : ByteArray) (h : ∀ d ∈ x.ds, d.sm) : (thing x s).1.type.sz < 2 ^ 29 ∧ (thing x s).1.body.sz < 2 ^ 29 := by
  unfold thing
  split
  · exact ⟨by show zTm.sz < _; rw [zTm_sz]; omega, by show zTm.sz < _; rw [zTm_sz]; omega⟩
  · rename_i d e
    split
    · exact h d (List.mem_of_find?_eq_some e)
    · exact ⟨by show zTm.sz < _; rw [zTm_sz]; omega, by show zTm.sz < _; rw [zTm_sz]; omega⟩
theorem law8 (hx : ∀ n, n ≠ 14 → n ≠ 121 → ext n = none) (hs : Sorts ext) (r14 : run Go.Proofs.Tryz.prog ext (.call 14 [] []) = some (.ret [bV true] []))
    (x : Tb) (s : ByteArray) (z : Bool) (l : List Lev) (hok : x.ok) (hsm : ∀ d ∈ x.ds, d.sm) (hl : l.length < 2 ^ 50) : run Go.Proofs.Tryz.prog ext (.call 8 [tbV x, sV s, dV (listD z 2 (l.map levD))] []) = some (.ret [bV true] []) := by
  have H : ∀ n, n ≠ 14 ∧ n ≠ 121 → ext n = none := fun n h => hx n h.1 h.2
  obtain ⟨b1, r13⟩ := heavy13 ext (H _ (by decide)) (H _ (by decide)) (H _ (by decide)) (H _ (by decide)) (H _ (by decide)) (H _ (by decide)) x hok
  obtain ⟨b2, r31⟩ := levels31 ext (H _ (by decide)) z l hl
  by_cases c1 : b1 = true ∨ (s.size : Int) > 200 ∨ b2 = true
  · exact heavy8 ext (H _ (by decide)) x s _ b1 b2 r13 r31 r14 c1
  · have hb1 : b1 = false := by cases b1; rfl; exact absurd (.inl rfl) c1
    have hb2 : b2 = false := by cases b2; rfl; exact absurd (.inr (.inr rfl)) c1
    subst hb1 hb2
    have hts := thing_sz x s hsm
    have h78 := constant78 ext (H _ (by decide)) (H _ (by decide)) (H _ (by decide)) (H _ (by decide)) x s hok.1
    have h80 := thing80 ext (H _ (by decide)) (H _ (by decide)) x s hok.1
    have fP := fun u => subst84 ext (H _ (by decide)) (H _ (by decide)) (H _ (by decide)) (H _ (by decide)) (H _ (by decide)) (H _ (by decide)) (H _ (by decide)) hs (H _ (by decide)) (H _ (by decide)) (H _ (by decide)) (H _ (by decide)) (H _ (by decide)) u z l
    have fR := fun u => subst85 ext (H _ (by decide)) (H _ (by decide)) (H _ (by decide)) (H _ (by decide)) (H _ (by decide)) (H _ (by decide)) u z l
    have sP := fun (t : Tm) (ht : t.sz < 2 ^ 29) => set79 ext (H _ (by decide)) (fun u => substP u l) _ fP t.sz t (Nat.le_refl _) ht
    have sR := fun (t : Tm) (ht : t.sz < 2 ^ 29) => set81 ext (H _ (by decide)) (fun u => substR u l) _ fR t.sz t (Nat.le_refl _) ht
    have r32 := type32 ext (H _ (by decide)) (fun u => substP u l) x s z l h78 (sP _ hts.1)
    have r33 := type33 ext (H _ (by decide)) (fun u => substR u l) x s z l h80 (sR _ hts.1)
    have r34 := body34 ext (H _ (by decide)) (fun u => substP u l) x s z l h78 (sP _ hts.2)
    have r35 := body35 ext (H _ (by decide)) (fun u => substR u l) x s z l h80 (sR _ hts.2)
    have r22 := find22 ext (H _ (by decide)) (H _ (by decide)) (H _ (by decide)) x s hok.1
    have r37 := find37 ext (H _ (by decide)) x s hok.1
    have same := fun t => setL_same (fun u => subst_same u l) t.sz t (Nat.le_refl _)
    have r36 := fun (a b : Tm) (h : a.sz < 2 ^ 50) => eq36 ext (H _ (by decide)) (H _ (by decide)) (H _ (by decide)) (H _ (by decide)) a.sz a b (Nat.le_refl _) h
    have small := fun (t : Tm) (ht : t.sz < 2 ^ 29) => setL_sz (fun u => substP_sz l u) t.sz t (Nat.le_refl _)
    have hT : (typeOf (fun u => substP u l) x s l.length).2 = (typeOf (fun u => substR u l) x s l.length).2 ∧ eqTm (typeOf (fun u => substP u l) x s l.length).1 (typeOf (fun u => substR u l) x s l.length).1 = true ∧ (typeOf (fun u => substP u l) x s l.length).1.sz < 2 ^ 50 := by
      unfold typeOf
      split
      · split
        · have := same (thing x s).1.type
          have := small _ hts.1
          exact ⟨(same _).1, (same _).2, by have := hts.1; omega⟩
        · exact ⟨rfl, eqTm_zTm, by show zTm.sz < _; rw [zTm_sz]; omega⟩
      · exact ⟨rfl, eqTm_zTm, by show zTm.sz < _; rw [zTm_sz]; omega⟩
    have hB : (bodyOf (fun u => substP u l) x s l.length).2 = (bodyOf (fun u => substR u l) x s l.length).2 ∧ eqTm (bodyOf (fun u => substP u l) x s l.length).1 (bodyOf (fun u => substR u l) x s l.length).1 = true ∧ (bodyOf (fun u => substP u l) x s l.length).1.sz < 2 ^ 50 := by
      unfold bodyOf
      split
      · split
        · split
          · have h2 := small _ hts.2
            refine ⟨?_, (same _).2, by have := hts.2; dsimp only; omega⟩
            dsimp only
            rw [(same (thing x s).1.body).1]
          · exact ⟨rfl, eqTm_zTm, by show zTm.sz < _; rw [zTm_sz]; omega⟩
        · exact ⟨rfl, eqTm_zTm, by show zTm.sz < _; rw [zTm_sz]; omega⟩
      · exact ⟨rfl, eqTm_zTm, by show zTm.sz < _; rw [zTm_sz]; omega⟩
    have e36 := r36 _ (typeOf (fun u => substR u l) x s l.length).1 hT.2.2
    rw [hT.2.1] at e36
    have e36' := r36 _ (bodyOf (fun u => substR u l) x s l.length).1 hB.2.2
    rw [hB.2.1] at e36'
    rw [hT.1] at r32
    rw [hB.1] at r34
    exact light8 ext (H _ (by decide)) x s _ _ _ _ _ _ _ _ _ r13 r31 r14 (fun h => c1 (.inr (.inl h))) r32 r33 r34 r35 e36 e36' r22 r37
end Go.Proofs.YteenjodhmppgjaaGreatDoor.Am
end
