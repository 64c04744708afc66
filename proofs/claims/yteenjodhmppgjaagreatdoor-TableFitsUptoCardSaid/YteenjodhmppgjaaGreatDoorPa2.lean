/- Part 2 of the proof of the card of TableFits, second form: no statement of its own; no conditions. -/
import Derived.Test.YteenjodhmppgjaaGreatDoorPa1
import Derived.MapKept
import Derived.Laws.RangeString
import Derived.Orders
set_option linter.unusedSimpArgs false
set_option linter.unusedVariables false
set_option linter.defProp false
set_option linter.unusedSectionVars false
section
/- The abstract machine: each operation is sound, fourth part: new slices, append. -/
namespace Go.Proofs.YteenjodhmppgjaaGreatDoor.Am
open Go
section
variable {P : Program} {w : World} {F : Nat → Prop} {β : Int → Nat} {look : Look}
theorem fill_row {N : Nat → Prop} {k : Nat} : ∀ {idx : List Nat} {us : List Value} {els : List (List D)} (n : Nat) (cur : Array Value), All2 (fun (u : Value) x => All2 (RepD w N) u.cells.toList x) us els → idx.length = us.length →
    inOrder k n (idx.zip els) = true → (n + us.length) * k ≤ cur.size → ∃ out, Instr.fill (fun i => some (i * k, k)) cur (idx.zip us) = some out ∧ out.toList = cur.toList.take (n * k) ++ us.flatMap (fun u => u.cells.toList) ++ cur.toList.drop ((n + us.length) * k) ∧ (∀ l ∈ els, l.length = k) := by
  intro idx
  induction idx with
  | nil =>
    intro us els n cur h hl _ _
    have : us = [] := List.eq_nil_of_length_eq_zero (by simpa using hl.symm)
    subst this
    cases h
    exact ⟨cur, rfl, by simp, by simp⟩
  | cons i idx ih =>
    intro us els n cur h hl ho hsz
    cases h with
    | nil => simp at hl
    | @cons u x us els h1 h2 =>
      simp only [List.zip_cons_cons, inOrder, Bool.and_eq_true, decide_eq_true_eq] at ho
      obtain ⟨⟨rfl, hk⟩, ho⟩ := ho
      have hcs : u.cells.size = k := by have := h1.length; simp at this; omega
      have e1 : (i + (us.length + 1)) * k = i * k + k + us.length * k := by rw [Nat.add_mul, Nat.add_mul]; omega
      simp only [List.length_cons] at hsz
      have hstep := fill_step (place := fun i => some (i * k, k)) (cur := cur) (i := i) (off := i * k) (n := k) (v := u) (rest := idx.zip us) rfl hcs (by omega)
      have hul : u.cells.toList.length = k := by simpa using hcs
      have hcl : cur.toList.length = cur.size := Array.length_toList
      have e2 : (i + 1 + us.length) * k = i * k + k + us.length * k := by rw [Nat.add_mul, Nat.add_mul]; omega
      obtain ⟨out, h3, h4, h5⟩ := ih (i + 1) (cur.toList.take (i * k) ++ u.cells.toList ++ cur.toList.drop (i * k + k)).toArray h2 (by simpa using hl) ho (by simp; omega)
      refine ⟨out, by rw [List.zip_cons_cons, hstep]; exact h3, ?_, ?_⟩
      · have h4' : out.toList = (cur.toList.take (i * k) ++ u.cells.toList ++ cur.toList.drop (i * k + k)).take ((i + 1) * k) ++ us.flatMap (fun u => u.cells.toList) ++ (cur.toList.take (i * k) ++ u.cells.toList ++ cur.toList.drop (i * k + k)).drop ((i + 1 + us.length) * k) := h4
        rw [h4']
        have t1 : (cur.toList.take (i * k) ++ u.cells.toList ++ cur.toList.drop (i * k + k)).take ((i + 1) * k) = cur.toList.take (i * k) ++ u.cells.toList := by
          rw [Nat.add_mul, Nat.one_mul]
          exact List.take_left' (by simp; omega)
        have t2 : (cur.toList.take (i * k) ++ u.cells.toList ++ cur.toList.drop (i * k + k)).drop ((i + 1 + us.length) * k) = cur.toList.drop ((i + (us.length + 1)) * k) := by
          rw [e2, e1, List.drop_append]
          have : (cur.toList.take (i * k) ++ u.cells.toList).length = i * k + k := by simp; omega
          rw [this, List.drop_eq_nil_of_le (by omega), List.nil_append, List.drop_drop]
          congr 1; omega
        rw [t1, t2]
        simp only [List.flatMap_cons, List.append_assoc, List.length_cons]
      · intro l hl'
        rcases List.mem_cons.1 hl' with rfl | hl'
        · exact hk
        · exact h5 l hl'
theorem flat_rows {N : Nat → Prop} {k : Nat} (hk : 0 < k) : ∀ {us : List Value} {els : List (List D)}, All2 (fun (u : Value) x => All2 (RepD w N) u.cells.toList x) us els → (∀ l ∈ els, l.length = k) → Flat w N k els (us.flatMap fun u => u.cells.toList) := by
  intro us els h
  induction h with
  | nil => intro _; exact ⟨hk, by simp, by simp, by simp⟩
  | @cons u x us els h1 _ ih =>
    intro hl
    have hx := hl x List.mem_cons_self
    have := Flat.append (els := [x]) (news := u.cells.toList) (w := w) (N := N) (k := k) ⟨hk, by simpa using hx, by have := h1.length; simp; simp at this; omega, fun i l j y a b => by
      cases i with
      | succ i => simp at a
      | zero =>
        simp at a; subst a
        obtain ⟨v, p, q⟩ := h1.get_right b
        exact ⟨v, by simpa using p, q⟩⟩ (ih (fun l hm => hl l (List.mem_cons_of_mem _ hm)))
    simpa using this
theorem size_zero {t : TypeId} {i : TypeInfo} (hi : P.info? t = some i) {n : Nat} (h : sizeT P t = some n) : i.size = n := by simpa [sizeT, hi] using h
theorem bytes_of {t : TypeId} {i : TypeInfo} (hi : P.info? t = some i) {n : Nat} (h : bytesT P t = some n) : i.bytes = n := by simpa [bytesT, hi] using h
theorem buildSlice_runs (hS : Sim w F β look) {slot : Nat} (hs : look slot = none) {t : TypeId} {len : Nat} {parts : List (Nat × Operand)} {ρc : Operand → Value} {ρ : Operand → V} (hE : ∀ y, RVs w F β look (ρc y) (ρ y)) {e : Eff}
    (h : buildSliceA P look slot t len (parts.map fun p => (p.1, ρ p.2)) = some e) :
    Runs w F β look e ((do let v ← Instr.buildSlice t len (parts.toArray.map fun (i, x) => (i, ρc x)); pure (.value v) : Sem Next).run P w) := by
  unfold buildSliceA at h
  cases he : elemT P t with
  | none => simp [he] at h
  | some el =>
    cases hsz : sizeT P el with
    | none => simp [he, hsz] at h
    | some k =>
      simp only [he, hsz] at h
      cases hd : toDss look ((parts.map fun p => (p.1, ρ p.2)).map (·.2)) with
      | none => rw [hd] at h; cases h
      | some p =>
        obtain ⟨els, own⟩ := p
        simp only [hd] at h
        split at h
        case isFalse => cases h
        rename_i hh
        obtain ⟨hlen, hk, hbig, ho, hz⟩ := hh
        cases h
        have hparts : All2 (RVs w F β look) (parts.map fun p => ρc p.2) ((parts.map fun p => (p.1, ρ p.2)).map (·.2)) := by
          clear hd ho hlen
          induction parts with
          | nil => exact .nil
          | cons p l ih => exact .cons (hE p.2) ih
        have hown := toDss_arr hd
        obtain ⟨hS1, st1⟩ := sim_kills (F := F) own hS (kills_ok hown)
        have hrows := toDss_rep hS hparts hd (wide_kills hS hown)
        obtain ⟨zs, hzs⟩ := Option.isSome_iff_exists.1 hz
        obtain ⟨i, z, hi, hz', hzrun, hzall⟩ := zero_rep (P := P) (w := w) (N := Nn w F β look) (β := β) (sh := shL look) hzs
        have hplen : parts.length = len := by simpa using hlen
        have hm1 : (parts.map fun p => (p.1, ρ p.2)).map (·.1) = parts.map (·.1) := by simp [Function.comp_def]
        have ho' : inOrder k 0 ((parts.map (·.1)).zip els) = true := by rw [hm1] at ho; exact ho
        obtain ⟨out, h1, h2, h3⟩ := fill_row (idx := parts.map (·.1)) 0 ((Array.range (len * k)).map fun j => ((if len * k = 0 then #[] else z.cells))[j % (if len * k = 0 then #[] else z.cells).size]!) hrows (by simp) ho' (by simp [hplen])
        have hflat := flat_rows hk hrows h3
        have hout : out.toList = (parts.map fun p => ρc p.2).flatMap fun u => u.cells.toList := by
          rw [h2]
          simp [hplen]
        have hnot : slot ∉ own := by
          intro hm; obtain ⟨_, _, hx⟩ := hown slot hm; rw [hs] at hx; cases hx
        have hs1 : updL look (kills own) slot = none := by rw [updL_kills, if_neg hnot, hs]
        have hcont : ROc w (Nn w F β (updL look (kills own))) β (shL (updL look (kills own))) out 0 (.arr k els) := by
          rw [← hout] at hflat
          exact hflat.content (Nat.zero_le _) (by rw [List.drop_zero, List.take_length])
        obtain ⟨g1, g2, g3, g4, gb, g5⟩ := sim_new (w' := w.alloc (.cells out el)) hS1 hs1 (o := .arr k els) rfl rfl rfl rfl rfl hcont
        have hel : els.length = len := by have := hrows.length; simp [hplen] at this; exact this.symm
        have hol : out.size = len * k := by have := hflat.2.2.1; rw [← hout, hel] at this; simpa using this
        refine ⟨_, _, ⟨by rw [updL_append]; exact g1, by rw [updL_append]; exact st1.trans g2⟩, .inl ⟨.slice (some ⟨w.heap.size, 0, none⟩) len len, ?_, ?_⟩⟩
        · have hzip : (parts.map (·.1)).zip (parts.map fun p => ρc p.2) = parts.map fun p => (p.1, ρc p.2) := by rw [List.zip_map']
          rw [hzip] at h1
          have hnb : ¬ (2 ^ 24 < len * k) := by omega
          by_cases h0 : len * k = 0
          · have hz0 : ∀ f : Nat → Value, (Array.range 0).map f = #[] := fun f => by simp
            simp only [h0, if_true, hz0] at h1
            simp [Instr.buildSlice, run_underlying (run_elem he), run_sizeOf hsz, h0, newRow]
            rw [hz0, h1]; rfl
          · simp only [h0, if_false] at h1
            simp [Instr.buildSlice, run_underlying (run_elem he), run_sizeOf hsz, hnb, h0, newRow, hzrun]
            rw [h1]; rfl
        · rw [updL_append]
          exact .inl ⟨k, els.length, len, by simpa [updL, shO] using g3, by rw [g4, gb, hel], by omega, el, out.size, by rw [g4]; simpa using g5, by rw [gb]; omega⟩
theorem makeSlice_runs (hS : Sim w F β look) {slot : Nat} (hs : look slot = none) {t : TypeId} {l c : Value} {vl vc : V} (hl : RVs w F β look l vl) (hc : RVs w F β look c vc) {e : Eff} (h : makeSliceA P slot t vl vc = some e) :
    Runs w F β look e ((do let v ← Instr.makeSlice t l c; pure (.value v) : Sem Next).run P w) := by
  unfold makeSliceA at h
  cases he : elemT P t with
  | none => simp [he] at h
  | some el =>
    simp only [he] at h
    split at h
    case h_2 => cases h
    rename_i k b zs ln cn h1 h2 h3 h4 h5
    cases hd : toDs (fun _ => none) zs with
    | none => rw [hd] at h; cases h
    | some p =>
      obtain ⟨ds, q⟩ := p
      simp only [hd] at h
      split at h
      case isFalse => cases h
      rename_i hh
      obtain ⟨a1, a2, a3, a4, a5, a6⟩ := hh
      cases h
      obtain ⟨kl, rfl, rfl⟩ := num_rep hl h4
      obtain ⟨kc, rfl, rfl⟩ := num_rep hc h5
      obtain ⟨i, z, hi, hz, _, hzall⟩ := zero_rep (P := P) (w := w) (N := Nn w F β look) (β := β) (sh := shL look) h3
      have hrun := run_make (P := P) w t el i z (run_elem he) hi hz kl kc ln cn a1 a2 (by rw [bytes_of hi h2]; exact a4) a3
      have hds : All2 (RepD w (Nn w F β look)) z.cells.toList ds := by
        have key : ∀ (zs : List C) (vs : List Value) (ds : List D) (q : List Nat), All2 (RK w (Nn w F β look) β (shL look)) vs zs → toDs (fun _ => none) zs = some (ds, q) → All2 (RepD w (Nn w F β look)) vs ds := by
          intro zs
          induction zs with
          | nil => intro vs ds q h hd; cases h; simp only [toDs, Option.some.injEq, Prod.mk.injEq] at hd; obtain ⟨rfl, _⟩ := hd; exact .nil
          | cons c cs ih =>
            intro vs ds q h hd
            cases h with
            | cons h1 h2 =>
              simp only [toDs] at hd
              cases e1 : toD (fun _ => none) c with
              | none => simp [e1] at hd
              | some p =>
                obtain ⟨d, a⟩ := p
                cases e2 : toDs (fun _ => none) cs with
                | none => simp [e1, e2] at hd
                | some r =>
                  obtain ⟨ds', b'⟩ := r
                  simp only [e1, e2, Option.some.injEq, Prod.mk.injEq] at hd
                  obtain ⟨rfl, _⟩ := hd
                  refine .cons ?_ (ih _ _ _ h2 e2)
                  cases c with
                  | d y => simp only [toD, Option.some.injEq, Prod.mk.injEq] at e1; obtain ⟨rfl, _⟩ := e1; exact h1.2
                  | own id => simp [toD] at e1
                  | _ => cases e1
        exact key _ _ _ _ hzall hd
      have hzk : z.cells.size = k := by have := hds.length; simp at this; omega
      have hisz := size_zero hi h1
      have hlt : ∀ m j, m < ln.toNat → j < k → m * k + j < cn.toNat * k := by
        intro m j hm hj
        have : (m + 1) * k ≤ cn.toNat * k := Nat.mul_le_mul_right k (by omega)
        rw [Nat.succ_mul] at this; omega
      have hcont : ROc w (Nn w F β look) β (shL look) (madeCells z.cells (cn.toNat * i.size)) 0 (.arr k (List.replicate ln.toNat ds)) := by
        refine ⟨a5, fun l hl => by rw [(List.mem_replicate.1 hl).2]; exact a6, ?_, fun m l j x p q => ?_⟩
        · rw [size_madeCells, hisz, List.length_replicate, Nat.zero_add]; exact Nat.mul_le_mul_right k (by omega)
        · rw [List.getElem?_replicate] at p
          split at p
          case isFalse => cases p
          rename_i hm
          cases p
          have hj : j < k := by
            rcases Nat.lt_or_ge j k with h | h
            · exact h
            · rw [List.getElem?_eq_none (by omega)] at q; cases q
          obtain ⟨v, p1, p2⟩ := hds.get_right q
          refine ⟨v, ?_, p2⟩
          rw [Nat.zero_add]
          have e1 : (m * k + j) % z.cells.size = j := by rw [hzk, Nat.mul_comm, Nat.mul_add_mod]; exact Nat.mod_eq_of_lt hj
          have hjz : j < z.cells.size := by omega
          have e3 : z.cells[j]? = some v := by simpa using p1
          have e4 : z.cells[j]! = v := by simp [hjz] at e3 ⊢; exact e3
          simp only [madeCells, Array.getElem?_map]
          rw [Array.getElem?_range, if_pos (by rw [hisz]; exact hlt m j hm hj)]
          simp only [Option.map_some, e1, e4]
      obtain ⟨g1, g2, g3, g4, gb, g5⟩ := sim_new (w' := w.alloc (.cells (madeCells z.cells (cn.toNat * i.size)) el)) hS hs (o := .arr k (List.replicate ln.toNat ds)) rfl rfl rfl rfl rfl hcont
      refine ⟨_, _, ⟨g1, g2⟩, .inl ⟨.slice (some ⟨w.heap.size, 0, none⟩) ln.toNat cn.toNat, by rw [Sem.run_bind, hrun]; rfl, ?_⟩⟩
      exact .inl ⟨k, ln.toNat, cn.toNat, by simpa [updL, shO] using g3, by rw [g4, gb], by omega, el, _, by rw [g4]; simpa using g5, by rw [gb, size_madeCells, hisz, Nat.zero_add]; exact Nat.le_refl _⟩
end
end Go.Proofs.YteenjodhmppgjaaGreatDoor.Am
end
section
/- The abstract machine: append; all operations but calls together. -/
namespace Go.Proofs.YteenjodhmppgjaaGreatDoor.Am
open Go
section
variable {P : Program} {w : World} {F : Nat → Prop} {β : Int → Nat} {look : Look}
theorem added_arr {k : Nat} {v : V} {new : List (List D)} {o2 : List Nat} (h : addedA look k v = some (new, o2)) : ∀ id ∈ o2, ∃ k els, look id = some (.arr k els) := by
  unfold addedA at h
  split at h
  · split at h
    · cases h; simp
    · cases h
  · cases h; simp
  · rename_i id
    split at h
    · rename_i k' els hl
      split at h
      · cases h
        intro j hj
        simp at hj
        subst hj
        exact ⟨_, _, hl⟩
      · cases h
    · split at h
      · cases h; simp
      · cases h
    · cases h
  · cases h
/-- A slice that is only read, with its elements in memory. -/
theorem stk_flat (hS : Sim w F β look) {id k : Nat} {els : List (List D)} {cur : Option Nat} {root : Bool} {v : Value} (hl : look id = some (.stk k els cur root)) (h : RC w (Nn w F β look) β (shL look) v (.own id)) :
    ∃ cap vals ty, v = .slice (some ⟨β id, bs β id, none⟩) els.length cap ∧ els.length ≤ cap ∧ w.heap[β id]? = some (.cells vals ty (0, 0)) ∧ bs β id + cap * k ≤ vals.size ∧ 0 < k ∧ bs β id ≤ vals.size ∧ Flat w (Nn w F β look) k els ((vals.toList.drop (bs β id)).take (els.length * k)) := by
  have hs : shL look id = some (.stk k els.length) := by simp [shL, hl, shO]
  rcases h with ⟨k', n, cap, h1, _⟩ | ⟨h1, _⟩ | ⟨k', n, cap, h1, rfl, h2, e, sz, h3, h4⟩
  · rw [hs] at h1; cases h1
  · rw [hs] at h1; cases h1
  · rw [hs] at h1
    cases h1
    obtain ⟨_, _, hr⟩ := hS.live id _ hl rfl
    obtain ⟨vals, ty, hb, hc⟩ := (RO_iff rfl).1 hr
    have hsz : vals.size = sz := by have := shape_of_cells hb; rw [h3] at this; cases this; rfl
    have hf : ROc w (Nn w F β look) β (shL look) vals (bs β id) (.arr k els) := hc
    refine ⟨cap, vals, ty, rfl, h2, hb, by rw [hsz]; exact h4, hc.1, by omega, ROc.flat hf⟩
/-- The elements that are added lie in memory. -/
theorem added_rep (hS : Sim w F β look) {k : Nat} (hk : 0 < k) {x : Value} {v : V} (hx : RVs w F β look x v) {new : List (List D)} {o2 : List Nat} (h : addedA look k v = some (new, o2)) {N' : Nat → Prop} (hw : Wide (Nn w F β look) N' β o2) :
    (new = [] ∧ ∃ a cap, x = .slice a 0 cap) ∨ ∃ g o cap news, x = .slice (some ⟨g, o, none⟩) new.length cap ∧ Flat w N' k new news ∧ At w g o news := by
  have fl : ∀ {x : Value} {els : List (List D)}, RepD w N' x (.s k els) → (els = [] ∧ ∃ a cap, x = .slice a 0 cap) ∨ ∃ g o cap news, x = .slice (some ⟨g, o, none⟩) els.length cap ∧ Flat w N' k els news ∧ At w g o news := by
    intro x els hr
    rcases RepD.inv hr with ⟨rfl, a, cap, rfl⟩ | ⟨b, o, cap, c, rfl, _⟩
    · exact .inl ⟨rfl, a, cap, rfl⟩
    · obtain ⟨_, hf⟩ := RepD.flat hk hr
      rcases hf with rfl | ⟨g, o', news, e, hg, h1, h2, _⟩
      · exact .inl ⟨rfl, _, cap, rfl⟩
      · cases e
        exact .inr ⟨b, o, cap, news, rfl, h1, h2⟩
  unfold addedA at h
  split at h
  · rename_i k' els
    split at h
    · rename_i hh
      cases h
      have hr : RepD w N' x (.s k' new) := RepD.mono (keep_wide hw.all) hx
      rcases hh with rfl | rfl
      · exact fl hr
      · rcases RepD.inv hr with ⟨_, a, cap, rfl⟩ | ⟨b, o, cap, c, rfl, _⟩
        · exact .inl ⟨rfl, a, cap, rfl⟩
        · exact .inl ⟨rfl, _, cap, rfl⟩
    · cases h
  · cases h
    exact .inl ⟨rfl, _, _, (rv_v hx).1⟩
  · rename_i id
    split at h
    · rename_i k' els hl
      split at h
      · rename_i hh
        subst hh
        cases h
        exact fl (arr_rep hS hl hx hw.all (hw.own id (by simp)))
      · cases h
    · rename_i k' els cur root hl
      split at h
      · rename_i hh
        subst hh
        cases h
        obtain ⟨cap, vals, ty, rfl, _, hb, _, _, _, hf⟩ := stk_flat hS hl hx
        exact .inr ⟨_, _, cap, _, rfl, hf.mono (keep_wide hw.all), (At.of_drop hb _).take _⟩
      · cases h
    · cases h
  · cases h
theorem append_nothing {t ty : TypeId} {el n cap : Nat} {a0 a : Option Addr} {c : Nat} (ht : P.underlying t = some (.slice el)) {k : Nat} (hs : sizeT P el = some k) (hn : n ≤ cap) :
    (Builtin.append_ #[t, t] ty #[.slice a0 n cap, .slice a 0 c]).run P w = .ok (.slice a0 n cap) w := by
  cases a0 <;> cases a <;> simp [Builtin.append_, run_underlying ht, run_sizeOf hs, Builtin.lenOf, hn, Builtin.firstCells, loadCells, loadCellsFrom, storeCells]
theorem append_room {t ty el e' : TypeId} {i : TypeInfo} (ht : P.underlying t = some (.slice el)) (hi : P.info? el = some i) {g z sLen sCap : Nat} {cur : Array Value} (hg : w.heap[g]? = some (.cells cur e' (0, 0)))
    {a : Addr} {m c : Nat} {news : List Value} (hl : news.length = m * i.size) (hnews : ∀ j u, news[j]? = some u → w.cell? (a.add j) = some u) (h1 : ∀ u ∈ news, u.oneCell' = true)
    (hroom : sLen + m ≤ sCap) (hfit : z + sLen * i.size + news.length ≤ cur.size) :
    (Builtin.append_ #[t, t] ty #[.slice (some ⟨g, z, none⟩) sLen sCap, .slice (some a) m c]).run P w =
      .ok (.slice (some ⟨g, z, none⟩) (sLen + m) sCap) (w.setRow g (cur.toList.take (z + sLen * i.size) ++ news ++ cur.toList.drop (z + sLen * i.size + news.length)).toArray) := by
  have hf := run_firstCells_some (P := P) w i.size m a m c news hl hnews
  have hst := run_storeCells_at P g (z + sLen * i.size) e' news 0 cur w hg (by simpa using hfit) h1
  simp only [Nat.add_zero] at hst
  simp [Builtin.append_, run_underlying ht, sizeOf, typeInfo, hi, Builtin.lenOf, hroom, hf, Addr.add_lit, hst]
theorem append_runs (hS : Sim w F β look) {slot : Nat} (hs : look slot = none) {types : Array TypeId} {ty : TypeId} {xs : List Value} {vs : List V} (hx : All2 (RVs w F β look) xs vs) {e : Eff} (h : appendA P look slot types.toList vs = some e) :
    Runs w F β look e ((do let v ← Builtin.append_ types ty xs.toArray; pure (.value v) : Sem Next).run P w) := by
  unfold appendA at h
  split at h
  case h_2 => cases h
  rename_i t u s x htypes
  by_cases htu : t = u
  case neg => rw [if_pos htu] at h; cases h
  subst htu
  rw [if_neg (by simp)] at h
  have hty : types = #[t, t] := by rw [← Array.toArray_toList (xs := types), htypes]
  subst hty
  cases hx with
  | @cons vs0 _ _ _ hs0 hx1 =>
  cases hx1 with
  | @cons vx _ _ _ hx0 hx2 =>
  cases hx2
  cases he : elemT P t with
  | none => simp [he] at h
  | some el =>
    simp only [he] at h
    cases hsz : sizeT P el with
    | none => simp [hsz] at h
    | some k =>
      cases hby : bytesT P el with
      | none => simp [hsz, hby] at h
      | some b =>
        simp only [hsz, hby] at h
        split at h
        case isFalse => cases h
        rename_i hh
        obtain ⟨hk, hz⟩ := hh
        obtain ⟨zs, hzs, hzl⟩ := Option.map_eq_some_iff.1 hz
        obtain ⟨i, z, hi, hz', _, hzall⟩ := zero_rep (P := P) (w := w) (N := Nn w F β look) (β := β) (sh := shL look) hzs
        have hzk : z.cells.size = k := by have := hzall.length; simp at this; omega
        have hisz := size_zero hi hsz
        have hiby := bytes_of hi hby
        have hu := run_elem he
        cases ha : addedA look k x with
        | none => simp [ha] at h
        | some p =>
          obtain ⟨new, o2⟩ := p
          simp only [ha] at h
          have ho2 := added_arr ha
          have hwide := wide_kills hS ho2
          have hadd := added_rep hS hk hx0 ha hwide
          obtain ⟨hS1, st1⟩ := sim_kills (F := F) o2 hS (kills_ok ho2)
          have hnots : slot ∉ o2 := by
            intro hm; obtain ⟨_, _, hq⟩ := ho2 slot hm; rw [hs] at hq; cases hq
          have hs1 : updL look (kills o2) slot = none := by rw [updL_kills, if_neg hnots, hs]
          split at h
          · obtain rfl := rv_nil hs0
            cases new with
            | nil =>
              cases h
              have hx' : ∃ a c, vx = .slice a 0 c := by
                rcases hadd with ⟨_, a, c, rfl⟩ | ⟨g, o, c, news, rfl, _⟩
                · exact ⟨a, c, rfl⟩
                · exact ⟨_, c, rfl⟩
              obtain ⟨a, c, rfl⟩ := hx'
              exact Runs.pure hS (x := .slice none 0 0) (by rw [Sem.run_bind, append_nothing hu hsz (Nat.le_refl 0)]; rfl) (RepD.v rfl)
            | cons n0 new =>
              dsimp only at h
              split at h
              case isFalse => cases h
              rename_i hb
              cases h
              rcases hadd with ⟨h0, _⟩ | ⟨g, o, c, news, rfl, hfl, hat⟩
              · cases h0
              · have hnl : news.length = (n0 :: new).length * i.size := by rw [hisz]; exact hfl.2.2.1
                generalize hN : (n0 :: new).length = n at *
                have hrun := run_append_nil (P := P) w t ty el i z hu hi hz' ⟨g, o, none⟩ n c news hnl (fun j v hj => by rw [add_at]; exact hat j v hj) (by rw [← hN]; simp) (by omega) (by rw [hiby]; omega)
                have hge := grownCap_ge w n 0 el
                generalize grownCap w n 0 el = cap' at *
                have hcont : ROc w (Nn w F β (updL look (kills o2))) β (shL (updL look (kills o2))) (news.toArray ++ Builtin.zeroCells z.cells (cap' - n)) 0 (.arr k (n0 :: new)) :=
                  hfl.content (Nat.zero_le _) (by rw [List.drop_zero, Array.toList_append]; exact List.take_left)
                obtain ⟨g1, g2, g3, g4, gb, g5⟩ := sim_new (w' := w.drew.alloc (.cells (news.toArray ++ Builtin.zeroCells z.cells (cap' - n)) el)) hS1 hs1 (o := .arr k (n0 :: new)) rfl rfl rfl rfl rfl hcont
                refine ⟨_, _, ⟨by rw [updL_append]; exact g1, by rw [updL_append]; exact st1.trans g2⟩, .inl ⟨_, by rw [Sem.run_bind, hrun]; rfl, ?_⟩⟩
                rw [updL_append]
                refine .inl ⟨k, n, cap', by rw [← hN]; exact g3, by rw [g4, gb], hge, el, news.length + (Builtin.zeroCells z.cells (cap' - n)).size, by rw [g4]; simpa using g5, ?_⟩
                rw [gb, Nat.zero_add, size_zeroCells, hnl, hisz, hzk, ← Nat.add_mul]
                exact Nat.mul_le_mul_right k (by omega)
          · rename_i id
            cases hl : look id with
            | none => simp [hl] at h
            | some q =>
              cases q with
              | arr k' els =>
                simp only [hl] at h
                split at h
                case isFalse => cases h
                rename_i hh
                obtain ⟨rfl, hb, h63, hno⟩ := hh
                cases h
                have hno' : id ∉ o2 := by simpa using hno
                have hl1 : updL look (kills o2) id = some (.arr k' els) := by rw [updL_kills, if_neg hno', hl]
                obtain ⟨cap, rfl, hcap, el', sz, hsh, hcs⟩ := own_rep hl hs0
                obtain ⟨hbl, hbF, hRO⟩ := hS1.live id _ hl1 rfl
                obtain ⟨vals, ty', hbk, hc⟩ := (RO_iff rfl).1 hRO
                have hvs : vals.size = sz := by have := shape_of_cells hbk; rw [hsh] at this; cases this; rfl
                have hfl0 := ROc.flat hc
                have hupd : updL look (kills o2 ++ [(id, O.gone), (slot, O.arr k' (els ++ new))]) = upd1 (upd1 (updL look (kills o2)) id .gone) slot (.arr k' (els ++ new)) := by rw [updL_append]; rfl
                have same : ∀ (w' : World) (vals' : Array Value), w'.heap[β id]? = some (.cells vals' ty' (0, 0)) → vals'.size = vals.size → w'.heap.size = w.heap.size → (∀ b, b ≠ β id → w'.heap[b]? = w.heap[b]?) → w'.os = w.os → w'.tape = w.tape → w'.output = w.output →
                    ROc w (Nn w F β (updL look (kills o2))) β (shL (updL look (kills o2))) vals' (bs β id) (.arr k' (els ++ new)) → els.length + new.length ≤ cap →
                    (Builtin.append_ #[t, t] ty #[.slice (some ⟨β id, bs β id, none⟩) els.length cap, vx]).run P w = .ok (.slice (some ⟨β id, bs β id, none⟩) (els.length + new.length) cap) w' →
                    Runs w F β look ⟨.val (.c (.own slot)), kills o2 ++ [(id, .gone), (slot, .arr k' (els ++ new))], o2 ++ [id]⟩ ((do let v ← Builtin.append_ #[t, t] ty #[.slice (some ⟨β id, bs β id, none⟩) els.length cap, vx]; pure (.value v) : Sem Next).run P w) := by
                  intro w' vals' p1 p2 p3 p4 p5 p6 p7 p8 p9 p10
                  obtain ⟨g1, g2, g3, g4, gb⟩ := sim_move (w' := w') hS1 hl1 hs1 (o := .arr k' (els ++ new)) rfl p1 p3 p4 p5 p6 p7 p8
                  refine ⟨w', _, ⟨by rw [hupd]; exact g1, by rw [hupd]; exact st1.trans g2⟩, .inl ⟨_, by rw [Sem.run_bind, p10]; rfl, ?_⟩⟩
                  rw [hupd]
                  refine .inl ⟨k', els.length + new.length, cap, by rw [g3]; simp [shO], by rw [g4, gb], p9, ty', vals'.size, by rw [g4]; simpa using shape_of_cells p1, by rw [gb, p2, hvs]; exact hcs⟩
                rcases hadd with ⟨rfl, a, c, rfl⟩ | ⟨g, o, c, news, rfl, hfl, hat⟩
                · refine same w vals hbk rfl rfl (fun _ _ => rfl) rfl rfl rfl (by simpa using hc) (by simpa using hcap) ?_
                  have := append_nothing (P := P) (w := w) (ty := ty) (a0 := some ⟨β id, bs β id, none⟩) (a := a) (c := c) hu hsz hcap
                  simpa using this
                · have hnl : news.length = new.length * i.size := by rw [hisz]; exact hfl.2.2.1
                  by_cases hroom : els.length + new.length ≤ cap
                  · have hfit : bs β id + els.length * k' + news.length ≤ vals.size := by
                      have : (els.length + new.length) * k' ≤ cap * k' := Nat.mul_le_mul_right k' hroom
                      rw [Nat.add_mul] at this
                      rw [hnl, hisz]; omega
                    have hvl : vals.toList.length = vals.size := Array.length_toList
                    have hrun := append_room (P := P) (ty := ty) hu hi hbk (a := ⟨g, o, none⟩) (m := new.length) (c := c) hnl (fun j v hj => by rw [add_at]; exact hat j v hj) (fun u hu => oneCell_of (hfl.cell u hu)) hroom (by rw [hisz]; exact hfit)
                    rw [hisz] at hrun
                    refine same _ _ (setRow_heap w _ _ _ _ _ hbk) (by simp; omega) (setRow_size _ _ _) (fun b hb => setRow_other _ _ _ _ hb) rfl rfl rfl ?_ hroom hrun
                    have := hfl0.append hfl
                    refine this.content (by simp; omega) ?_
                    have e1 : (vals.toList.take (bs β id + els.length * k')).drop (bs β id) = (vals.toList.drop (bs β id)).take (els.length * k') := by rw [List.drop_take]; congr 1; omega
                    have e2 : bs β id ≤ (vals.toList.take (bs β id + els.length * k')).length := by simp; omega
                    rw [List.append_assoc, List.drop_append_of_le_length e2, e1, ← List.append_assoc]
                    exact List.take_left
                  · have holds : ∀ j v, ((vals.toList.drop (bs β id)).take (els.length * k'))[j]? = some v → w.cell? ((⟨β id, bs β id, none⟩ : Addr).add j) = some v := by
                      intro j v hj
                      rw [add_at]
                      exact ((At.of_drop hbk _).take _) j v hj
                    have hrun := run_append_grow (P := P) w t ty el i z hu hi hz' ⟨β id, bs β id, none⟩ els.length cap ((vals.toList.drop (bs β id)).take (els.length * k')) (by rw [hisz]; exact hfl0.2.2.1) holds ⟨g, o, none⟩ new.length c news hnl (fun j v hj => by rw [add_at]; exact hat j v hj) (by omega) (by omega) (growslice_fits (by omega) (by rw [hiby]; exact hb))
                    have hge := grownCap_ge w (els.length + new.length) cap el
                    generalize grownCap w (els.length + new.length) cap el = cap' at *
                    obtain ⟨hS2, st2⟩ := sim_kill (F := F) hS1 (id := id) ⟨.arr k' els.length, by simp [shL, hl1, shO], by simp⟩
                    have hs2 : upd1 (updL look (kills o2)) id .gone slot = none := by
                      have : slot ≠ id := by rintro rfl; rw [hs] at hl; cases hl
                      simp [upd1, this, hs1]
                    have hcont : ROc w (Nn w F β (upd1 (updL look (kills o2)) id .gone)) β (shL (upd1 (updL look (kills o2)) id .gone)) (((vals.toList.drop (bs β id)).take (els.length * k')).toArray ++ news.toArray ++ Builtin.zeroCells z.cells (cap' - (els.length + new.length))) 0 (.arr k' (els ++ new)) := by
                      have := (hfl0.append hfl).mono st2.keep
                      refine this.content (Nat.zero_le _) ?_
                      rw [List.drop_zero, Array.toList_append, Array.toList_append]
                      exact List.take_left
                    obtain ⟨g1, g2, g3, g4, gb, g5⟩ := sim_new (w' := w.drew.alloc (.cells (((vals.toList.drop (bs β id)).take (els.length * k')).toArray ++ news.toArray ++ Builtin.zeroCells z.cells (cap' - (els.length + new.length))) el)) hS2 hs2 (o := .arr k' (els ++ new)) rfl rfl rfl rfl rfl hcont
                    refine ⟨_, _, ⟨by rw [hupd]; exact g1, by rw [hupd]; exact st1.trans (st2.trans g2)⟩, .inl ⟨_, by rw [Sem.run_bind, hrun]; rfl, ?_⟩⟩
                    rw [hupd]
                    refine .inl ⟨k', els.length + new.length, cap', by rw [g3]; simp [shO], by rw [g4, gb], hge, el, min (els.length * k') (vals.size - bs β id) + news.length + (Builtin.zeroCells z.cells (cap' - (els.length + new.length))).size, by rw [g4]; simpa using g5, ?_⟩
                    have hmin : min (els.length * k') (vals.size - bs β id) = els.length * k' := by have := hfl0.2.2.1; simpa using this
                    rw [gb, Nat.zero_add, hmin, size_zeroCells, hnl, hisz, hzk, ← Nat.add_mul, ← Nat.add_mul]
                    exact Nat.mul_le_mul_right k' (by omega)
              | stk k' els cur root =>
                cases root with
                | false => simp [hl] at h
                | true =>
                simp only [hl] at h
                split at h
                case isFalse => cases h
                rename_i hh
                obtain ⟨rfl, hb, h63, hno, hpos⟩ := hh
                have hno' : id ∉ o2 := by simpa using hno
                have hl1 : updL look (kills o2) id = some (.stk k' els cur true) := by rw [updL_kills, if_neg hno', hl]
                obtain ⟨cap, vals, ty', rfl, hcap, hbk, hcs, hk0, hzl, hfl0⟩ := stk_flat hS hl hs0
                have key : ∀ (look2 : Look) (upd0 : List (Nat × O)) (rd0 : List Nat), Sim w F β look2 → St (fun _ => True) w β (updL look (kills o2)) w β look2 → look2 id = some (.stk k' els cur true) → (∀ c, cur = some c → isStk (look2 c) = false) → look2 slot = none →
                    updL look (upd0 ++ [(id, .stk k' els (some slot) true), (slot, .stk k' (els ++ new) none false)]) = upd1 (upd1 look2 id (.stk k' els (some slot) true)) slot (.stk k' (els ++ new) none false) →
                    Runs w F β look ⟨.val (.c (.own slot)), upd0 ++ [(id, .stk k' els (some slot) true), (slot, .stk k' (els ++ new) none false)], rd0⟩ ((do let v ← Builtin.append_ #[t, t] ty #[.slice (some ⟨β id, bs β id, none⟩) els.length cap, vx]; pure (.value v) : Sem Next).run P w) := by
                  intro look2 upd0 rd0 hS2 st2 hl2 hc2 hs2 hupd
                  rcases hadd with ⟨rfl, _⟩ | ⟨g, o, c, news, rfl, hfl, hat⟩
                  · simp at hpos
                  · have hnl : news.length = new.length * i.size := by rw [hisz]; exact hfl.2.2.1
                    have hflc : Flat w (Nn w F β look2) k' (els ++ new) ((vals.toList.drop (bs β id)).take (els.length * k') ++ news) := ((hfl0.mono st1.keep).append hfl).mono st2.keep
                    by_cases hroom : els.length + new.length ≤ cap
                    · have hfit : bs β id + els.length * k' + news.length ≤ vals.size := by
                        have : (els.length + new.length) * k' ≤ cap * k' := Nat.mul_le_mul_right k' hroom
                        rw [Nat.add_mul] at this
                        rw [hnl, hisz]; omega
                      have hvl : vals.toList.length = vals.size := Array.length_toList
                      have hrun := append_room (P := P) (ty := ty) hu hi hbk (a := ⟨g, o, none⟩) (m := new.length) (c := c) hnl (fun j v hj => by rw [add_at]; exact hat j v hj) (fun u hu => oneCell_of (hfl.cell u hu)) hroom (by rw [hisz]; exact hfit)
                      rw [hisz] at hrun
                      have hcont : ROc w (Nn w F β look2) β (shL look2) (vals.toList.take (bs β id + els.length * k') ++ news ++ vals.toList.drop (bs β id + els.length * k' + news.length)).toArray (bs β id) (.arr k' (els ++ new)) := by
                        refine hflc.content (by simp; omega) ?_
                        have e1 : (vals.toList.take (bs β id + els.length * k')).drop (bs β id) = (vals.toList.drop (bs β id)).take (els.length * k') := by rw [List.drop_take]; congr 1; omega
                        have e2 : bs β id ≤ (vals.toList.take (bs β id + els.length * k')).length := by simp; omega
                        rw [List.append_assoc, List.drop_append_of_le_length e2, e1, ← List.append_assoc]
                        exact List.take_left
                      have hvs : (vals.toList.take (bs β id + els.length * k') ++ news ++ vals.toList.drop (bs β id + els.length * k' + news.length)).toArray.size = vals.size := by simp; omega
                      generalize (vals.toList.take (bs β id + els.length * k') ++ news ++ vals.toList.drop (bs β id + els.length * k' + news.length)).toArray = vals' at hrun hcont hvs
                      have hset := setRow_heap w (β id) vals vals' ty' _ hbk
                      obtain ⟨g1, g2, g3, g4, g5⟩ := sim_share (w' := w.setRow (β id) vals') hS2 hl2 hc2 hs2 hbk hset hvs (setRow_size _ _ _) (fun b hb => setRow_other _ _ _ _ hb) rfl rfl rfl hcont
                      refine ⟨_, _, ⟨by rw [hupd]; exact g1, by rw [hupd]; exact st1.trans (st2.trans g2)⟩, .inl ⟨_, by rw [Sem.run_bind, hrun]; rfl, ?_⟩⟩
                      rw [hupd]
                      refine .inr (.inr ⟨k', els.length + new.length, cap, by rw [g3]; simp, by rw [g4, g5], hroom, ty', vals.size, by rw [g4, shape_of_cells hset, hvs], by rw [g5]; exact hcs⟩)
                    · have holds : ∀ j v, ((vals.toList.drop (bs β id)).take (els.length * k'))[j]? = some v → w.cell? ((⟨β id, bs β id, none⟩ : Addr).add j) = some v := by
                        intro j v hj
                        rw [add_at]
                        exact ((At.of_drop hbk _).take _) j v hj
                      have hrun := run_append_grow (P := P) w t ty el i z hu hi hz' ⟨β id, bs β id, none⟩ els.length cap ((vals.toList.drop (bs β id)).take (els.length * k')) (by rw [hisz]; exact hfl0.2.2.1) holds ⟨g, o, none⟩ new.length c news hnl (fun j v hj => by rw [add_at]; exact hat j v hj) (by omega) (by omega) (growslice_fits (by omega) (by rw [hiby]; exact hb))
                      have hge := grownCap_ge w (els.length + new.length) cap el
                      generalize grownCap w (els.length + new.length) cap el = cap' at *
                      obtain ⟨hS3, st3⟩ := sim_cur hS2 hl2 hc2 (some slot)
                      have hs3 : upd1 look2 id (.stk k' els (some slot) true) slot = none := by
                        have : slot ≠ id := by rintro rfl; rw [hs] at hl; cases hl
                        simp [upd1, this, hs2]
                      have hcont : ROc w (Nn w F β (upd1 look2 id (.stk k' els (some slot) true))) β (shL (upd1 look2 id (.stk k' els (some slot) true))) (((vals.toList.drop (bs β id)).take (els.length * k')).toArray ++ news.toArray ++ Builtin.zeroCells z.cells (cap' - (els.length + new.length))) 0 (.arr k' (els ++ new)) := by
                        refine (hflc.mono st3.keep).content (Nat.zero_le _) ?_
                        rw [List.drop_zero, Array.toList_append, Array.toList_append]
                        exact List.take_left
                      obtain ⟨g1, g2, g3, g4, gb, g5⟩ := sim_new (w' := w.drew.alloc (.cells (((vals.toList.drop (bs β id)).take (els.length * k')).toArray ++ news.toArray ++ Builtin.zeroCells z.cells (cap' - (els.length + new.length))) el)) hS3 hs3 (o := .stk k' (els ++ new) none false) rfl rfl rfl rfl rfl hcont
                      refine ⟨_, _, ⟨by rw [hupd]; exact g1, by rw [hupd]; exact st1.trans (st2.trans (st3.trans g2))⟩, .inl ⟨_, by rw [Sem.run_bind, hrun]; rfl, ?_⟩⟩
                      rw [hupd]
                      refine .inr (.inr ⟨k', els.length + new.length, cap', by rw [g3]; simp [shO], by rw [g4, gb], hge, el, min (els.length * k') (vals.size - bs β id) + news.length + (Builtin.zeroCells z.cells (cap' - (els.length + new.length))).size, by rw [g4]; simpa using g5, ?_⟩)
                      have hmin : min (els.length * k') (vals.size - bs β id) = els.length * k' := by have := hfl0.2.2.1; simpa using this
                      rw [gb, Nat.zero_add, hmin, size_zeroCells, hnl, hisz, hzk, ← Nat.add_mul, ← Nat.add_mul]
                      exact Nat.mul_le_mul_right k' (by omega)
                cases cur with
                | none =>
                  dsimp only at h
                  cases h
                  exact key (updL look (kills o2)) (kills o2) _ hS1 (St.refl _ _ _ _) hl1 (fun c hc => by cases hc) hs1 (by rw [updL_append]; rfl)
                | some c =>
                  dsimp only at h
                  cases hlc : look c with
                  | none => simp [hlc] at h
                  | some oc =>
                    cases oc with
                    | stk kc ec curc rc =>
                      cases curc with
                      | some _ => simp [hlc] at h
                      | none =>
                        cases rc with
                        | true => simp [hlc] at h
                        | false =>
                          simp only [hlc] at h
                          split at h
                          case isFalse => cases h
                          rename_i hcc
                          obtain ⟨hco, hci⟩ := hcc
                          cases h
                          have hco' : c ∉ o2 := by simpa using hco
                          have hlc1 : updL look (kills o2) c = some (.stk kc ec none false) := by rw [updL_kills, if_neg hco', hlc]
                          obtain ⟨hS2, st2⟩ := sim_kill (F := F) hS1 (id := c) ⟨.stk kc ec.length, by simp [shL, hlc1, shO], by simp, by simp⟩
                          have hcs2 : c ≠ slot := by rintro rfl; rw [hs] at hlc; cases hlc
                          have := key (upd1 (updL look (kills o2)) c .gone) (kills o2 ++ [(c, .gone)]) (o2 ++ [c, id] ++ addedR look x) hS2 st2 (by unfold upd1; rw [if_neg (fun e => hci e.symm)]; exact hl1) (fun c' hc' => by cases hc'; simp [upd1, isStk]) (by simp [upd1, hcs2.symm, hs1]) (by rw [List.append_assoc, updL_append]; rfl)
                          rw [List.append_assoc] at this
                          exact this
                    | _ => simp [hlc] at h
              | _ => simp [hl] at h
          · cases h
end
end Go.Proofs.YteenjodhmppgjaaGreatDoor.Am
end
section
/- The abstract machine: maps with scalar keys and values, iterators over texts. -/
namespace Go.Proofs.YteenjodhmppgjaaGreatDoor.Am
open Go
section
variable {P : Program} {w : World} {F : Nat → Prop} {β : Int → Nat} {look : Look}
theorem scal_rep {x : Value} {v : V} {y : Value} (h : RVs w F β look x v) (hs : scal v = some y) : x = y ∧ cellB y = true := by
  unfold scal at hs
  split at hs
  · cases hs; exact rv_v h
  · cases hs
theorem isKey_of {d : TypeDesc} {x : Value} (h : isKeyB d x = true) : MapKept.IsKey d x := by
  cases d <;> cases x <;> simp_all [isKeyB, MapKept.IsKey]
theorem keyA_eq {t : TypeId} {x : Value} {d : TypeDesc} {e : TypeId} (h : keyA P t x = some (d, e)) : ∃ k, P.underlying t = some (.map k e) ∧ P.underlying k = some d ∧ MapKept.IsKey d x := by
  unfold keyA at h
  cases hu : P.underlying t with
  | none => simp [hu] at h
  | some td =>
    cases td <;> simp only [hu] at h <;> try (cases h; done)
    rename_i k e'
    cases hk : P.underlying k with
    | none => simp [hk] at h
    | some d' =>
      simp only [hk] at h
      split at h
      · rename_i hb
        simp only [Option.some.injEq, Prod.mk.injEq] at h
        obtain ⟨rfl, rfl⟩ := h
        exact ⟨k, rfl, hk, isKey_of hb⟩
      · cases h
theorem set_raw (hS : Sim w F β look) {id : Nat} {x x' : Obj} (hid : look id = some (.raw x)) (hn : noCells x = true) (hn' : noCells x' = true) :
    Good w F β look [(id, .raw x')] { w with heap := w.heap.setIfInBounds (β id) x' } β := by
  have hb : w.heap[β id]? = some x := (hS.live id _ hid rfl).2.2
  obtain ⟨h1, h2⟩ := MapKept.heap_set (o' := x') hb
  obtain ⟨g1, g2⟩ := sim_setR (w' := { w with heap := w.heap.setIfInBounds (β id) x' }) hS hid hn hn' h1 (by simp) (fun b hb => h2 b hb) rfl rfl rfl
  exact ⟨g1, g2⟩
theorem makeMap_runs (hS : Sim w F β look) {slot : Nat} (hs : look slot = none) {t : TypeId} {r : Option Value} {v : Option V} (hr : match r, v with | some y, some v => RVs w F β look y v | none, none => True | _, _ => False) {e : Eff} (h : makeMapA P slot t v = some e) :
    Runs w F β look e ((do let v ← Instr.makeMap t r; pure (.value v) : Sem Next).run P w) := by
  obtain ⟨g1, g2, g3, g4⟩ := sim_newR (w' := w.alloc (.map #[] 0)) hS hs (x := .map #[] 0) rfl rfl rfl rfl
  unfold makeMapA at h
  cases v with
  | none =>
    cases r with
    | some y => exact hr.elim
    | none =>
      cases h
      exact ⟨_, _, ⟨g1, g2⟩, .inl ⟨.map (some w.heap.size), by simp [Instr.makeMap], ⟨g3, by rw [g4]; rfl⟩⟩⟩
  | some v =>
    cases r with
    | none => exact hr.elim
    | some y =>
      dsimp only at h
      split at h
      · rename_i n k el hn hu
        cases h
        obtain ⟨kk, rfl, _⟩ := num_rep hr hn
        exact ⟨_, _, ⟨g1, g2⟩, .inl ⟨.map (some w.heap.size), by simp [Instr.makeMap, run_underlying hu, asInt, asIntOf], ⟨g3, by rw [g4]; rfl⟩⟩⟩
      · cases h
theorem mapUpdate_runs (hS : Sim w F β look) {t : TypeId} {m k x : Value} {vm vk vx : V} (hm : RVs w F β look m vm) (hk : RVs w F β look k vk) (hx : RVs w F β look x vx) {e : Eff} (h : mapUpdateA P look t vm vk vx = some e) :
    Runs w F β look e ((do Instr.mapUpdate t m k x; pure .skip : Sem Next).run P w) := by
  unfold mapUpdateA at h
  split at h
  case h_2 => cases h
  rename_i id key val h1 h2
  obtain ⟨rfl, hkc⟩ := scal_rep hk h1
  obtain ⟨rfl, hvc⟩ := scal_rep hx h2
  obtain ⟨hsh, rfl⟩ := hm
  cases hka : keyA P t k with
  | none => simp [hka] at h
  | some p =>
    obtain ⟨d, el⟩ := p
    obtain ⟨kt, u1, u2, u3⟩ := keyA_eq hka
    simp only [hka] at h
    split at h
    case h_2 => cases h
    rename_i es clock hl
    have hb : w.heap[β id]? = some (.map es clock) := (hS.live id _ hl rfl).2.2
    have hrv : rawV true (β id) = .map (some (β id)) := rfl
    split at h
    · rename_i i v0 hf
      split at h
      · rename_i old ho
        split at h
        · rename_i hold
          have hold : old.key = k := by
            simp only [Bool.and_eq_true, beq_iff_eq] at hold
            obtain ⟨r, h4, h5⟩ := MapKept.sameNow_of_keys u3 (isKey_of hold.1)
            rw [h4] at hold
            exact (h5.1 (by simpa using hold.2)).symm
          cases h
          refine ⟨_, _, set_raw hS hl rfl rfl, .inr ⟨?_, rfl⟩⟩
          have h3 := MapKept.run_keyThatStays (P := P) (w := w) u3
          simp [Instr.mapUpdate, hrv, run_underlying u1, MapKept.run_getObj_map hb, MapKept.run_checkKey u2 u3, MapKept.run_findKey u2 hf, ho, hold, h3, MapKept.run_setObj_map _ hb, Result.andThen]
        · cases h
      · cases h
    · rename_i hf
      cases h
      refine ⟨_, _, set_raw hS hl rfl rfl, .inr ⟨?_, rfl⟩⟩
      simp [Instr.mapUpdate, hrv, run_underlying u1, MapKept.run_getObj_map hb, MapKept.run_checkKey u2 u3, MapKept.run_findKey u2 hf, MapKept.run_setObj_map _ hb, Result.andThen]
    · cases h
theorem pair_rep {ok : Bool} {x : Value} {b : Bool} (hx : cellB x = true) : RVs w F β look (if ok then .tuple #[x, .bool b] else x) (pairV ok x b) := by
  unfold pairV
  cases ok with
  | false => exact RepD.v hx
  | true =>
    refine ⟨#[x, .bool b], rfl, .cons ?_ (.cons ?_ .nil)⟩
    · exact ⟨_, rfl, RepD.v hx⟩
    · exact ⟨_, rfl, RepD.v rfl⟩
theorem lookup_runs (hS : Sim w F β look) {t : TypeId} {m k : Value} {vm vk : V} {ok : Bool} (hm : RVs w F β look m vm) (hk : RVs w F β look k vk) {e : Eff} (h : lookupA P look t vm vk ok = some e) :
    Runs w F β look e ((do let v ← Instr.lookup t m k ok; pure (.value v) : Sem Next).run P w) := by
  unfold lookupA at h
  split at h
  case h_2 => cases h
  rename_i id key h1
  obtain ⟨rfl, hkc⟩ := scal_rep hk h1
  obtain ⟨hsh, rfl⟩ := hm
  cases hka : keyA P t k with
  | none => simp [hka] at h
  | some p =>
    obtain ⟨d, el⟩ := p
    obtain ⟨kt, u1, u2, u3⟩ := keyA_eq hka
    simp only [hka] at h
    split at h
    case h_2 => cases h
    rename_i es clock hl
    have hb : w.heap[β id]? = some (.map es clock) := (hS.live id _ hl rfl).2.2
    have hrv : rawV true (β id) = .map (some (β id)) := rfl
    split at h
    · rename_i i v0 hf
      split at h
      · rename_i hv
        refine Runs.eff hS h ?_ (pair_rep hv)
        simp [Instr.lookup, hrv, run_underlying u1, MapKept.run_getObj_map hb, MapKept.run_checkKey u2 u3, MapKept.run_findKey u2 hf, Result.andThen]
      · cases h
    · rename_i hf
      split at h
      · rename_i z hz
        have hrun : (zeroValue el).run P w = .ok z w ∧ cellB z = true := by
          unfold zero1 at hz
          cases hi : P.info? el with
          | none => simp [hi] at hz
          | some inf =>
            simp only [hi] at hz
            cases hzz : inf.zero with
            | none => simp [hzz] at hz
            | some z' =>
              simp only [hzz] at hz
              split at hz
              · rename_i hc; cases hz; exact ⟨by simp [zeroValue, typeInfo, hi, hzz], hc⟩
              · cases hz
        obtain ⟨hrun, hzc⟩ := hrun
        refine Runs.eff hS h ?_ (pair_rep hzc)
        simp [Instr.lookup, hrv, run_underlying u1, MapKept.run_getObj_map hb, MapKept.run_checkKey u2 u3, MapKept.run_findKey u2 hf, hrun, Result.andThen]
      · cases h
    · cases h
theorem range_runs (hS : Sim w F β look) {slot : Nat} (hs : look slot = none) {t : TypeId} {x : Value} {v : V} (hx : RVs w F β look x v) {e : Eff} (h : rangeA P slot t v = some e) :
    Runs w F β look e ((do let v ← Instr.range t x; pure (.value v) : Sem Next).run P w) := by
  unfold rangeA at h
  split at h
  case h_2 => cases h
  rename_i s hu h1
  cases h
  obtain ⟨rfl, _⟩ := scal_rep hx h1
  obtain ⟨g1, g2, g3, g4⟩ := sim_newR (w' := w.alloc (.stringIter s 0)) hS hs (x := .stringIter s 0) rfl rfl rfl rfl
  exact ⟨_, _, ⟨g1, g2⟩, .inl ⟨.pointer (some ⟨w.heap.size, 0, none⟩), by simp [run_range_string _ _ _ hu]; rfl, ⟨g3, by rw [g4]; rfl⟩⟩⟩
theorem next_runs (hS : Sim w F β look) {it : Value} {v : V} {isS : Bool} {ty : TypeId} (hx : RVs w F β look it v) {e : Eff} (h : nextA look v isS = some e) :
    Runs w F β look e ((do let v ← Instr.next it isS ty; pure (.value v) : Sem Next).run P w) := by
  unfold nextA at h
  split at h
  case h_2 => cases h
  rename_i id
  obtain ⟨hsh, rfl⟩ := hx
  split at h
  case h_2 => cases h
  rename_i s pos hl
  have hb : w.heap[β id]? = some (.stringIter s pos) := (hS.live id _ hl rfl).2.2
  have hrv : rawV false (β id) = .pointer (some ⟨β id, 0, none⟩) := rfl
  split at h
  · rename_i hp
    cases h
    refine ⟨_, _, set_raw hS hl rfl rfl, .inl ⟨.tuple #[.bool true, .int .i64 pos, .int .i32 (Utf8.decode s pos).1], ?_, ?_⟩⟩
    · simp [Instr.next, hrv, getObj, setObj, Sem.run, hb, hp, goInt]
    · refine ⟨_, rfl, .cons ?_ (.cons ?_ (.cons ?_ .nil))⟩
      · exact ⟨_, rfl, RepD.v rfl⟩
      · exact ⟨_, rfl, RepD.v rfl⟩
      · exact ⟨_, rfl, RepD.v rfl⟩
  · rename_i hp
    refine Runs.eff hS h (x := .tuple #[.bool false]) ?_ ?_
    · simp [Instr.next, hrv, getObj, Sem.run, hb, hp]
    · exact ⟨_, rfl, .cons ⟨_, rfl, RepD.v rfl⟩ .nil⟩
end
end Go.Proofs.YteenjodhmppgjaaGreatDoor.Am
end
section
/- The abstract machine: all operations but calls of functions. -/
namespace Go.Proofs.YteenjodhmppgjaaGreatDoor.Am
open Go
section
variable {P : Program} {w : World} {F : Nat → Prop} {β : Int → Nat} {look : Look}
theorem args_rep {ρc : Operand → Value} {ρ : Operand → V} (hE : ∀ y, RVs w F β look (ρc y) (ρ y)) : ∀ l : List Operand, All2 (RVs w F β look) (l.map ρc) (l.map ρ)
  | [] => .nil
  | y :: l => .cons (hE y) (args_rep hE l)
theorem toArr {α γ : Type} (f : α → γ) (a : Array α) : (a.toList.map f).toArray = a.map f := by obtain ⟨l⟩ := a; simp
def isCallV : Op → Bool
  | .call { callee := .value _, .. } => true
  | _ => false
theorem builtin_runs (hS : Sim w F β look) {slot : Nat} (hs : look slot = none) {b : Builtin} {types : Array TypeId} {ty : TypeId} {consts : Array Bool} {xs : List Value} {vs : List V} (hx : All2 (RVs w F β look) xs vs) {e : Eff}
    (h : builtinA P look slot b types.toList vs = some e) : Runs w F β look e ((builtin b types ty consts xs.toArray).run P w) := by
  unfold builtinA at h
  cases b <;> dsimp only at h <;> try (cases h; done)
  case append => exact append_runs hS hs hx h
  case max => exact max_runs hS hx h
  case min => exact min_runs hS hx h
  case panic =>
    split at h
    · cases hx with
      | cons h1 h2 =>
        cases h2
        exact panic_runs hS h1 h
    · cases h
  case len =>
    split at h
    case h_2 => cases h
    rename_i x
    split at h
    case h_2 => cases h
    rename_i t htypes
    have hty : types = #[t] := by rw [← Array.toArray_toList (xs := types), htypes]
    subst hty
    cases hx with
    | @cons vx _ _ _ h1 h2 =>
      cases h2
      split at h
      · rename_i hu
        exact lenS_runs hS hu h1 h
      · rename_i el hu
        exact len_runs hS hu h1 h
      · cases h
theorem opt_rep {ρc : Operand → Value} {ρ : Operand → V} (hE : ∀ y, RVs w F β look (ρc y) (ρ y)) (o : Option Operand) : match o.map ρc, o.map ρ with | some y, some v => RVs w F β look y v | none, none => True | _, _ => False := by
  cases o with
  | none => trivial
  | some y => exact hE y
theorem op_runs {rec : Rec} (hS : Sim w F β look) {slot : Nat} (hs : look slot = none) {ρc : Operand → Value} {ρ : Operand → V} (hE : ∀ y, RVs w F β look (ρc y) (ρ y)) {o : Oper} (hc : isCallV o.op = false) {e : Eff}
    (h : opA P rec look slot ρ o.op = some e) : Runs w F β look e ((execOp ρc o).run P w) := by
  obtain ⟨dst, op, ty, ps, af, g⟩ := o
  cases op <;> (dsimp only at h hc; unfold opA at h; dsimp only at h) <;> try (cases h; done)
  case move x => exact Runs.eff hS h rfl (hE x)
  case assign x => exact Runs.eff hS h rfl (hE x)
  case pick c a b => exact pick_runs hS (hE c) (hE a) (hE b) h
  case alloc t => exact alloc_runs hS hs h
  case box t x => exact box_runs hS hs (hE x) h
  case build t parts =>
    have := build_runs (P := P) hS (parts := parts.toList) hE h
    simpa [execOp] using this
  case buildSlice t len parts =>
    have := buildSlice_runs (P := P) hS hs (parts := parts.toList) hE h
    simpa [execOp] using this
  case load t a => exact load_runs hS (hE a) h
  case store t a x => exact store_runs hS (hE a) (hE x) h
  case nilCheck x => exact nilCheck_runs hS rfl (hE x) h
  case binOp op t x y u => exact binL_runs hS (hE x) (hE y) h
  case unOp op t x => exact un_runs hS (hE x) h
  case convert a b x => exact convert_runs hS (hE x) h
  case makeInterface t x => exact makeInterface_runs hS (hE x) h
  case makeFunc fn first caps =>
    have := makeFunc_runs (P := P) (fn := fn) hS (args_rep hE first.toList) (args_rep hE caps.toList) h
    rw [toArr, toArr] at this
    exact this
  case makeSlice t l c => exact makeSlice_runs hS hs (hE l) (hE c) h
  case slice t x lo hi mx => exact slice_runs hS hs (hE x) (opt_rep hE lo) (opt_rep hE hi) (opt_rep hE mx) h
  case fieldAddr t x f => exact fieldAddr_runs hS (hE x) h
  case field t x f => exact field_runs hS (hE x) h
  case indexAddr t x i => exact indexAddr_runs hS (hE x) (hE i) h
  case index t x i => exact index_runs hS (hE x) (hE i) h
  case extract x i => exact extract_runs hS (hE x) h
  case panic x => exact panic_runs hS (hE x) h
  case makeMap t r => exact makeMap_runs hS hs (opt_rep hE r) h
  case mapUpdate t m k x => exact mapUpdate_runs hS (hE m) (hE k) (hE x) h
  case insert t m k x => exact mapUpdate_runs hS (hE m) (hE k) (hE x) h
  case lookup t x ix ok => exact lookup_runs hS (hE x) (hE ix) h
  case range t x => exact range_runs hS hs (hE x) h
  case next it s => exact next_runs hS (hE it) h
  case call c =>
    obtain ⟨callee, args, types⟩ := c
    cases callee with
    | value f => cases hc
    | invoke _ _ => cases h
    | builtin b =>
      have := fun consts => builtin_runs (P := P) (ty := ty) (consts := consts) hS hs (args_rep hE args.toList) h
      rw [toArr] at this
      exact this _
end
end Go.Proofs.YteenjodhmppgjaaGreatDoor.Am
end
section
/- The abstract machine: objects under other numbers; what a call hands on. -/
namespace Go.Proofs.YteenjodhmppgjaaGreatDoor.Am
open Go
theorem mapO_all2 {α γ : Type} {f : α → Option γ} : ∀ {l : List α} {m : List γ}, mapO f l = some m → All2 (fun a b => f a = some b) l m
  | [], m, h => by simp only [mapO, Option.some.injEq] at h; subst h; exact .nil
  | a :: l, m, h => by
    simp only [mapO] at h
    cases e1 : f a with
    | none => simp [e1] at h
    | some y =>
      cases e2 : mapO f l with
      | none => simp [e1, e2] at h
      | some ys =>
        simp only [e1, e2, Option.some.injEq] at h
        subst h
        exact .cons e1 (mapO_all2 e2)
theorem All2.comp {α β γ : Type} {R : α → β → Prop} {S : β → γ → Prop} {T : α → γ → Prop} (h : ∀ a b c, R a b → S b c → T a c) {l : List α} {m : List β} {n : List γ} (h1 : All2 R l m) (h2 : All2 S m n) : All2 T l n := by
  induction h1 generalizing n with
  | nil => cases h2; exact .nil
  | cons r _ ih => cases h2 with | cons s t => exact .cons (h _ _ _ r s) (ih t)
/-- Objects under other numbers. -/
def Ren (r : Nat → Option Nat) (β : Int → Nat) (sh : Nat → Option Sh) (β' : Int → Nat) (sh' : Nat → Option Sh) : Prop :=
  ∀ id j, r id = some j → sh' j = sh id ∧ ((∃ s, sh id = some s ∧ s ≠ .gone) → β' j = β id) ∧ ((∃ s, sh id = some s ∧ s ≠ .gone) → bs β' j = bs β id)
section
variable {w : World} {N N' : Nat → Prop} {r : Nat → Option Nat} {β β' : Int → Nat} {sh sh' : Nat → Option Sh}
theorem renC_rep (hr : Ren r β sh β' sh') (hN : ∀ b, N b → N' b) {v : Value} {c c' : C} (h : RC w N β sh v c) (hc : renC r c = some c') : RC w N' β' sh' v c' := by
  cases c with
  | d x => cases hc; exact RepD.mono (keep_wide hN) h
  | ptr id off =>
    simp only [renC] at hc
    cases e : r id with
    | none => simp [e] at hc
    | some j =>
      simp only [e, Option.some.injEq] at hc
      subst hc
      obtain ⟨h1, rfl⟩ := h
      obtain ⟨a, b, b2⟩ := hr id j e
      exact ⟨by rw [a, h1], by rw [b ⟨_, h1, by simp⟩]⟩
  | elt k els i off => cases hc; obtain ⟨b, o, cap, h1, h2, rfl⟩ := h; exact ⟨b, o, cap, RepD.mono (keep_wide hN) h1, h2, rfl⟩
  | rf m id =>
    simp only [renC] at hc
    cases e : r id with
    | none => simp [e] at hc
    | some j =>
      simp only [e, Option.some.injEq] at hc
      subst hc
      obtain ⟨h1, rfl⟩ := h
      obtain ⟨a, b, b2⟩ := hr id j e
      exact ⟨by rw [a, h1], by rw [b ⟨_, h1, by simp⟩]⟩
  | own id =>
    simp only [renC] at hc
    cases e : r id with
    | none => simp [e] at hc
    | some j =>
      simp only [e, Option.some.injEq] at hc
      subst hc
      obtain ⟨a, b, b2⟩ := hr id j e
      rcases h with ⟨k, n, cap, h1, rfl, h2, q, sz, h3, h4⟩ | ⟨h1, h2⟩ | ⟨k, n, cap, h1, rfl, h2, q, sz, h3, h4⟩
      · have hb := b ⟨_, h1, by simp⟩
        have hb2 := b2 ⟨_, h1, by simp⟩
        exact .inl ⟨k, n, cap, by rw [a, h1], by rw [hb, hb2], h2, q, sz, by rw [hb]; exact h3, by rw [hb2]; exact h4⟩
      · exact .inr (.inl ⟨by rw [a, h1], h2⟩)
      · have hb := b ⟨_, h1, by simp⟩
        have hb2 := b2 ⟨_, h1, by simp⟩
        exact .inr (.inr ⟨k, n, cap, by rw [a, h1], by rw [hb, hb2], h2, q, sz, by rw [hb]; exact h3, by rw [hb2]; exact h4⟩)
  | ap id i off =>
    simp only [renC] at hc
    cases e : r id with
    | none => simp [e] at hc
    | some j =>
      simp only [e, Option.some.injEq] at hc
      subst hc
      obtain ⟨a, b, b2⟩ := hr id j e
      rcases h with ⟨k, n, h1, rfl⟩ | ⟨h1, h2⟩
      · exact .inl ⟨k, n, by rw [a, h1], by rw [b ⟨_, h1, by simp⟩, b2 ⟨_, h1, by simp⟩]⟩
      · exact .inr ⟨by rw [a, h1], h2⟩
  | fn f a b =>
    simp only [renC] at hc
    cases e1 : mapO r a with
    | none => simp [e1] at hc
    | some a' =>
      cases e2 : mapO r b with
      | none => simp [e1, e2] at hc
      | some b' =>
        simp only [e1, e2, Option.some.injEq] at hc
        subst hc
        obtain ⟨rfl, h2⟩ := h
        have key : ∀ {l m : List Nat}, All2 (fun x y => r x = some y) l m → (∀ id ∈ l, sh id = some .box) → l.map (fun id : Nat => addrV (β id)) = m.map (fun id : Nat => addrV (β' id)) ∧ ∀ id ∈ m, sh' id = some .box := by
          intro l m hlm
          induction hlm with
          | nil => intro _; simp
          | @cons x y l m h1 _ ih =>
            intro hl
            obtain ⟨p, q, _⟩ := hr x y h1
            have hx := hl x List.mem_cons_self
            obtain ⟨u, v⟩ := ih (fun id hid => hl id (List.mem_cons_of_mem _ hid))
            refine ⟨by simp only [List.map_cons, u, q ⟨_, hx, by simp⟩], fun id hid => ?_⟩
            rcases List.mem_cons.1 hid with rfl | hid
            · rw [p, hx]
            · exact v id hid
        obtain ⟨p1, q1⟩ := key (mapO_all2 e1) (fun id hid => h2 id (.inl hid))
        obtain ⟨p2, q2⟩ := key (mapO_all2 e2) (fun id hid => h2 id (.inr hid))
        exact ⟨by rw [p1, p2], fun id hid => hid.elim (q1 id) (q2 id)⟩
  | any => cases hc; trivial
theorem renK_rep (hr : Ren r β sh β' sh') (hN : ∀ b, N b → N' b) {vs : List Value} {cs cs' : List C} (h : All2 (RK w N β sh) vs cs) (hc : mapO (renC r) cs = some cs') : All2 (RK w N' β' sh') vs cs' :=
  h.comp (fun _ _ _ h1 h2 => ⟨h1.1, renC_rep hr hN h1.2 h2⟩) (mapO_all2 hc)
theorem renV_rep (hr : Ren r β sh β' sh') (hN : ∀ b, N b → N' b) {v : Value} {x x' : V} (h : RV w N β sh v x) (hc : renV r x = some x') : RV w N' β' sh' v x' := by
  cases x with
  | c y =>
    simp only [renV] at hc
    cases e : renC r y with
    | none => simp [e] at hc
    | some z => simp only [e, Option.some.injEq] at hc; subst hc; exact renC_rep hr hN h e
  | agg cs =>
    simp only [renV] at hc
    cases e : mapO (renC r) cs with
    | none => simp [e] at hc
    | some z => simp only [e, Option.some.injEq] at hc; subst hc; obtain ⟨a, rfl, h⟩ := h; exact ⟨a, rfl, renK_rep hr hN h e⟩
  | tup vs =>
    simp only [renV] at hc
    cases e : mapO (renP r) vs with
    | none => simp [e] at hc
    | some z =>
      simp only [e, Option.some.injEq] at hc
      subst hc
      obtain ⟨a, rfl, h⟩ := h
      refine ⟨a, rfl, h.comp (fun v p q h1 h2 => ?_) (mapO_all2 e)⟩
      obtain ⟨b, cs⟩ := p
      simp only [renP] at h2
      cases e2 : mapO (renC r) cs with
      | none => simp [e2] at h2
      | some cs' =>
        simp only [e2, Option.some.injEq] at h2
        subst h2
        cases b with
        | true => obtain ⟨a', rfl, h3⟩ := h1; exact ⟨a', rfl, renK_rep hr hN h3 e2⟩
        | false =>
          obtain ⟨y, h4, h3⟩ := h1
          dsimp only at h4
          subst h4
          have := mapO_all2 e2
          cases this with
          | cons h5 h6 => cases h6; exact ⟨_, rfl, renC_rep hr hN h3 h5⟩
theorem renO_sh {o o' : O} (hc : renO r o = some o') : shO o' = shO o := by
  cases o with
  | box cs =>
    simp only [renO] at hc
    cases e : mapO (renC r) cs with
    | none => simp [e] at hc
    | some z => simp only [e, Option.some.injEq] at hc; subst hc; rfl
  | _ => cases hc; rfl
theorem renO_RO (hr : Ren r β sh β' sh') (hN : ∀ b, N b → N' b) {b z : Nat} {o o' : O} (h : RO w N β sh b z o) (hc : renO r o = some o') : RO w N' β' sh' b z o' := by
  cases o with
  | box cs =>
    have hc2 := hc
    simp only [renO] at hc2
    cases e : mapO (renC r) cs with
    | none => simp [e] at hc2
    | some z =>
      simp only [e, Option.some.injEq] at hc2; subst hc2
      obtain ⟨vals, ty, h1, h2⟩ := h
      exact ⟨vals, ty, h1, renK_rep hr hN h2 e⟩
  | arr k els => cases hc; obtain ⟨vals, ty, e, h0, h1, h2, h3⟩ := h; exact ⟨vals, ty, e, h0, h1, h2, fun i l j x a b => let ⟨v, p, q⟩ := h3 i l j x a b; ⟨v, p, RepD.mono (keep_wide hN) q⟩⟩
  | stk k els _ _ => cases hc; obtain ⟨vals, ty, e, h0, h1, h2, h3⟩ := h; exact ⟨vals, ty, e, h0, h1, h2, fun i l j x a b => let ⟨v, p, q⟩ := h3 i l j x a b; ⟨v, p, RepD.mono (keep_wide hN) q⟩⟩
  | raw x => cases hc; exact h
  | gone => cases hc; trivial
  | hole => cases hc; trivial
end
theorem alive_sh {o : O} : alive o = true ↔ ∃ s, shO o = some s ∧ s ≠ .gone := by cases o <;> simp [alive, shO]
theorem pos_get : ∀ {l : List Nat} {id j : Nat}, pos l id = some j → l[j]? = some id
  | [], _, _, h => by cases h
  | x :: r, id, j, h => by
    simp only [pos] at h
    split at h
    · rename_i e; cases h; simp [e]
    · cases e : pos r id with
      | none => simp [e] at h
      | some m => simp [e] at h; subst h; simpa using pos_get e
theorem nodup_get {l : List Nat} (h : l.Nodup) {i j x : Nat} (hi : l[i]? = some x) (hj : l[j]? = some x) : i = j := by
  have hi' : i < l.length := by
    rcases Nat.lt_or_ge i l.length with h | h
    · exact h
    · rw [List.getElem?_eq_none h] at hi; cases hi
  have hj' : j < l.length := by
    rcases Nat.lt_or_ge j l.length with h | h
    · exact h
    · rw [List.getElem?_eq_none h] at hj; cases hj
  rw [List.getElem?_eq_getElem hi'] at hi
  rw [List.getElem?_eq_getElem hj'] at hj
  exact (List.getElem_inj h).1 ((Option.some.inj hi).trans (Option.some.inj hj).symm)

/-! ### arguments -/
section
variable {w : World} {F : Nat → Prop} {β : Int → Nat} {look : Look} {N' : Nat → Prop}
theorem argC_rep (hS : Sim w F β look) {c c' : C} {own : List Nat} {v : Value} (h : RC w (Nn w F β look) β (shL look) v c) (hd : argC look c = some (c', own)) (hw : Wide (Nn w F β look) N' β own) : RC w N' β (shL look) v c' := by
  cases c with
  | own id =>
    simp only [argC] at hd
    cases hl : look id with
    | none => simp [hl] at hd
    | some o =>
      cases o <;> simp [hl] at hd
      obtain ⟨rfl, rfl⟩ := hd
      exact arr_rep hS hl h hw.all (hw.own id (by simp))
  | any => cases hd
  | d x => cases hd; exact RC.mono (keep_wide hw.all) (Ids.refl _ _ _ _) h
  | ptr id off => cases hd; exact RC.mono (keep_wide hw.all) (Ids.refl _ _ _ _) h
  | elt k els i off => cases hd; exact RC.mono (keep_wide hw.all) (Ids.refl _ _ _ _) h
  | ap id i off => cases hd; exact RC.mono (keep_wide hw.all) (Ids.refl _ _ _ _) h
  | fn f a b => cases hd; exact RC.mono (keep_wide hw.all) (Ids.refl _ _ _ _) h
  | rf m id => cases hd; exact RC.mono (keep_wide hw.all) (Ids.refl _ _ _ _) h
theorem argC_arr {c c' : C} {own : List Nat} (hd : argC look c = some (c', own)) : ∀ id ∈ own, ∃ k els, look id = some (.arr k els) := by
  cases c with
  | own id =>
    simp only [argC] at hd
    cases hl : look id with
    | none => simp [hl] at hd
    | some o =>
      cases o <;> simp [hl] at hd
      obtain ⟨rfl, rfl⟩ := hd
      intro j hj
      simp at hj
      subst hj
      exact ⟨_, _, hl⟩
  | any => cases hd
  | _ => cases hd; simp
theorem argCs_rep (hS : Sim w F β look) : ∀ {cs cs' : List C} {own : List Nat} {vs : List Value}, All2 (RK w (Nn w F β look) β (shL look)) vs cs → argCs look cs = some (cs', own) → Wide (Nn w F β look) N' β own → All2 (RK w N' β (shL look)) vs cs' := by
  intro cs
  induction cs with
  | nil => intro xs own vs h hd _; simp only [argCs, Option.some.injEq, Prod.mk.injEq] at hd; obtain ⟨rfl, rfl⟩ := hd; cases h; exact .nil
  | cons c cs ih =>
    intro xs own vs h hd hw
    cases h with
    | cons h1 h2 =>
      simp only [argCs] at hd
      cases e1 : argC look c with
      | none => simp [e1] at hd
      | some p =>
        obtain ⟨d, a⟩ := p
        cases e2 : argCs look cs with
        | none => simp [e1, e2] at hd
        | some q =>
          obtain ⟨ds, b⟩ := q
          simp only [e1, e2, Option.some.injEq, Prod.mk.injEq] at hd
          obtain ⟨rfl, rfl⟩ := hd
          exact .cons ⟨h1.1, argC_rep hS h1.2 e1 ⟨hw.all, fun id hid => hw.own id (List.mem_append_left _ hid)⟩⟩ (ih h2 e2 ⟨hw.all, fun id hid => hw.own id (List.mem_append_right _ hid)⟩)
theorem argCs_arr : ∀ {cs cs' : List C} {own : List Nat}, argCs look cs = some (cs', own) → ∀ id ∈ own, ∃ k els, look id = some (.arr k els) := by
  intro cs
  induction cs with
  | nil => intro xs own hd; simp only [argCs, Option.some.injEq, Prod.mk.injEq] at hd; obtain ⟨rfl, rfl⟩ := hd; simp
  | cons c cs ih =>
    intro xs own hd
    simp only [argCs] at hd
    cases e1 : argC look c with
    | none => simp [e1] at hd
    | some p =>
      obtain ⟨d, a⟩ := p
      cases e2 : argCs look cs with
      | none => simp [e1, e2] at hd
      | some q =>
        obtain ⟨ds, b⟩ := q
        simp only [e1, e2, Option.some.injEq, Prod.mk.injEq] at hd
        obtain ⟨rfl, rfl⟩ := hd
        intro id hid
        rcases List.mem_append.1 hid with h | h
        · exact argC_arr e1 id h
        · exact ih e2 id h
theorem argV_rep (hS : Sim w F β look) {x x' : V} {own : List Nat} {v : Value} (h : RVs w F β look v x) (hd : argV look x = some (x', own)) (hw : Wide (Nn w F β look) N' β own) : RV w N' β (shL look) v x' := by
  cases x with
  | c y =>
    simp only [argV] at hd
    cases e : argC look y with
    | none => simp [e] at hd
    | some p => obtain ⟨z, a⟩ := p; simp only [e, Option.some.injEq, Prod.mk.injEq] at hd; obtain ⟨rfl, rfl⟩ := hd; exact argC_rep hS h e hw
  | agg cs =>
    simp only [argV] at hd
    cases e : argCs look cs with
    | none => simp [e] at hd
    | some p => obtain ⟨z, a⟩ := p; simp only [e, Option.some.injEq, Prod.mk.injEq] at hd; obtain ⟨rfl, rfl⟩ := hd; obtain ⟨q, rfl, h⟩ := h; exact ⟨q, rfl, argCs_rep hS h e hw⟩
  | tup vs => cases hd
theorem argV_arr {x x' : V} {own : List Nat} (hd : argV look x = some (x', own)) : ∀ id ∈ own, ∃ k els, look id = some (.arr k els) := by
  cases x with
  | c y =>
    simp only [argV] at hd
    cases e : argC look y with
    | none => simp [e] at hd
    | some p => obtain ⟨z, a⟩ := p; simp only [e, Option.some.injEq, Prod.mk.injEq] at hd; obtain ⟨rfl, rfl⟩ := hd; exact argC_arr e
  | agg cs =>
    simp only [argV] at hd
    cases e : argCs look cs with
    | none => simp [e] at hd
    | some p => obtain ⟨z, a⟩ := p; simp only [e, Option.some.injEq, Prod.mk.injEq] at hd; obtain ⟨rfl, rfl⟩ := hd; exact argCs_arr e
  | tup vs => cases hd
theorem argVs_rep (hS : Sim w F β look) : ∀ {xs xs' : List V} {own : List Nat} {vs : List Value}, All2 (RVs w F β look) vs xs → argVs look xs = some (xs', own) → Wide (Nn w F β look) N' β own → All2 (fun v x => RV w N' β (shL look) v x) vs xs' := by
  intro cs
  induction cs with
  | nil => intro xs own vs h hd _; simp only [argVs, Option.some.injEq, Prod.mk.injEq] at hd; obtain ⟨rfl, rfl⟩ := hd; cases h; exact .nil
  | cons c cs ih =>
    intro xs own vs h hd hw
    cases h with
    | cons h1 h2 =>
      simp only [argVs] at hd
      cases e1 : argV look c with
      | none => simp [e1] at hd
      | some p =>
        obtain ⟨d, a⟩ := p
        cases e2 : argVs look cs with
        | none => simp [e1, e2] at hd
        | some q =>
          obtain ⟨ds, b⟩ := q
          simp only [e1, e2, Option.some.injEq, Prod.mk.injEq] at hd
          obtain ⟨rfl, rfl⟩ := hd
          exact .cons (argV_rep hS h1 e1 ⟨hw.all, fun id hid => hw.own id (List.mem_append_left _ hid)⟩) (ih h2 e2 ⟨hw.all, fun id hid => hw.own id (List.mem_append_right _ hid)⟩)
theorem argVs_arr : ∀ {xs xs' : List V} {own : List Nat}, argVs look xs = some (xs', own) → ∀ id ∈ own, ∃ k els, look id = some (.arr k els) := by
  intro cs
  induction cs with
  | nil => intro xs own hd; simp only [argVs, Option.some.injEq, Prod.mk.injEq] at hd; obtain ⟨rfl, rfl⟩ := hd; simp
  | cons c cs ih =>
    intro xs own hd
    simp only [argVs] at hd
    cases e1 : argV look c with
    | none => simp [e1] at hd
    | some p =>
      obtain ⟨d, a⟩ := p
      cases e2 : argVs look cs with
      | none => simp [e1, e2] at hd
      | some q =>
        obtain ⟨ds, b⟩ := q
        simp only [e1, e2, Option.some.injEq, Prod.mk.injEq] at hd
        obtain ⟨rfl, rfl⟩ := hd
        intro id hid
        rcases List.mem_append.1 hid with h | h
        · exact argV_arr e1 id h
        · exact ih e2 id h
theorem argVsK_arr {keep : Bool} {xs xs' : List V} {own : List Nat} (h : argVsK keep look xs = some (xs', own)) : ∀ id ∈ own, ∃ k els, look id = some (.arr k els) := by
  cases keep with
  | true => simp only [argVsK, Option.some.injEq, Prod.mk.injEq] at h; obtain ⟨rfl, rfl⟩ := h; simp
  | false => exact argVs_arr h
theorem argVsK_rep {keep : Bool} (hS : Sim w F β look) {xs xs' : List V} {own : List Nat} {vs : List Value} (h : All2 (RVs w F β look) vs xs) (hd : argVsK keep look xs = some (xs', own)) (hw : Wide (Nn w F β look) N' β own) : All2 (fun v x => RV w N' β (shL look) v x) vs xs' := by
  cases keep with
  | true =>
    simp only [argVsK, Option.some.injEq, Prod.mk.injEq] at hd
    obtain ⟨rfl, rfl⟩ := hd
    exact h.mono fun _ _ p => RV.mono (keep_wide hw.all) (Ids.refl _ _ _ _) p
  | false => exact argVs_rep hS h hd hw
end
end Go.Proofs.YteenjodhmppgjaaGreatDoor.Am
end
section
/- The abstract machine: a call, seen from the caller. -/
namespace Go.Proofs.YteenjodhmppgjaaGreatDoor.Am
open Go

def RRes (w : World) (F : Nat → Prop) (β : Int → Nat) (look : Look) (v : Value) (vs : List V) : Prop :=
  (∃ y, vs = [y] ∧ RVs w F β look v y) ∨ (vs.length ≠ 1 ∧ ∃ a, v = .tuple a ∧ All2 (RVs w F β look) a.toList vs)
/-- What a function leaves. -/
def OutOK (w : World) (F : Nat → Prop) (β : Int → Nat) (objs : List O) (out : Out) (e : Ending) (w' : World) : Prop :=
  ∃ β', match out with
    | .ret vs objs' => ∃ v, e = .returned v ∧ RRes w' F β' (lk objs') v vs ∧ Sim w' F β' (lk objs') ∧ St (· < objs.length) w β (lk objs) w' β' (lk objs')
    | .pan x objs' => e = .panicked [{ v := x, recovered := false }] ∧ Sim w' F β' (lk objs') ∧ St (· < objs.length) w β (lk objs) w' β' (lk objs')
def CallOK (P : Program) (f : FuncId) (args : List V) (objs : List O) (out : Out) : Prop :=
  ∀ (w : World) (F : Nat → Prop) (β : Int → Nat) (vals : List Value), Sim w F β (lk objs) → All2 (RVs w F β (lk objs)) vals args → Calls P f vals.toArray w (OutOK w F β objs out)

/-- What the caller keeps from the callee. -/
def Fc (F : Nat → Prop) (β : Int → Nat) (look : Look) (ids bor : List Nat) (b : Nat) : Prop := F b ∨ ∃ id o, look id = some o ∧ alive o = true ∧ id ∉ ids ∧ id ∉ bor ∧ β id = b ∧ ¬ ∃ j o', j ∈ ids ∧ look j = some o' ∧ alive o' = true ∧ β j = b
def βc (β : Int → Nat) (ids : List Nat) : Int → Nat
  | .ofNat j => β (ids.getD j 0 : Nat)
  | .negSucc j => bs β (ids.getD j 0)
theorem βc_nat {β : Int → Nat} {ids : List Nat} {j : Nat} : βc β ids j = β (ids.getD j 0 : Nat) := rfl
theorem βc_bs {β : Int → Nat} {ids : List Nat} {j : Nat} : bs (βc β ids) j = bs β (ids.getD j 0) := rfl
theorem lk_some {objs : List O} {j : Nat} {o : O} (h : lk objs j = some o) : objs[j]? = some o := by
  unfold lk at h
  split at h
  · cases h
  · exact h
theorem lk_of {objs : List O} {j : Nat} {o : O} (h : objs[j]? = some o) (ho : o ≠ .hole) : lk objs j = some o := by
  unfold lk
  rw [h]
  cases o <;> first | rfl | exact absurd rfl ho
section
variable {P : Program} {w : World} {F : Nat → Prop} {β : Int → Nat} {look : Look}
theorem prep_get {ids : List Nat} {objs objs' : List O} {g : O → O} (hm : mapO look ids = some objs) (hr : mapO (renO (pos ids)) (objs.map g) = some objs') {j : Nat} {o' : O} (h : objs'[j]? = some o') :
    ∃ id o, ids[j]? = some id ∧ look id = some o ∧ renO (pos ids) (g o) = some o' := by
  obtain ⟨o, h1, h2⟩ := (mapO_all2 hr).get_right h
  rw [List.getElem?_map] at h1
  obtain ⟨o0, h1', rfl⟩ := Option.map_eq_some_iff.1 h1
  obtain ⟨id, h3, h4⟩ := (mapO_all2 hm).get_right h1'
  exact ⟨id, o0, h3, h4, h2⟩
theorem prep_get' {ids : List Nat} {objs objs' : List O} {g : O → O} (hm : mapO look ids = some objs) (hr : mapO (renO (pos ids)) (objs.map g) = some objs') {j id : Nat} (h : ids[j]? = some id) :
    ∃ o o', look id = some o ∧ objs'[j]? = some o' ∧ renO (pos ids) (g o) = some o' := by
  obtain ⟨o, h1, h2⟩ := (mapO_all2 hm).get_left h
  have h1' : (objs.map g)[j]? = some (g o) := by rw [List.getElem?_map, h1]; rfl
  obtain ⟨o', h3, h4⟩ := (mapO_all2 hr).get_left h1'
  exact ⟨o, o', h2, h3, h4⟩
theorem enterO_sh (o : O) : shO (enterO o) = shO o := by cases o <;> rfl
theorem enterO_hole {o : O} (h : o ≠ .hole) : enterO o ≠ .hole := by cases o <;> simp_all [enterO]
theorem enterO_RO {w : World} {N : Nat → Prop} {β : Int → Nat} {sh : Nat → Option Sh} {b z : Nat} {o : O} (h : RO w N β sh b z o) : RO w N β sh b z (enterO o) := by cases o <;> exact h
theorem stk_one {ids : List Nat} (h : stkOK look ids = true) {a b : Nat} (ha : a ∈ ids) (hb : b ∈ ids) (sa : isStk (look a) = true) (sb : isStk (look b) = true) : a = b := by
  simp only [stkOK, Bool.and_eq_true, decide_eq_true_eq] at h
  have h1 : a ∈ ids.filter fun id => isStk (look id) := List.mem_filter.2 ⟨ha, sa⟩
  have h2 : b ∈ ids.filter fun id => isStk (look id) := List.mem_filter.2 ⟨hb, sb⟩
  generalize (ids.filter fun id => isStk (look id)) = l at h h1 h2
  match l, h.1, h1, h2 with
  | [x], _, h1, h2 => rw [List.mem_singleton.1 h1, List.mem_singleton.1 h2]
theorem look_not_hole {o o' : O} {r : Nat → Option Nat} (h : renO r o = some o') (ho : o ≠ .hole) : o' ≠ .hole := by
  cases o with
  | box cs =>
    simp only [renO] at h
    cases e : mapO (renC r) cs with
    | none => simp [e] at h
    | some z => simp only [e, Option.some.injEq] at h; subst h; simp
  | arr k els => cases h; simp
  | stk _ _ _ _ => cases h; simp
  | raw x => cases h; simp
  | gone => cases h; simp
  | hole => exact absurd rfl ho
/-- The looks that this file speaks of never show a hole. -/
def NoHole (look : Look) : Prop := ∀ id, look id ≠ some .hole
theorem noHole_lk (loc : List O) : NoHole (lk loc) := by
  intro id h
  have := lk_some h
  unfold lk at h
  rw [this] at h
  cases h
theorem call_prep (hS : Sim w F β look) (hH : NoHole look) {ids bor : List Nat} {objs objs' : List O} (hm : mapO look ids = some objs) (hr : mapO (renO (pos ids)) (objs.map enterO) = some objs') (hstk : stkOK look ids = true) (hnd : ids.Nodup) (hbor : ∀ id ∈ bor, ∃ k els, look id = some (.arr k els)) (hdis : ∀ id ∈ bor, id ∉ ids) :
    Sim w (Fc F β look ids bor) (βc β ids) (lk objs') ∧ Wide (Nn w F β look) (Nn w (Fc F β look ids bor) (βc β ids) (lk objs')) β bor ∧ Ren (pos ids) β (shL look) (βc β ids) (shL (lk objs')) ∧
    (∀ b, Live (βc β ids) (lk objs') b → ∃ id o, id ∈ ids ∧ look id = some o ∧ alive o = true ∧ β id = b) := by
  have hget : ∀ j o', lk objs' j = some o' → ∃ id o, ids[j]? = some id ∧ look id = some o ∧ renO (pos ids) (enterO o) = some o' ∧ βc β ids j = β id ∧ bs (βc β ids) j = bs β id := by
    intro j o' h
    obtain ⟨id, o, h1, h2, h3⟩ := prep_get hm hr (lk_some h)
    exact ⟨id, o, h1, h2, h3, by simp [βc_nat, List.getD, h1], by simp [βc_bs, List.getD, h1]⟩
  have halive : ∀ {o o' : O}, renO (pos ids) (enterO o) = some o' → (alive o' = true ↔ alive o = true) := by
    intro o o' h
    rw [alive_sh, alive_sh, renO_sh h, enterO_sh]
  have hlive : ∀ b, Live (βc β ids) (lk objs') b → ∃ id o, id ∈ ids ∧ look id = some o ∧ alive o = true ∧ β id = b := by
    rintro b ⟨j, o', h1, h2, h3⟩
    obtain ⟨id, o, p1, p2, p3, p4, _⟩ := hget j o' h1
    exact ⟨id, o, List.mem_of_getElem? p1, p2, (halive p3).1 h2, by rw [← p4, h3]⟩
  have hF : ∀ b, Fc F β look ids bor b → b < w.heap.size := by
    rintro b (h | ⟨id, o, h1, h2, _, _, rfl, _⟩)
    · exact hS.flt b h
    · exact (hS.live id o h1 h2).1
  have hren : Ren (pos ids) β (shL look) (βc β ids) (shL (lk objs')) := by
    intro id j h
    have h1 := pos_get h
    obtain ⟨o, o', h2, h3, h4⟩ := prep_get' hm hr h1
    have ho' := look_not_hole h4 (enterO_hole fun e => hH id (by rw [h2, e]))
    refine ⟨by simp [shL, lk_of h3 ho', h2, renO_sh h4, enterO_sh], fun _ => by simp [βc_nat, List.getD, h1], fun _ => by simp [βc_bs, List.getD, h1]⟩
  have hall : ∀ b, Nn w F β look b → Nn w (Fc F β look ids bor) (βc β ids) (lk objs') b := by
    rintro b ⟨h1, h2, h3⟩
    refine ⟨h1, ?_, fun h => ?_⟩
    · rintro (h | ⟨id, o, q1, q2, _, _, q3, _⟩)
      · exact h2 h
      · exact h3 ⟨id, o, q1, q2, q3⟩
    · obtain ⟨id, o, _, q1, q2, q3⟩ := hlive b h
      exact h3 ⟨id, o, q1, q2, q3⟩
  have hwide : Wide (Nn w F β look) (Nn w (Fc F β look ids bor) (βc β ids) (lk objs')) β bor := by
    refine ⟨hall, fun id hid => ?_⟩
    obtain ⟨k, els, hl⟩ := hbor id hid
    obtain ⟨a, b, _⟩ := hS.live id _ hl rfl
    refine ⟨a, ?_, fun h => ?_⟩
    · rintro (h | ⟨id', o, q1, q2, q3, q4, q5, _⟩)
      · exact b h
      · have := hS.inj1 id' id o _ q1 hl q2 rfl q5 (.inr rfl)
        subst this
        exact q4 hid
    · obtain ⟨id', o, q0, q1, q2, q3⟩ := hlive _ h
      have := hS.inj1 id' id o _ q1 hl q2 rfl q3 (.inr rfl)
      subst this
      exact hdis id' hid q0
  refine ⟨⟨hF, fun j o' h ha => ?_, fun j j' o1 o2 h1 h2 ha1 ha2 hb => ?_, hS.laid.same fun b hb => let ⟨id, o, _, h1, h2, h3⟩ := hlive b hb; ⟨id, o, h1, h2, h3⟩⟩, hwide, hren, hlive⟩
  · obtain ⟨id, o, p1, p2, p3, p4, p5⟩ := hget j o' h
    obtain ⟨a, b, c⟩ := hS.live id o p2 ((halive p3).1 ha)
    rw [p4, p5]
    refine ⟨a, ?_, ?_⟩
    · rintro (h | ⟨id', o2, q1, q2, q3, q4, q5, q6⟩)
      · exact b h
      · exact q6 ⟨id, o, List.mem_of_getElem? p1, p2, (halive p3).1 ha, rfl⟩
    · exact renO_RO hren hall (enterO_RO c) p3
  · obtain ⟨id1, q1, p1, p2, p3, p4, _⟩ := hget j o1 h1
    obtain ⟨id2, q2, r1, r2, r3, r4, _⟩ := hget j' o2 h2
    rw [p4, r4] at hb
    have : id1 = id2 := by
      rcases hS.inj id1 id2 q1 q2 p2 r2 ((halive p3).1 ha1) ((halive r3).1 ha2) hb with h | h | h
      · exact h
      · exact stk_one hstk (List.mem_of_getElem? p1) (List.mem_of_getElem? r1) h.stk.1 h.stk.2
      · exact stk_one hstk (List.mem_of_getElem? p1) (List.mem_of_getElem? r1) h.stk.2 h.stk.1
    subst this
    exact .inl (nodup_get hnd p1 r1)
end
end Go.Proofs.YteenjodhmppgjaaGreatDoor.Am
end
section
/- The abstract machine: behind a call. -/
namespace Go.Proofs.YteenjodhmppgjaaGreatDoor.Am
open Go
def conv : O → Option O
  | .hole => none
  | o => some o
theorem conv_some {o o' : O} (h : conv o = some o') : o = o' := by
  cases o <;> first | exact Option.some.inj h | cases h
theorem upd1_self (look : Look) (id : Nat) (o : O) : upd1 look id o id = conv o := by unfold upd1; simp; cases o <;> rfl
theorem upd1_other (look : Look) {id j : Nat} (o : O) (h : j ≠ id) : upd1 look id o j = look j := by simp [upd1, h]
theorem updL_notin : ∀ (u : List (Nat × O)) (look : Look) {id : Nat}, (∀ p ∈ u, p.1 ≠ id) → updL look u id = look id
  | [], _, _, _ => rfl
  | (j, o) :: r, look, id, h => by
    rw [updL, updL_notin r _ (fun p hp => h p (List.mem_cons_of_mem _ hp)), upd1_other]
    exact fun e => h (j, o) List.mem_cons_self e.symm
theorem updL_zip (key : Nat → Nat) : ∀ (l : List O) (n : Nat) (look : Look), (∀ a b, n ≤ a → a < n + l.length → n ≤ b → b < n + l.length → key a = key b → a = b) →
    ∀ j o, l[j]? = some o → updL look ((l.zipIdx n).map fun p => (key p.2, p.1)) (key (n + j)) = conv o
  | [], _, _, _, _, _, h => by simp at h
  | x :: l, n, look, hinj, j, o, h => by
    rw [List.zipIdx_cons, List.map_cons, updL]
    cases j with
    | zero =>
      simp only [List.getElem?_cons_zero, Option.some.injEq] at h
      subst h
      rw [updL_notin]
      · exact upd1_self _ _ _
      · intro p hp
        obtain ⟨q, hq, rfl⟩ := List.mem_map.1 hp
        obtain ⟨y, i⟩ := q
        have := List.mem_zipIdx hq
        intro e
        have := hinj i (n + 0) (by omega) (by simp; omega) (by omega) (by simp) e
        omega
    | succ j =>
      have := updL_zip key l (n + 1) (upd1 look (key n) x) (fun a b h1 h2 h3 h4 h5 => hinj a b (by omega) (by simp; omega) (by omega) (by simp; omega) h5) j o (by simpa using h)
      rw [show n + (j + 1) = n + 1 + j by omega]
      exact this
theorem ren_stk {r : Nat → Option Nat} {o o2 : O} (h : renO r o = some o2) : isStk (some o2) = isStk (some o) := by
  cases o with
  | box cs =>
    simp only [renO] at h
    cases e : mapO (renC r) cs with
    | none => rw [e] at h; cases h
    | some z => rw [e] at h; cases h; rfl
  | _ => cases h; rfl
section
variable {P : Program} {w w' : World} {F : Nat → Prop} {β βd : Int → Nat} {look : Look}
/-- A call that the caller's objects do not take part in. -/
theorem call_apart (hS : Sim w F β look) (h1 : w'.os = w.os) (h2 : w'.tape = w.tape) (h3 : w'.output = w.output) (h4 : w.heap.size ≤ w'.heap.size) (h5 : ∀ b, b < w.heap.size → w'.heap[b]? = w.heap[b]?) :
    Sim w' F β look ∧ St (fun _ => True) w β look w' β look := by
  have st : St (fun _ => True) w β look w' β look := by
    refine ⟨h1, h2, h3, h4, fun b hb _ => h5 b hb, fun b hb => .inl hb, fun id s _ hs => ?_⟩
    by_cases hg : s = .gone
    · subst hg; exact .inr (.inr ⟨rfl, hs⟩)
    · obtain ⟨o, ho, hso⟩ := shL_alive hs
      exact .inl ⟨rfl, hs, shape_of_block (h5 _ (hS.live id o ho (shO_alive hso hg)).1), rfl⟩
  refine ⟨⟨fun b hb => Nat.lt_of_lt_of_le (hS.flt b hb) h4, fun id o hl ha => ?_, hS.inj, hS.laid.st st⟩, st⟩
  obtain ⟨a, b, c⟩ := hS.live id o hl ha
  exact ⟨Nat.lt_of_lt_of_le a h4, b, RO.mono st.keep st.ids (h5 _ a) c⟩
theorem call_back (hS : Sim w F β look) (hH : NoHole look) {ids bor : List Nat} {objs objs' : List O} (hm : mapO look ids = some objs) (hr : mapO (renO (pos ids)) (objs.map enterO) = some objs') (hstk : stkOK look ids = true) (hnd : ids.Nodup) (hbor : ∀ id ∈ bor, ∃ k els, look id = some (.arr k els)) (hdis : ∀ id ∈ bor, id ∉ ids)
    {out out2 : List O} {slot : Nat} (hSd : Sim w' (Fc F β look ids bor) βd (lk out)) (hst : St (· < objs'.length) w (βc β ids) (lk objs') w' βd (lk out)) (hr2 : mapO (renO (back ids slot out.length)) out = some out2) (hlen : ids.length ≤ out.length)
    (hB : ∀ (j : Nat) (o2 : O), out2[j]? = some o2 → (∃ id k els cur root cur2 root2, ids[j]? = some id ∧ look id = some (.stk k els cur root) ∧ o2 = .stk k els cur2 root2) ∨ (isStk (some o2) = false ∧ ∀ id, ids[j]? = some id → isStk (look id) = false))
    (hfresh : ∀ id, slot ≤ id → id ∈ (number ids slot out2).map (·.1) → look id = none) :
    ∃ β', Sim w' F β' (updL look ((number ids slot out2).filter notStk ++ kills bor)) ∧ St (fun _ => True) w β look w' β' (updL look ((number ids slot out2).filter notStk ++ kills bor)) ∧
      Ren (back ids slot out.length) βd (shL (lk out)) β' (shL (updL look ((number ids slot out2).filter notStk ++ kills bor))) ∧
      (∀ b, Nn w' (Fc F β look ids bor) βd (lk out) b → Nn w' F β' (updL look ((number ids slot out2).filter notStk ++ kills bor)) b) := by
  obtain ⟨hSc, hwide, hren, hlivec⟩ := call_prep hS hH hm hr hstk hnd hbor hdis
  have hol : out2.length = out.length := (mapO_all2 hr2).length.symm
  have hidl : objs'.length = ids.length := by rw [← (mapO_all2 hr).length, List.length_map, ← (mapO_all2 hm).length]
  -- the keys
  have keyLt : ∀ j, j < ids.length → ∃ id, ids[j]? = some id ∧ (back ids slot out2.length j).getD 0 = id ∧ back ids slot out2.length j = some id := by
    intro j hj
    exact ⟨ids[j], by simp [hj], by simp [back, hj], by simp [back, hj]⟩
  have keyGe : ∀ j, ids.length ≤ j → j < out2.length → (back ids slot out2.length j).getD 0 = slot + (j - ids.length) ∧ back ids slot out2.length j = some (slot + (j - ids.length)) := by
    intro j h1 h2
    have : ¬ j < ids.length := by omega
    exact ⟨by simp [back, this, h2], by simp [back, this, h2]⟩
  have inU : ∀ j, j < out2.length → (back ids slot out2.length j).getD 0 ∈ (number ids slot out2).map (·.1) := by
    intro j hj
    refine List.mem_map.2 ⟨((back ids slot out2.length j).getD 0, out2[j]), ?_, rfl⟩
    exact List.mem_map.2 ⟨(out2[j], j), by rw [List.mem_zipIdx_iff_getElem?]; simp [hj], rfl⟩
  have hidsome : ∀ id ∈ ids, ∃ o, look id = some o := by
    intro id hid
    obtain ⟨j, hj⟩ := List.getElem?_of_mem hid
    obtain ⟨o, _, h, _⟩ := prep_get' hm hr hj
    exact ⟨o, h⟩
  have hext : ∀ j, ids.length ≤ j → j < out2.length → look (slot + (j - ids.length)) = none := by
    intro j h1 h2
    have := inU j h2
    rw [(keyGe j h1 h2).1] at this
    exact hfresh _ (by omega) this
  have hinj : ∀ a b, a < out2.length → b < out2.length → (back ids slot out2.length a).getD 0 = (back ids slot out2.length b).getD 0 → a = b := by
    intro a b ha hb he
    rcases Nat.lt_or_ge a ids.length with h1 | h1 <;> rcases Nat.lt_or_ge b ids.length with h2 | h2
    · obtain ⟨x, p1, p2, _⟩ := keyLt a h1
      obtain ⟨y, q1, q2, _⟩ := keyLt b h2
      rw [p2, q2] at he
      subst he
      exact nodup_get hnd p1 q1
    · obtain ⟨x, p1, p2, _⟩ := keyLt a h1
      rw [p2, (keyGe b h2 hb).1] at he
      obtain ⟨o, ho⟩ := hidsome x (List.mem_of_getElem? p1)
      rw [he, hext b h2 hb] at ho; cases ho
    · obtain ⟨y, q1, q2, _⟩ := keyLt b h2
      rw [q2, (keyGe a h1 ha).1] at he
      obtain ⟨o, ho⟩ := hidsome y (List.mem_of_getElem? q1)
      rw [← he, hext a h1 ha] at ho; cases ho
    · rw [(keyGe a h1 ha).1, (keyGe b h2 hb).1] at he; omega
  -- the caller's objects behind the call
  generalize hL : updL look ((number ids slot out2).filter notStk ++ kills bor) = look'
  have filt : ∀ p, p ∈ (number ids slot out2).filter notStk → ∃ (j : Nat) (o2 : O), out2[j]? = some o2 ∧ p = ((back ids slot out2.length j).getD 0, o2) ∧ isStk (some o2) = false := by
    intro p hp
    obtain ⟨h1, h2⟩ := List.mem_filter.1 hp
    obtain ⟨q, hq, rfl⟩ := List.mem_map.1 h1
    obtain ⟨o, j⟩ := q
    exact ⟨j, o, List.mem_zipIdx_iff_getElem?.1 hq, rfl, by simpa [notStk] using h2⟩
  have lt2 : ∀ {j : Nat} {o2 : O}, out2[j]? = some o2 → j < out2.length := fun {j o2} h => by
    rcases Nat.lt_or_ge j out2.length with h' | h'
    · exact h'
    · rw [List.getElem?_eq_none h'] at h; cases h
  have atStk : ∀ (j : Nat) (o2 : O), out2[j]? = some o2 → isStk (some o2) = true → updL look ((number ids slot out2).filter notStk) ((back ids slot out2.length j).getD 0) = look ((back ids slot out2.length j).getD 0) := by
    intro j o2 hj hs
    refine updL_notin _ _ fun p hp e => ?_
    obtain ⟨j', o', h1, rfl, h3⟩ := filt p hp
    have := hinj j' j (lt2 h1) (lt2 hj) e
    subst this
    rw [h1] at hj; cases hj
    rw [hs] at h3; cases h3
  have filtL : ∀ (u : List (Nat × O)) (look : Look) (id : Nat), (∀ p ∈ u, p.1 = id → notStk p = true) → updL look (u.filter notStk) id = updL look u id := by
    intro u
    induction u with
    | nil => intro look id _; rfl
    | cons p u ih =>
      intro look id hp
      rw [List.filter_cons]
      cases hn : notStk p with
      | true =>
        simp only [if_true]
        rw [updL, updL]
        exact ih _ id fun q hq => hp q (List.mem_cons_of_mem _ hq)
      | false =>
        simp only [Bool.false_eq_true, if_false]
        rw [ih look id fun q hq => hp q (List.mem_cons_of_mem _ hq), updL]
        have hne : p.1 ≠ id := fun e => by have := hp p List.mem_cons_self e; rw [hn] at this; cases this
        have key : ∀ (u : List (Nat × O)) (look look2 : Look), look2 id = look id → updL look2 u id = updL look u id := by
          intro u
          induction u with
          | nil => intro _ _ h; exact h
          | cons q u ih2 =>
            intro look look2 h
            rw [updL, updL]
            refine ih2 _ _ ?_
            unfold upd1
            split
            · rfl
            · exact h
        exact key u _ _ (by rw [upd1_other _ _ hne.symm])
  have atKey : ∀ (j : Nat) (o2 : O), out2[j]? = some o2 → isStk (some o2) = false → updL look ((number ids slot out2).filter notStk) ((back ids slot out2.length j).getD 0) = conv o2 := by
    intro j o2 hj hns
    have := updL_zip (fun j => (back ids slot out2.length j).getD 0) out2 0 look (fun a b _ h2 _ h4 h5 => hinj a b (by omega) (by omega) h5) j o2 hj
    have h2 : updL look (number ids slot out2) ((back ids slot out2.length j).getD 0) = conv o2 := by simpa [number] using this
    rw [filtL _ _ _ ?_, h2]
    intro p hp e
    obtain ⟨q, hq, rfl⟩ := List.mem_map.1 hp
    obtain ⟨o, j'⟩ := q
    have h3 := List.mem_zipIdx_iff_getElem?.1 hq
    have := hinj j' j (lt2 h3) (lt2 hj) e
    subst this
    rw [h3] at hj; cases hj
    simp [notStk, hns]
  have notKey : ∀ id, id ∉ (number ids slot out2).map (·.1) → updL look ((number ids slot out2).filter notStk) id = look id := by
    intro id hid
    exact updL_notin _ _ fun p hp e => hid (List.mem_map.2 ⟨p, (List.mem_filter.1 hp).1, e⟩)
  have keyOf : ∀ id, id ∈ (number ids slot out2).map (·.1) → ∃ (j : Nat) (o2 : O), out2[j]? = some o2 ∧ (back ids slot out2.length j).getD 0 = id := by
    intro id hid
    obtain ⟨p, hp, rfl⟩ := List.mem_map.1 hid
    obtain ⟨q, hq, rfl⟩ := List.mem_map.1 hp
    obtain ⟨o, j⟩ := q
    exact ⟨j, o, (List.mem_zipIdx_iff_getElem?.1 hq), rfl⟩
  have borNot : ∀ id ∈ bor, id ∉ (number ids slot out2).map (·.1) := by
    intro id hid hk
    obtain ⟨j, o2, h1, h2⟩ := keyOf id hk
    obtain ⟨k, els, hl⟩ := hbor id hid
    have hj : j < out2.length := by
      rcases Nat.lt_or_ge j out2.length with h | h
      · exact h
      · rw [List.getElem?_eq_none h] at h1; cases h1
    rcases Nat.lt_or_ge j ids.length with h | h
    · obtain ⟨x, p1, p2, _⟩ := keyLt j h
      rw [p2] at h2; subst h2
      exact hdis _ hid (List.mem_of_getElem? p1)
    · rw [(keyGe j h hj).1] at h2
      have := hext j h hj
      rw [h2, hl] at this; cases this
  have lookKey : ∀ (j : Nat) (o2 : O), out2[j]? = some o2 → isStk (some o2) = false → look' ((back ids slot out2.length j).getD 0) = conv o2 := by
    intro j o2 hj hns
    rw [← hL, updL_append, updL_kills, if_neg, atKey j o2 hj hns]
    intro hb
    exact borNot _ hb (inU j (lt2 hj))
  have lookStk : ∀ (j : Nat) (o2 : O), out2[j]? = some o2 → isStk (some o2) = true → look' ((back ids slot out2.length j).getD 0) = look ((back ids slot out2.length j).getD 0) := by
    intro j o2 hj hns
    rw [← hL, updL_append, updL_kills, if_neg, atStk j o2 hj hns]
    intro hb
    exact borNot _ hb (inU j (lt2 hj))
  have lookBor : ∀ id ∈ bor, look' id = some .gone := by
    intro id hid
    rw [← hL, updL_append, updL_kills, if_pos hid]
  have lookElse : ∀ id, id ∉ bor → id ∉ (number ids slot out2).map (·.1) → look' id = look id := by
    intro id h1 h2
    rw [← hL, updL_append, updL_kills, if_neg h1, notKey id h2]
  -- where the objects lie
  let β' : Int → Nat := fun | .ofNat id => if look id = none then βd (ids.length + (id - slot) : Nat) else β id | .negSucc id => if look id = none then bs βd (ids.length + (id - slot)) else bs β id
  have βn : ∀ id : Nat, β' id = if look id = none then βd (ids.length + (id - slot) : Nat) else β id := fun _ => rfl
  have βb : ∀ id : Nat, bs β' id = if look id = none then bs βd (ids.length + (id - slot)) else bs β id := fun _ => rfl
  have βold : ∀ (id : Nat) o, look id = some o → β' id = β id := fun id o h => by rw [βn, h, if_neg (by simp)]
  have βolb : ∀ (id : Nat) o, look id = some o → bs β' id = bs β id := fun id o h => by rw [βb, h, if_neg (by simp)]
  have hidIn : ∀ id ∈ ids, id ∈ (number ids slot out2).map (·.1) := by
    intro id hid
    obtain ⟨j, hj⟩ := List.getElem?_of_mem hid
    have hjl : j < ids.length := by
      rcases Nat.lt_or_ge j ids.length with h | h
      · exact h
      · rw [List.getElem?_eq_none h] at hj; cases hj
    obtain ⟨x, p1, p2, _⟩ := keyLt j hjl
    rw [hj] at p1; cases p1
    rw [← p2]
    exact inU j (by omega)
  have hsho : ∀ (j : Nat) (o2 : O), out2[j]? = some o2 → ∃ o : O, out[j]? = some o ∧ renO (back ids slot out.length) o = some o2 ∧ shO o2 = shO o := by
    intro j o2 h
    obtain ⟨o, h1, h2⟩ := (mapO_all2 hr2).get_right h
    exact ⟨o, h1, h2, renO_sh h2⟩
  have hbackE : back ids slot out2.length = back ids slot out.length := by rw [hol]
  have hshc : ∀ o : O, (conv o).bind shO = shO o := by intro o; cases o <;> rfl
  have hshl : ∀ (j : Nat) (o : O), out[j]? = some o → shL (lk out) j = shO o := by
    intro j o h
    unfold shL lk
    rw [h]
    cases o <;> rfl
  have keyStk : ∀ (j : Nat) (o2 : O), out2[j]? = some o2 → isStk (some o2) = true → ∃ id k els cur root cur2 root2, ids[j]? = some id ∧ j < ids.length ∧ (back ids slot out2.length j).getD 0 = id ∧ look id = some (.stk k els cur root) ∧ o2 = .stk k els cur2 root2 := by
    intro j o2 h hs
    rcases hB j o2 h with ⟨id, k, els, cur, root, cur2, root2, h1, h2, h3⟩ | ⟨h1, _⟩
    · have hj : j < ids.length := by
        rcases Nat.lt_or_ge j ids.length with h' | h'
        · exact h'
        · rw [List.getElem?_eq_none h'] at h1; cases h1
      obtain ⟨x, p1, p2, _⟩ := keyLt j hj
      rw [h1] at p1; cases p1
      exact ⟨id, k, els, cur, root, cur2, root2, h1, hj, p2, h2, h3⟩
    · rw [hs] at h1; cases h1
  have shK2 : ∀ (j : Nat) (o2 : O), out2[j]? = some o2 → shL look' ((back ids slot out2.length j).getD 0) = shO o2 := by
    intro j o2 h
    cases hs : isStk (some o2) with
    | false => show (look' _).bind shO = _; rw [lookKey j o2 h hs, hshc]
    | true =>
      obtain ⟨id, k, els, cur, root, cur2, root2, h1, _, h2, h3, h4⟩ := keyStk j o2 h hs
      show (look' _).bind shO = _
      rw [lookStk j o2 h hs, h2, h3, h4]; rfl
  have shKey : ∀ (j : Nat) (o2 : O), out2[j]? = some o2 → shL look' ((back ids slot out2.length j).getD 0) = shL (lk out) j := by
    intro j o2 h
    obtain ⟨o, h1, h2, h3⟩ := hsho j o2 h
    rw [hshl j o h1, shK2 j o2 h, h3]
  -- an object with number j in the callee, which lives, lies where its number in the caller says
  have βkey : ∀ (j : Nat) (o2 : O), out2[j]? = some o2 → alive o2 = true → β' ((back ids slot out2.length j).getD 0 : Nat) = βd j ∧ bs β' ((back ids slot out2.length j).getD 0) = bs βd j := by
    intro j o2 h ha
    have hj : j < out2.length := by
      rcases Nat.lt_or_ge j out2.length with h' | h'
      · exact h'
      · rw [List.getElem?_eq_none h'] at h; cases h
    rcases Nat.lt_or_ge j ids.length with hlt | hge
    · obtain ⟨x, p1, p2, _⟩ := keyLt j hlt
      obtain ⟨o, o', q1, q2, q3⟩ := prep_get' hm hr p1
      rw [p2, βold x o q1, βolb x o q1]
      have hsc : ∃ s, shL (lk objs') j = some s := by
        have hoh := look_not_hole q3 (enterO_hole fun e => hH x (by rw [q1, e]))
        have : shL (lk objs') j = shO o' := by simp [shL, lk_of q2 hoh]
        rw [this]
        cases o' <;> first | exact ⟨_, rfl⟩ | exact absurd rfl hoh
      obtain ⟨s, hs⟩ := hsc
      have hbc : βc β ids j = β x := by simp [βc_nat, List.getD, p1]
      have hbb : bs (βc β ids) j = bs β x := by simp [βc_bs, List.getD, p1]
      rcases hst.ids j s (by omega) hs with ⟨a, _, _, a'⟩ | ⟨_, g⟩ | ⟨_, g⟩
      · exact ⟨by rw [a, hbc], by rw [a', hbb]⟩
      · rw [← shKey j o2 h] at g
        obtain ⟨s', h1, h2⟩ := alive_sh.1 ha
        rw [shK2 j o2 h, h1] at g; cases g; exact absurd rfl h2
      · rw [← shKey j o2 h] at g
        obtain ⟨s', h1, h2⟩ := alive_sh.1 ha
        rw [shK2 j o2 h, h1] at g; cases g; exact absurd rfl h2
    · rw [(keyGe j hge hj).1]
      rw [βn, βb, hext j hge hj, if_pos rfl, if_pos rfl]
      have e : ids.length + (slot + (j - ids.length) - slot) = j := by omega
      rw [e]
      exact ⟨rfl, rfl⟩
  have hRen : Ren (back ids slot out.length) βd (shL (lk out)) β' (shL look') := by
    intro j id h
    rw [← hbackE] at h
    have hj : j < out2.length := by
      unfold back at h
      split at h
      · omega
      · split at h
        · assumption
        · cases h
    have hk : (back ids slot out2.length j).getD 0 = id := by rw [h]; rfl
    have ho2 : out2[j]? = some out2[j] := by simp [hj]
    have hal : (∃ s, shL (lk out) j = some s ∧ s ≠ .gone) → alive out2[j] = true := by
      rintro ⟨s, h1, h2⟩
      obtain ⟨o, p1, p2, p3⟩ := hsho j _ ho2
      rw [hshl j o p1] at h1
      exact alive_sh.2 ⟨s, by rw [p3, h1], h2⟩
    refine ⟨by rw [← hk]; exact shKey j _ ho2, fun h => ?_, fun h => ?_⟩
    · rw [← hk]; exact (βkey j _ ho2 (hal h)).1
    · rw [← hk]; exact (βkey j _ ho2 (hal h)).2
  -- which objects live
  have cases' : ∀ (id : Nat) (o : O), look' id = some o → alive o = true → (∃ (j : Nat) (o2 : O), out2[j]? = some o2 ∧ alive o2 = true ∧ (back ids slot out2.length j).getD 0 = id ∧ β' id = βd j ∧ bs β' id = bs βd j ∧ (o2 = o ∨ ∃ k els cur root cur2 root2, o = .stk k els cur root ∧ o2 = .stk k els cur2 root2 ∧ look id = some o)) ∨ (id ∉ ids ∧ id ∉ bor ∧ look id = some o ∧ β' id = β id ∧ bs β' id = bs β id) := by
    intro id o h ha
    by_cases hb : id ∈ bor
    · rw [lookBor id hb] at h; cases h; cases ha
    · by_cases hk : id ∈ (number ids slot out2).map (·.1)
      · obtain ⟨j, o2, h1, h2⟩ := keyOf id hk
        left
        cases hs : isStk (some o2) with
        | false =>
          have := lookKey j o2 h1 hs
          rw [h2, h] at this
          have : o2 = o := conv_some this.symm
          subst this
          obtain ⟨b1, b2⟩ := βkey j _ h1 ha
          exact ⟨j, _, h1, ha, h2, by rw [← h2]; exact b1, by rw [← h2]; exact b2, .inl rfl⟩
        | true =>
          obtain ⟨id', k, els, cur, root, cur2, root2, q1, _, q2, q3, q4⟩ := keyStk j o2 h1 hs
          have ha2 : alive o2 = true := by rw [q4]; rfl
          obtain ⟨b1, b2⟩ := βkey j _ h1 ha2
          have hl := lookStk j o2 h1 hs
          rw [h2] at hl q2
          subst q2
          rw [h] at hl
          exact ⟨j, o2, h1, ha2, h2, by rw [← h2]; exact b1, by rw [← h2]; exact b2, .inr ⟨k, els, cur, root, cur2, root2, by rw [q3] at hl; exact Option.some.inj hl, q4, hl.symm⟩⟩
      · rw [lookElse id hb hk] at h
        exact .inr ⟨fun hid => hk (hidIn id hid), hb, h, βold id o h, βolb id o h⟩
  have liveD : ∀ (j : Nat) (o2 : O), out2[j]? = some o2 → alive o2 = true → ∃ o, lk out j = some o ∧ alive o = true ∧ renO (back ids slot out.length) o = some o2 := by
    intro j o2 h ha
    obtain ⟨o, h1, h2, h3⟩ := hsho j o2 h
    have hao : alive o = true := by rw [alive_sh, ← h3, ← alive_sh]; exact ha
    exact ⟨o, lk_of h1 (by rintro rfl; cases hao), hao, h2⟩
  -- one that is not handed on, and lies in the array of one that is
  have shared : ∀ (q : Nat) (o : O), look q = some o → alive o = true → q ∉ ids → ∀ (i : Nat) (oi : O), i ∈ ids → look i = some oi → alive oi = true → β i = β q →
      ∃ (j : Nat) (k : Nat) (l t : List (List D)) (c : Option Nat) (r : Bool) (c2 : Option Nat) (r2 : Bool) (c3 : Option Nat), ids[j]? = some i ∧ j < ids.length ∧ o = .stk k l (some i) r ∧ oi = .stk k (l ++ t) c false ∧ bs β q = bs β i ∧ out2[j]? = some (.stk k (l ++ t) c2 r2) ∧ βd j = β q ∧ bs βd j = bs β q ∧ c3 = c := by
    intro q o hq ha hqi i oi hi hlo hao hb
    rcases hS.inj q i o oi hq hlo ha hao hb.symm with h | h | h
    · subst h; exact absurd hi hqi
    · obtain ⟨k, l, l', r, c, g1, g2, g3, t, g4⟩ := h
      rw [hq] at g1; cases g1
      rw [hlo] at g2; cases g2
      subst g4
      obtain ⟨j, hj⟩ := List.getElem?_of_mem hi
      have hjl : j < ids.length := by
        rcases Nat.lt_or_ge j ids.length with h | h
        · exact h
        · rw [List.getElem?_eq_none h] at hj; cases hj
      have ho2 : out2[j]? = some (out2[j]'(by omega)) := by simp
      obtain ⟨x, p1, p2, _⟩ := keyLt j hjl
      rw [hj] at p1; cases p1
      rcases hB j _ ho2 with ⟨id, k', els, cur, root, cur2, root2, h1, h2, h3⟩ | ⟨_, h2⟩
      · rw [hj] at h1; cases h1
        rw [hlo] at h2; cases h2
        have hal : alive (out2[j]'(by omega)) = true := by rw [h3]; rfl
        obtain ⟨b1, b2⟩ := βkey j _ ho2 hal
        rw [p2, βold i _ hlo] at b1
        rw [p2, βolb i _ hlo] at b2
        exact ⟨j, k, l, t, c, r, cur2, root2, c, hj, hjl, rfl, rfl, g3, by rw [ho2, h3], by rw [← b1, hb], by rw [← b2, g3], rfl⟩
      · have := h2 i hj
        rw [hlo] at this; cases this
    · obtain ⟨k, l, l', r, c, g1, g2, g3, g4⟩ := h
      have h9 := hstk
      simp only [stkOK, Bool.and_eq_true] at h9
      have := List.all_eq_true.1 h9.2 i hi
      rw [g1] at this
      cases this
  have hlive' : ∀ b, Live β' look' b → Live βd (lk out) b ∨ (Fc F β look ids bor b ∧ Live β look b) := by
    rintro b ⟨id, o, h1, h2, rfl⟩
    rcases cases' id o h1 h2 with ⟨j, o2, p1, p1', p2, p3, _, _⟩ | ⟨p1, p2, p3, p4⟩
    · obtain ⟨o', q1, q2, _⟩ := liveD j o2 p1 p1'
      exact .inl ⟨j, o', q1, q2, p3.symm⟩
    · rw [p4.1]
      by_cases hsh : ∃ j o', j ∈ ids ∧ look j = some o' ∧ alive o' = true ∧ β j = β id
      · obtain ⟨i, oi, g1, g2, g3, g4⟩ := hsh
        obtain ⟨j, k, l, t, c, r, c2, r2, c3, e1, e2, e3, e4, e5, e6, e7, e8, _⟩ := shared id o p3 h2 p1 i oi g1 g2 g3 g4
        obtain ⟨o', q1, q2, _⟩ := liveD j _ e6 rfl
        exact .inl ⟨j, o', q1, q2, e7⟩
      · exact .inr ⟨.inr ⟨id, o, p3, h2, p1, p2, rfl, hsh⟩, ⟨id, o, p3, h2, rfl⟩⟩
  have hN : ∀ b, Nn w' (Fc F β look ids bor) βd (lk out) b → Nn w' F β' look' b := by
    rintro b ⟨h1, h2, h3⟩
    refine ⟨h1, fun h => h2 (.inl h), fun h => ?_⟩
    rcases hlive' b h with h | h
    · exact h3 h
    · exact h2 h.1
  have notLiveC : ∀ b, ¬ Live β look b → ¬ Live (βc β ids) (lk objs') b := by
    intro b hb h
    obtain ⟨id, o, _, h1, h2, h3⟩ := hlivec b h
    exact hb ⟨id, o, h1, h2, h3⟩
  have keepBlock : ∀ id o, look id = some o → alive o = true → id ∉ ids → (¬ ∃ j o', j ∈ ids ∧ look j = some o' ∧ alive o' = true ∧ β j = β id) → w'.heap[β id]? = w.heap[β id]? := by
    intro id o h1 h2 h3 hsh
    refine hst.block _ (hS.live id o h1 h2).1 fun h => ?_
    obtain ⟨id', o', q0, q1, q2, q3⟩ := hlivec _ h
    exact hsh ⟨id', o', q0, q1, q2, q3⟩
  have st : St (fun _ => True) w β look w' β' look' := by
    refine ⟨hst.os, hst.tape, hst.output, hst.size, fun b hb hl => hst.block b hb (notLiveC b hl), fun b hb => ?_, fun id s _ hs => ?_⟩
    · rcases hlive' b hb with h | h
      · rcases hst.born b h with h | h
        · obtain ⟨id, o, _, h1, h2, h3⟩ := hlivec b h
          exact .inl ⟨id, o, h1, h2, h3⟩
        · exact .inr h
      · exact .inl h.2
    · obtain ⟨o, ho, hso⟩ := shL_alive hs
      by_cases hid : id ∈ ids
      · obtain ⟨j, hj⟩ := List.getElem?_of_mem hid
        have hjl : j < ids.length := by
          rcases Nat.lt_or_ge j ids.length with h | h
          · exact h
          · rw [List.getElem?_eq_none h] at hj; cases hj
        obtain ⟨x, p1, p2, _⟩ := keyLt j hjl
        rw [hj] at p1; cases p1
        obtain ⟨o1, o', q1, q2, q3⟩ := prep_get' hm hr hj
        rw [ho] at q1; cases q1
        have hoh := look_not_hole q3 (enterO_hole fun e => hH id (by rw [ho, e]))
        have hsc : shL (lk objs') j = some s := by
          have : shL (lk objs') j = shO o' := by simp [shL, lk_of q2 hoh]
          rw [this, renO_sh q3, enterO_sh, hso]
        have hbc : βc β ids j = β id := by simp [βc_nat, List.getD, hj]
        have hbb : bs (βc β ids) j = bs β id := by simp [βc_bs, List.getD, hj]
        have ho2 : out2[j]? = some (out2[j]'(by omega)) := by simp
        have hk := shKey j _ ho2
        rw [p2] at hk
        rcases hst.ids j s (by omega) hsc with ⟨a, b, c, d⟩ | ⟨a, g⟩ | ⟨a, g⟩
        · exact .inl ⟨βold id o ho, by rw [hk, b], by rw [← hbc]; exact c, βolb id o ho⟩
        · exact .inr (.inl ⟨a, by rw [hk, g]⟩)
        · exact .inr (.inr ⟨a, by rw [hk, g]⟩)
      · by_cases hb : id ∈ bor
        · obtain ⟨k, els, hl⟩ := hbor id hb
          rw [ho] at hl
          cases hl
          have : s = .arr k els.length := by simpa [shO] using hso.symm
          exact .inr (.inl ⟨by rw [this]; rfl, by simp [shL, lookBor id hb, shO]⟩)
        · have hnk : id ∉ (number ids slot out2).map (·.1) := by
            intro hk
            obtain ⟨j, o2, h1, h2⟩ := keyOf id hk
            have hj : j < out2.length := by
              rcases Nat.lt_or_ge j out2.length with h | h
              · exact h
              · rw [List.getElem?_eq_none h] at h1; cases h1
            rcases Nat.lt_or_ge j ids.length with h | h
            · obtain ⟨x, p1, p2, _⟩ := keyLt j h
              rw [p2] at h2; subst h2
              exact hid (List.mem_of_getElem? p1)
            · rw [(keyGe j h hj).1] at h2
              have := hext j h hj
              rw [h2, ho] at this; cases this
          have hsl : shL look' id = some s := by simp only [shL, lookElse id hb hnk]; exact hs
          by_cases hg : s = .gone
          · subst hg; exact .inr (.inr ⟨rfl, hsl⟩)
          · refine .inl ⟨βold id o ho, hsl, ?_, βolb id o ho⟩
            by_cases hsh : ∃ j o', j ∈ ids ∧ look j = some o' ∧ alive o' = true ∧ β j = β id
            · obtain ⟨i, oi, g1, g2, g3, g4⟩ := hsh
              obtain ⟨j, k, l, t, c, r, c2, r2, c3, e1, e2, e3, e4, e5, e6, e7, e8, _⟩ := shared id o ho (shO_alive hso hg) hid i oi g1 g2 g3 g4
              obtain ⟨o1, o', q1, q2, q3⟩ := prep_get' hm hr e1
              rw [g2] at q1; cases q1
              have hoh := look_not_hole q3 (enterO_hole fun e => hH i (by rw [g2, e]))
              have hsc : shL (lk objs') j = some (.stk k (l ++ t).length) := by
                have : shL (lk objs') j = shO o' := by simp [shL, lk_of q2 hoh]
                rw [this, renO_sh q3, enterO_sh, e4]; rfl
              have hbc : βc β ids j = β i := by simp [βc_nat, List.getD, e1]
              rcases hst.ids j _ (by omega) hsc with ⟨_, _, x3, _⟩ | ⟨_, x2⟩ | ⟨x1, _⟩
              · rw [hbc, g4] at x3; exact x3
              · rw [← shKey j _ e6, shK2 j _ e6] at x2; cases x2
              · cases x1
            · exact shape_of_block (keepBlock id o ho (shO_alive hso hg) hid hsh)
  refine ⟨β', ⟨fun b hb => Nat.lt_of_lt_of_le (hS.flt b hb) hst.size, fun id o h ha => ?_, fun id id' o o' h h' ha ha' hbb => ?_, hS.laid.st st⟩, st, hRen, hN⟩
  · rcases cases' id o h ha with ⟨j, o2, p1, p1', p2, p3, p4, p5⟩ | ⟨p1, p2, p3, p4⟩
    · obtain ⟨o1, q1, q2, q3⟩ := liveD j o2 p1 p1'
      obtain ⟨a, b, c⟩ := hSd.live j o1 q1 q2
      rw [p3, p4]
      refine ⟨a, fun hf => b (.inl hf), ?_⟩
      have hro := renO_RO hRen hN c q3
      rcases p5 with rfl | ⟨k, els, cur, root, cur2, root2, rfl, rfl, _⟩
      · exact hro
      · exact hro
    · obtain ⟨a, b, c⟩ := hS.live id o p3 ha
      rw [p4.1, p4.2]
      by_cases hsh : ∃ j o', j ∈ ids ∧ look j = some o' ∧ alive o' = true ∧ β j = β id
      · obtain ⟨i, oi, g1, g2, g3, g4⟩ := hsh
        obtain ⟨j, k, l, t, c', r, c2, r2, c3, e1, e2, rfl, e4, e5, e6, e7, e8, _⟩ := shared id o p3 ha p1 i oi g1 g2 g3 g4
        obtain ⟨o1, q1, q2, q3⟩ := liveD j _ e6 rfl
        obtain ⟨a', b', cc⟩ := hSd.live j o1 q1 q2
        have hro := renO_RO hRen hN cc q3
        rw [e7, e8] at hro
        obtain ⟨vals, ty, hv, hc⟩ := (RO_iff rfl).1 hro
        refine ⟨Nat.lt_of_lt_of_le a hst.size, b, ?_⟩
        rw [RO_iff rfl]
        exact ⟨vals, ty, hv, hc.pre⟩
      · exact ⟨Nat.lt_of_lt_of_le a hst.size, b, RO.mono st.keep st.ids (keepBlock id o p3 ha p1 hsh) c⟩
  · have mixed : ∀ (id id' : Nat) (o o' : O) (j : Nat) (o2 : O), look' id = some o → look' id' = some o' → alive o' = true → out2[j]? = some o2 → alive o2 = true → (back ids slot out2.length j).getD 0 = id → β' id = βd j → (o2 = o ∨ ∃ k els cur root cur2 root2, o = .stk k els cur root ∧ o2 = .stk k els cur2 root2 ∧ look id = some o) →
        id' ∉ ids → id' ∉ bor → look id' = some o' → β' id' = β id' → bs β' id' = bs β id' → β' id = β' id' → Kin β' look' id' id := by
      intro id id' o o' j o2 h h' ha' p1 p1' p2 p3 p5 q1 q2 q3 q4 q5 hbb
      obtain ⟨o1, r1, r2, _⟩ := liveD j o2 p1 p1'
      by_cases hsh : ∃ j o'', j ∈ ids ∧ look j = some o'' ∧ alive o'' = true ∧ β j = β id'
      · obtain ⟨i, oi, g1, g2, g3, g4⟩ := hsh
        obtain ⟨ji, k, l, t, c', r, c2, r2', c3, e1, e2, e3, e4, e5, e6, e7, e8, _⟩ := shared id' o' q3 ha' q1 i oi g1 g2 g3 g4
        obtain ⟨oj, s1, s2, s3⟩ := liveD ji _ e6 rfl
        -- both lie in one array in the callee
        have hji : j = ji := by
          rcases hSd.inj j ji o1 oj r1 s1 r2 s2 (by rw [e7, ← p3, hbb, q4]) with h | h | h
          · exact h
          · have hs := h.stk.1
            rw [r1] at hs
            obtain ⟨o1', t1, t2, t3⟩ := hsho j o2 p1
            rw [lk_some r1] at t1; cases t1
            have hs2 : isStk (some o2) = true := by rw [ren_stk t2]; exact hs
            obtain ⟨x, k', els, cur, root, cur2, root2, y1, y2, y3, y4, y5⟩ := keyStk j o2 p1 hs2
            have : x = i := stk_one hstk (List.mem_of_getElem? y1) g1 (by rw [y4]; rfl) (by rw [g2, e4]; rfl)
            subst this
            exact nodup_get hnd y1 e1
          · have hs := h.stk.2
            rw [r1] at hs
            obtain ⟨o1', t1, t2, t3⟩ := hsho j o2 p1
            rw [lk_some r1] at t1; cases t1
            have hs2 : isStk (some o2) = true := by rw [ren_stk t2]; exact hs
            obtain ⟨x, k', els, cur, root, cur2, root2, y1, y2, y3, y4, y5⟩ := keyStk j o2 p1 hs2
            have : x = i := stk_one hstk (List.mem_of_getElem? y1) g1 (by rw [y4]; rfl) (by rw [g2, e4]; rfl)
            subst this
            exact nodup_get hnd y1 e1
        subst hji
        obtain ⟨x, y1, y2, _⟩ := keyLt j e2
        rw [e1] at y1; cases y1
        have hid : id = i := by rw [← p2, y2]
        subst hid
        rw [e6] at p1; cases p1
        have hlid : look' id = look id := by
          have := lookStk j _ e6 rfl
          rw [y2] at this; exact this
        refine ⟨k, l, l ++ t, r, c', by rw [h', e3], by rw [hlid, g2, e4], ?_, List.prefix_append _ _⟩
        rw [q5, βolb id _ g2]
        exact e5
      · exfalso
        refine (hSd.live j o1 r1 r2).2.1 (.inr ⟨id', o', q3, ha', q1, q2, ?_, ?_⟩)
        · rw [← p3, hbb, q4]
        · rw [← p3, hbb, q4]; exact hsh
    rcases cases' id o h ha with ⟨j, o2, p1, p1', p2, p3, p4, p5⟩ | ⟨p1, p2, p3, p4⟩ <;> rcases cases' id' o' h' ha' with ⟨j', o2', q1, q1', q2, q3, q4, q5⟩ | ⟨q1, q2, q3, q4⟩
    · obtain ⟨o1, r1, r2, r3⟩ := liveD j o2 p1 p1'
      obtain ⟨o1', s1, s2, s3⟩ := liveD j' o2' q1 q1'
      rw [p3, q3] at hbb
      left
      have stkOf : ∀ {j : Nat} {o1 o2 : O}, lk out j = some o1 → out2[j]? = some o2 → isStk (lk out j) = true → isStk (some o2) = true := by
        intro j o1 o2 hl h2 hs
        rw [hl] at hs
        obtain ⟨o1', t1, t2, t3⟩ := hsho j o2 h2
        rw [lk_some hl] at t1; cases t1
        rw [ren_stk t2]; exact hs
      have both : isStk (lk out j) = true → isStk (lk out j') = true → id = id' := by
        intro hs hs'
        obtain ⟨x, k', els, cur, root, cur2, root2, y1, y2, y3, y4, y5⟩ := keyStk j o2 p1 (stkOf r1 p1 hs)
        obtain ⟨x', k'', els', cur', root', cur2', root2', z1, z2, z3, z4, z5⟩ := keyStk j' o2' q1 (stkOf s1 q1 hs')
        have : x = x' := stk_one hstk (List.mem_of_getElem? y1) (List.mem_of_getElem? z1) (by rw [y4]; rfl) (by rw [z4]; rfl)
        rw [← p2, ← q2, y3, z3, this]
      rcases hSd.inj j j' o1 o1' r1 s1 r2 s2 hbb with h | h | h
      · subst h; rw [← p2, q2]
      · exact both h.stk.1 h.stk.2
      · exact both h.stk.2 h.stk.1
    · exact .inr (.inr (mixed id id' o o' j o2 h h' ha' p1 p1' p2 p3 p5 q1 q2 q3 q4.1 q4.2 hbb))
    · exact .inr (.inl (mixed id' id o' o j' o2' h' h ha q1 q1' q2 q3 q5 p1 p2 p3 p4.1 p4.2 hbb.symm))
    · rw [p4.1, q4.1] at hbb
      exact kin_mono (hS.inj id id' o o' p3 q3 ha ha' hbb) (by rw [h, p3]) (by rw [h', q3]) p4.2 q4.2
end
end Go.Proofs.YteenjodhmppgjaaGreatDoor.Am
end
section
/- The abstract machine: an own slice handed to a function that only reads and lengthens it. -/
namespace Go.Proofs.YteenjodhmppgjaaGreatDoor.Am
open Go
section
variable {P : Program} {w : World} {F : Nat → Prop} {β : Int → Nat}
theorem castO_alive (o : O) : alive (castO o) = alive o := by cases o <;> rfl
theorem lk_cast (objs : List O) (id : Nat) : lk (objs.map castO) id = (lk objs id).map castO := by
  unfold lk
  rw [List.getElem?_map]
  cases h : objs[id]? with
  | none => rfl
  | some o => cases o <;> rfl
/-- The shapes before and behind. -/
def ShC (sh sh' : Nat → Option Sh) : Prop := ∀ id, sh' id = sh id ∨ ∃ k n, sh id = some (.arr k n) ∧ sh' id = some (.stk k n)
theorem ShC.other {sh sh' : Nat → Option Sh} (h : ShC sh sh') {id : Nat} {s : Sh} (hs : sh id = some s) (ha : ∀ k n, s ≠ .arr k n) : sh' id = some s := by
  rcases h id with e | ⟨k, n, e, _⟩
  · rw [e, hs]
  · rw [hs] at e; cases e; exact absurd rfl (ha k n)
theorem cast_sh (objs : List O) : ShC (shL (lk objs)) (shL (lk (objs.map castO))) := by
  intro id
  unfold shL
  rw [lk_cast]
  cases lk objs id with
  | none => exact .inl rfl
  | some o => cases o <;> first | exact .inl rfl | exact .inr ⟨_, _, rfl, rfl⟩
theorem RepD.same {N N' : Nat → Prop} (h : ∀ b, N b → N' b) {v : Value} {x : D} (hr : RepD w N v x) : RepD w N' v x := RepD.mono (fun b hb => ⟨h b hb, rfl⟩) hr
theorem cast_RC {N N' : Nat → Prop} {sh sh' : Nat → Option Sh} (hN : ∀ b, N b → N' b) (hs : ShC sh sh') {v : Value} {c : C} (hc : noApC c = true) (h : RC w N β sh v c) : RC w N' β sh' v c := by
  cases c with
  | d x => exact RepD.same hN h
  | ptr id off => exact ⟨hs.other h.1 (by simp), h.2⟩
  | elt k els i off => obtain ⟨b, o, cap, h1, h2, h3⟩ := h; exact ⟨b, o, cap, RepD.same hN h1, h2, h3⟩
  | own id =>
    rcases h with ⟨k, n, cap, h1, h2⟩ | ⟨h1, h2⟩ | ⟨k, n, cap, h1, h2⟩
    · rcases hs id with e | ⟨k', n', e, e'⟩
      · exact .inl ⟨k, n, cap, by rw [e, h1], h2⟩
      · rw [h1] at e; cases e
        exact .inr (.inr ⟨k, n, cap, e', h2⟩)
    · exact .inr (.inl ⟨hs.other h1 (by simp), h2⟩)
    · exact .inr (.inr ⟨k, n, cap, hs.other h1 (by simp), h2⟩)
  | ap id i off => cases hc
  | fn f a b => exact ⟨h.1, fun id hid => hs.other (h.2 id hid) (by simp)⟩
  | rf m id => exact ⟨hs.other h.1 (by simp), h.2⟩
  | any => trivial
theorem cast_RK {N N' : Nat → Prop} {sh sh' : Nat → Option Sh} (hN : ∀ b, N b → N' b) (hs : ShC sh sh') {l : List Value} {cs : List C} (hc : cs.all noApC = true) (h : All2 (RK w N β sh) l cs) : All2 (RK w N' β sh') l cs := by
  induction h with
  | nil => exact .nil
  | cons p _ ih =>
    simp only [List.all_cons, Bool.and_eq_true] at hc
    exact .cons ⟨p.1, cast_RC hN hs hc.1 p.2⟩ (ih hc.2)
theorem cast_RPt {N N' : Nat → Prop} {sh sh' : Nat → Option Sh} (hN : ∀ b, N b → N' b) (hs : ShC sh sh') {l : List Value} {ps : List (Bool × List C)} (hc : ps.all noApP = true) (h : All2 (RPt w N β sh) l ps) : All2 (RPt w N' β sh') l ps := by
  induction h with
  | nil => exact .nil
  | @cons v p _ _ h1 _ ih =>
    simp only [List.all_cons, Bool.and_eq_true] at hc
    refine .cons ?_ (ih hc.2)
    obtain ⟨b, cs⟩ := p
    cases b with
    | true => obtain ⟨a, e, h2⟩ := h1; exact ⟨a, e, cast_RK hN hs hc.1 h2⟩
    | false =>
      obtain ⟨x, e, h2⟩ := h1
      dsimp only at e
      subst e
      have := hc.1
      simp only [noApP, List.all_cons, Bool.and_eq_true] at this
      exact ⟨x, rfl, cast_RC hN hs this.1 h2⟩
theorem cast_RV {N N' : Nat → Prop} {sh sh' : Nat → Option Sh} (hN : ∀ b, N b → N' b) (hs : ShC sh sh') {v : Value} {x : V} (hc : noApV x = true) (h : RV w N β sh v x) : RV w N' β sh' v x := by
  cases x with
  | c y => exact cast_RC hN hs hc h
  | agg cs => obtain ⟨a, e, h⟩ := h; exact ⟨a, e, cast_RK hN hs hc h⟩
  | tup vs => obtain ⟨a, e, h⟩ := h; exact ⟨a, e, cast_RPt hN hs hc h⟩
theorem cast_live (objs : List O) (b : Nat) : Live β (lk (objs.map castO)) b ↔ Live β (lk objs) b := by
  constructor
  · rintro ⟨id, o, h1, h2, h3⟩
    rw [lk_cast] at h1
    obtain ⟨o', p1, rfl⟩ := Option.map_eq_some_iff.1 h1
    exact ⟨id, o', p1, by rw [castO_alive] at h2; exact h2, h3⟩
  · rintro ⟨id, o, h1, h2, h3⟩
    exact ⟨id, castO o, by rw [lk_cast, h1]; rfl, by rw [castO_alive]; exact h2, h3⟩
theorem cast_nn (objs : List O) (b : Nat) : Nn w F β (lk (objs.map castO)) b ↔ Nn w F β (lk objs) b := by unfold Nn; rw [cast_live]
theorem sim_cast {objs : List O} (hS : Sim w F β (lk objs)) (hO : objs.all noApO = true) : Sim w F β (lk (objs.map castO)) := by
  have hN : ∀ b, Nn w F β (lk objs) b → Nn w F β (lk (objs.map castO)) b := fun b hb => (cast_nn objs b).2 hb
  refine ⟨hS.flt, fun id o h ha => ?_, fun id id' o o' h h' ha ha' hb => ?_, hS.laid.same fun b hb => (cast_live objs b).1 hb⟩
  · rw [lk_cast] at h
    obtain ⟨o', p1, rfl⟩ := Option.map_eq_some_iff.1 h
    rw [castO_alive] at ha
    obtain ⟨a, b, c⟩ := hS.live id o' p1 ha
    refine ⟨a, b, ?_⟩
    have hno := List.all_eq_true.1 hO o' (List.mem_of_getElem? (lk_some p1))
    cases o' with
    | box cs => obtain ⟨vals, ty, e, h⟩ := c; exact ⟨vals, ty, e, cast_RK hN (cast_sh objs) hno h⟩
    | arr k els => obtain ⟨vals, ty, e, h0, h1, h2, h3⟩ := c; exact ⟨vals, ty, e, h0, h1, h2, fun i l j x a b => let ⟨v, p, q⟩ := h3 i l j x a b; ⟨v, p, RepD.same hN q⟩⟩
    | stk k els cur root => obtain ⟨vals, ty, e, h0, h1, h2, h3⟩ := c; exact ⟨vals, ty, e, h0, h1, h2, fun i l j x a b => let ⟨v, p, q⟩ := h3 i l j x a b; ⟨v, p, RepD.same hN q⟩⟩
    | raw x => exact c
    | gone => trivial
    | hole => trivial
  · rw [lk_cast] at h h'
    obtain ⟨x, p1, rfl⟩ := Option.map_eq_some_iff.1 h
    obtain ⟨y, q1, rfl⟩ := Option.map_eq_some_iff.1 h'
    rw [castO_alive] at ha ha'
    have kin : ∀ i j, Kin β (lk objs) i j → Kin β (lk (objs.map castO)) i j := by
      rintro i j ⟨k, l, l', r, c, h1, h2, h3, h4⟩
      exact ⟨k, l, l', r, c, by rw [lk_cast, h1]; rfl, by rw [lk_cast, h2]; rfl, h3, h4⟩
    rcases hS.inj id id' x y p1 q1 ha ha' hb with h | h | h
    · exact .inl h
    · exact .inr (.inl (kin _ _ h))
    · exact .inr (.inr (kin _ _ h))
/-- Where the own slices stand. -/
def arrIx (objs : List O) : List Nat := (List.range objs.length).filter fun j => match objs[j]? with | some (.arr _ _) => true | _ => false
theorem mem_arrIx {objs : List O} {j : Nat} : j ∈ arrIx objs ↔ ∃ k els, objs[j]? = some (.arr k els) := by
  unfold arrIx
  rw [List.mem_filter]
  constructor
  · rintro ⟨_, h⟩
    split at h
    · rename_i k els e; exact ⟨k, els, e⟩
    · cases h
  · rintro ⟨k, els, e⟩
    refine ⟨?_, by rw [e]⟩
    rcases Nat.lt_or_ge j objs.length with h | h
    · exact List.mem_range.2 h
    · rw [List.getElem?_eq_none h] at e; cases e
theorem uncast_get : ∀ (objs outs : List O) (j : Nat), (uncast objs outs)[j]? = match objs[j]? with | some (.arr _ _) => outs[j]?.map fun _ => .gone | _ => outs[j]?
  | [], outs, j => by simp [uncast]
  | o :: r, [], j => by
    have : uncast (o :: r) [] = [] := by cases o <;> rfl
    rw [this]
    simp
    split <;> rfl
  | o :: r, o' :: r', j => by
    cases j with
    | zero => cases o <;> rfl
    | succ j =>
      have := uncast_get r r' j
      cases o <;> simpa [uncast] using this
theorem uncast_lk {objs outs : List O} (h : ∀ j ∈ arrIx objs, ∃ o, lk outs j = some o) : lk (uncast objs outs) = updL (lk outs) (kills (arrIx objs)) := by
  funext j
  rw [updL_kills]
  by_cases hj : j ∈ arrIx objs
  · rw [if_pos hj]
    obtain ⟨k, els, e⟩ := mem_arrIx.1 hj
    obtain ⟨o, ho⟩ := h j hj
    refine lk_of ?_ (by simp)
    rw [uncast_get, e, lk_some ho]
    rfl
  · rw [if_neg hj]
    have : (uncast objs outs)[j]? = outs[j]? := by
      rw [uncast_get]
      split
      · rename_i k els e; exact absurd (mem_arrIx.2 ⟨k, els, e⟩) hj
      · rfl
    unfold lk
    rw [this]
theorem RRes.mono {w' : World} {F' : Nat → Prop} {β' : Int → Nat} {look look' : Look} (hk : Keep w (Nn w F β look) w' (Nn w' F' β' look')) (hi : Ids (fun _ => True) w β (shL look) w' β' (shL look')) {v : Value} {vs : List V} (h : RRes w F β look v vs) : RRes w' F' β' look' v vs := by
  rcases h with ⟨y, e, h⟩ | ⟨h1, a, e, h⟩
  · exact .inl ⟨y, e, RV.mono hk hi h⟩
  · exact .inr ⟨h1, a, e, h.mono fun _ _ => RV.mono hk hi⟩
theorem cast_st {w' : World} {β' : Int → Nat} {objs outs : List O} (h : St (· < objs.length) w β (lk (objs.map castO)) w' β' (lk outs)) (hS : Sim w' F β' (lk outs)) :
    Sim w' F β' (lk (uncast objs outs)) ∧ St (fun _ => True) w' β' (lk outs) w' β' (lk (uncast objs outs)) ∧ St (· < objs.length) w β (lk objs) w' β' (lk (uncast objs outs)) := by
  have harr : ∀ j ∈ arrIx objs, ∃ s, shL (lk outs) j = some s ∧ s ≠ .box ∧ s ≠ .raw := by
    intro j hj
    obtain ⟨k, els, e⟩ := mem_arrIx.1 hj
    have hlt : j < objs.length := by
      rcases Nat.lt_or_ge j objs.length with h | h
      · exact h
      · rw [List.getElem?_eq_none h] at e; cases e
    have hs : shL (lk (objs.map castO)) j = some (.stk k els.length) := by unfold shL; rw [lk_cast, lk_of e (by simp)]; rfl
    rcases h.ids j _ hlt hs with ⟨_, g, _⟩ | ⟨_, g⟩ | ⟨_, g⟩
    · exact ⟨_, g, by simp, by simp⟩
    · exact ⟨_, g, by simp, by simp⟩
    · exact ⟨_, g, by simp, by simp⟩
  have hlk : lk (uncast objs outs) = updL (lk outs) (kills (arrIx objs)) := uncast_lk fun j hj => by
    obtain ⟨s, hs, _⟩ := harr j hj
    unfold shL at hs
    cases e : lk outs j with
    | none => rw [e] at hs; cases hs
    | some o => exact ⟨o, rfl⟩
  obtain ⟨h1, h2⟩ := sim_kills (arrIx objs) hS harr
  rw [hlk]
  refine ⟨h1, h2, ⟨h.os, h.tape, h.output, h.size, fun b hb hl => h.block b hb fun hl' => hl ((cast_live objs b).1 hl'), fun b hb => ?_, fun id s hm hs => ?_⟩⟩
  · rcases h2.born b hb with h3 | h3
    · rcases h.born b h3 with h4 | h4
      · exact .inl ((cast_live objs b).1 h4)
      · exact .inr h4
    · exact .inr (Nat.le_trans h.size h3)
  · by_cases ha : id ∈ arrIx objs
    · obtain ⟨k, els, e⟩ := mem_arrIx.1 ha
      have : shL (lk objs) id = some (.arr k els.length) := by unfold shL; rw [lk_of e (by simp)]; rfl
      rw [hs] at this
      cases this
      refine .inr (.inl ⟨rfl, ?_⟩)
      unfold shL
      rw [updL_kills, if_pos ha]
      rfl
    · have hsame : shL (updL (lk outs) (kills (arrIx objs))) id = shL (lk outs) id := by
        unfold shL
        rw [updL_kills, if_neg ha]
      have hs' : shL (lk (objs.map castO)) id = some s := by
        rcases cast_sh objs id with e | ⟨k, n, e, _⟩
        · rw [e, hs]
        · exfalso
          unfold shL at e
          cases e1 : lk objs id with
          | none => rw [e1] at e; cases e
          | some o =>
            rw [e1] at e
            cases o <;> cases e
            exact ha (mem_arrIx.2 ⟨_, _, lk_some e1⟩)
      rw [hsame]
      exact h.ids id s hm hs'
theorem callRec_ok {rec : Rec} {f : FuncId} (hrec : ∀ args objs out, rec (.call f args objs) = some out → CallOK P f args objs out) {args : List V} {objs : List O} {out : Out} (h : callRec rec f args objs = some out) : CallOK P f args objs out := by
  unfold callRec at h
  split at h
  · split at h
    case isFalse => cases h
    rename_i hno
    simp only [Bool.and_eq_true] at hno
    intro w F β vals hS hargs
    cases hr : rec (.call f args (objs.map castO)) with
    | none => rw [hr] at h; cases h
    | some out0 =>
      rw [hr] at h
      have hS' := sim_cast hS hno.2
      have hargs' : All2 (RVs w F β (lk (objs.map castO))) vals args := by
        have key : ∀ (vals : List Value) (args : List V), args.all noApV = true → All2 (RVs w F β (lk objs)) vals args → All2 (RVs w F β (lk (objs.map castO))) vals args := by
          intro vals args hc h
          induction h with
          | nil => exact .nil
          | cons p _ ih =>
            simp only [List.all_cons, Bool.and_eq_true] at hc
            exact .cons (cast_RV (fun b hb => (cast_nn objs b).2 hb) (cast_sh objs) hc.1 p) (ih hc.2)
        exact key _ _ hno.1 hargs
      refine (hrec _ _ _ hr w F β vals hS' hargs').mono fun e w' ho => ?_
      obtain ⟨β', ho⟩ := ho
      refine ⟨β', ?_⟩
      cases out0 with
      | ret vs outs =>
        cases h
        obtain ⟨v, e1, h2, h3, h4⟩ := ho
        rw [List.length_map] at h4
        obtain ⟨g1, g2, g3⟩ := cast_st h4 h3
        exact ⟨v, e1, h2.mono g2.keep g2.ids, g1, g3⟩
      | pan x outs =>
        cases h
        obtain ⟨e1, h3, h4⟩ := ho
        rw [List.length_map] at h4
        obtain ⟨g1, g2, g3⟩ := cast_st h4 h3
        exact ⟨e1, g1, g3⟩
  · exact hrec _ _ _ h
end
end Go.Proofs.YteenjodhmppgjaaGreatDoor.Am
end
section
/- The abstract machine: every operation is sound. -/
namespace Go.Proofs.YteenjodhmppgjaaGreatDoor.Am
open Go
section
variable {P : Program} {w : World} {F : Nat → Prop} {β : Int → Nat} {look : Look}
/-- What goes on behind an operation. -/
def Goes (P : Program) (w : World) (F : Nat → Prop) (β : Int → Nat) (look : Look) (a : Act) (o : Oper) (e : Eff) (r : Result Next) : Prop :=
  ∀ (next : Act → World → Prop) (Q : Exit → Act → World → Prop),
    (∀ w' β', Good w F β look e.upd w' β' → match e.res with
      | .val v => ∀ x, RVs w' F β' (updL look e.upd) x v → next (a.put o.dst x) w'
      | .pan x => Q (.panic [{ v := x, recovered := false }]) a w') → o.upon P a next Q r
theorem Runs.goes {a : Act} {o : Oper} {e : Eff} {r : Result Next} (h : Runs w F β look e r) : Goes P w F β look a o e r := by
  intro next Q hq
  obtain ⟨w', β', hg, h⟩ := h
  have := hq w' β' hg
  obtain ⟨res, upd, rd⟩ := e
  cases res with
  | val v =>
    rcases h with ⟨x, rfl, hx⟩ | ⟨rfl, hv⟩
    · exact this x hx
    · dsimp only at hv this
      subst hv
      exact this undef trivial
  | pan x =>
    dsimp only at h
    subst h
    exact this
theorem results1_rep {N : Nat → Prop} {sh : Nat → Option Sh} {a : List Value} {vs : List V} {l : List (Bool × List C)} (h : All2 (RV w N β sh) a vs) (hm : mapO comp vs = some l) : All2 (RPt w N β sh) a l :=
  h.comp (fun v x p h1 h2 => by
    cases x with
    | c y => cases h2; exact ⟨y, rfl, h1⟩
    | agg cs => cases h2; exact h1
    | tup _ => cases h2) (mapO_all2 hm)
theorem res_rep {v : Value} {vs : List V} {x : V} (h : RRes w F β look v vs) (hr : results1 vs = some x) : RVs w F β look v x := by
  unfold results1 at hr
  rcases h with ⟨y, rfl, h⟩ | ⟨hl, a, rfl, h⟩
  · simp only [Option.some.injEq] at hr; subst hr; exact h
  · split at hr
    · simp at hl
    · cases hm : mapO comp vs with
      | none => simp [hm] at hr
      | some l =>
        simp only [hm, Option.some.injEq] at hr
        subst hr
        exact ⟨a, rfl, results1_rep h hm⟩
theorem rres_ren {F' : Nat → Prop} {β' : Int → Nat} {look' : Look} {r : Nat → Option Nat} (hr : Ren r β (shL look) β' (shL look')) (hN : ∀ b, Nn w F β look b → Nn w F' β' look' b) {v : Value} {vs vs' : List V} (h : RRes w F β look v vs) (hm : mapO (renV r) vs = some vs') : RRes w F' β' look' v vs' := by
  have hl := mapO_all2 hm
  rcases h with ⟨y, rfl, h⟩ | ⟨hlen, a, rfl, h⟩
  · cases hl with
    | cons h1 h2 => cases h2; exact .inl ⟨_, rfl, renV_rep hr hN h h1⟩
  · exact .inr ⟨by rw [← hl.length]; exact hlen, a, rfl, All2.comp (R := RVs w F β look) (S := fun a b => renV r a = some b) (T := RVs w F' β' look') (fun _ _ _ p q => renV_rep hr hN p q) h hl⟩
theorem scalar_ren {r : Nat → Option Nat} {x x' : V} (hs : scalarV x = true) (h : renV r x = some x') : x' = x := by
  have hc : ∀ c c' : C, scalarC c = true → renC r c = some c' → c' = c := by
    intro c c' h1 h2
    cases c <;> first | (cases h1; done) | (cases h2; rfl)
  cases x with
  | c y =>
    simp only [renV] at h
    cases e : renC r y with
    | none => simp [e] at h
    | some z => simp only [e, Option.some.injEq] at h; subst h; rw [hc _ _ hs e]
  | agg cs =>
    simp only [renV] at h
    cases e : mapO (renC r) cs with
    | none => simp [e] at h
    | some z =>
      simp only [e, Option.some.injEq] at h
      subst h
      congr 1
      have : ∀ {cs z : List C}, cs.all scalarC = true → All2 (fun a b => renC r a = some b) cs z → z = cs := by
        intro cs z h1 h2
        induction h2 with
        | nil => rfl
        | cons p _ ih =>
          simp only [List.all_cons, Bool.and_eq_true] at h1
          rw [hc _ _ h1.1 p, ih h1.2]
      exact this hs (mapO_all2 e)
  | tup vs => cases hs
theorem scalar_rep {N N' : Nat → Prop} {sh sh' : Nat → Option Sh} {w' : World} {β' : Int → Nat} {v : Value} {x : V} (hs : scalarV x = true) (h : RV w N β sh v x) : RV w' N' β' sh' v x := by
  have hc : ∀ {v : Value} {c : C}, scalarC c = true → RC w N β sh v c → RC w' N' β' sh' v c := by
    intro v c h1 h2
    cases c with
    | d y => cases y with
      | v z => cases h2 with | v h3 => exact .v h3
      | s k els => cases h1
      | i t xs => cases h1
    | _ => cases h1
  cases x with
  | c y => exact hc hs h
  | agg cs =>
    obtain ⟨a, rfl, h⟩ := h
    refine ⟨a, rfl, ?_⟩
    have : ∀ {l : List Value} {cs : List C}, cs.all scalarC = true → All2 (RK w N β sh) l cs → All2 (RK w' N' β' sh') l cs := by
      intro l cs h1 h2
      induction h2 with
      | nil => exact .nil
      | cons p _ ih =>
        simp only [List.all_cons, Bool.and_eq_true] at h1
        exact .cons ⟨p.1, hc h1.1 p.2⟩ (ih h1.2)
    exact this hs h
  | tup vs => cases hs
theorem stkBack_some {slot : Nat} {x : Option Eff} {e : Eff} (h : stkBack look slot x = some e) : ∃ e0, x = some e0 ∧ backOK look slot e0.rd e0.upd = true ∧ e = { e0 with upd := e0.upd.filter notStk } := by
  unfold stkBack at h
  split at h
  · rename_i e0
    split at h
    · rename_i hb
      cases h
      exact ⟨e0, rfl, hb, rfl⟩
    · cases h
  · cases h
theorem sameC_eq : ∀ {a b : List D}, sameC a b = true → a = b
  | [], [], _ => rfl
  | .v (.int k a) :: r, .v (.int k' b) :: r', h => by
    simp only [sameC, Bool.and_eq_true, decide_eq_true_eq] at h
    obtain ⟨⟨rfl, rfl⟩, h⟩ := h
    rw [sameC_eq h]
theorem sameL_eq : ∀ {a b : List (List D)}, sameL a b = true → a = b
  | [], [], _ => rfl
  | a :: r, b :: r', h => by
    simp only [sameL, Bool.and_eq_true] at h
    rw [sameC_eq h.1, sameL_eq h.2]
theorem stk_of_is {o : Option O} (h : isStk o = true) : ∃ k els cur root, o = some (.stk k els cur root) := by
  unfold isStk at h
  split at h
  · exact ⟨_, _, _, _, rfl⟩
  · cases h
theorem number_at {ids : List Nat} {slot : Nat} {out2 : List O} {j : Nat} {o2 : O} (h : out2[j]? = some o2) : ((back ids slot out2.length j).getD 0, o2) ∈ number ids slot out2 :=
  List.mem_map.2 ⟨(o2, j), List.mem_zipIdx_iff_getElem?.2 h, rfl⟩
theorem backOK_back {ids bor : List Nat} {slot : Nat} {out2 : List O} {kb : List (Nat × O)} (hl : ids.length ≤ out2.length) (h : backOK look slot (ids ++ bor) (number ids slot out2 ++ kb) = true) :
    ∀ (j : Nat) (o2 : O), out2[j]? = some o2 → (∃ id k els cur root cur2 root2, ids[j]? = some id ∧ look id = some (.stk k els cur root) ∧ o2 = .stk k els cur2 root2) ∨ (isStk (some o2) = false ∧ ∀ id, ids[j]? = some id → isStk (look id) = false) := by
  intro j o2 hj
  have hp := List.all_eq_true.1 h _ (List.mem_append_left _ (number_at (ids := ids) (slot := slot) hj))
  unfold backP at hp
  dsimp only at hp
  have hjl : j < out2.length := by
    rcases Nat.lt_or_ge j out2.length with h' | h'
    · exact h'
    · rw [List.getElem?_eq_none h'] at hj; cases hj
  rcases Nat.lt_or_ge j ids.length with hlt | hge
  · have hid : ids[j]? = some ids[j] := by simp [hlt]
    have hk : (back ids slot out2.length j).getD 0 = ids[j] := by simp [back, hlt]
    rw [hk] at hp
    have hc : (ids ++ bor).contains ids[j] = true := by simp
    rw [hc, Bool.true_and] at hp
    cases hs : isStk (look ids[j]) with
    | true =>
      rw [hs, if_pos rfl, Bool.and_eq_true] at hp
      obtain ⟨k, els, cur, root, e⟩ := stk_of_is hs
      rw [e] at hp
      cases o2 with
      | stk k' els' cur2 root2 =>
        have h1 := hp.1
        simp only [sameO, Bool.and_eq_true, decide_eq_true_eq] at h1
        obtain ⟨rfl, h1⟩ := h1
        have := sameL_eq h1
        subst this
        exact .inl ⟨_, _, _, _, _, _, _, hid, e, rfl⟩
      | _ => cases hp.1
    | false =>
      rw [hs] at hp
      simp only [Bool.false_eq_true, if_false, Bool.not_eq_true'] at hp
      refine .inr ⟨hp, fun id h => ?_⟩
      rw [hid] at h; cases h
      exact hs
  · have hk : (back ids slot out2.length j).getD 0 = slot + (j - ids.length) := by
      have : ¬ j < ids.length := by omega
      simp [back, this, hjl]
    rw [hk] at hp
    refine .inr ⟨?_, fun id h => by rw [List.getElem?_eq_none hge] at h; cases h⟩
    split at hp
    · simp only [Bool.and_eq_true, decide_eq_true_eq] at hp
      omega
    · simpa using hp
theorem fresh_back {ids bor : List Nat} {slot : Nat} {out2 : List O} {kb : List (Nat × O)} (h : backOK look slot (ids ++ bor) (number ids slot out2 ++ kb) = true)
    (hf : ∀ id, slot ≤ id → id ∈ ((number ids slot out2 ++ kb).filter notStk).map (·.1) → look id = none) :
    ∀ id, slot ≤ id → id ∈ (number ids slot out2).map (·.1) → look id = none := by
  intro id h1 h2
  obtain ⟨p, hp, rfl⟩ := List.mem_map.1 h2
  have hb := List.all_eq_true.1 h _ (List.mem_append_left _ hp)
  unfold backP at hb
  split at hb
  · simp only [Bool.and_eq_true, decide_eq_true_eq] at hb
    omega
  · exact hf _ h1 (List.mem_map.2 ⟨p, List.mem_filter.2 ⟨List.mem_append_left _ hp, hb⟩, rfl⟩)
theorem filter_kills {u : List (Nat × O)} {b : List Nat} : (u ++ kills b).filter notStk = u.filter notStk ++ kills b := by
  rw [List.filter_append]
  congr 1
  refine List.filter_eq_self.2 fun p hp => ?_
  obtain ⟨id, _, rfl⟩ := List.mem_map.1 hp
  rfl
theorem callA_sound {rec : Rec} {f : FuncId} (hrec : ∀ args objs out, rec (.call f args objs) = some out → CallOK P f args objs out) (hS : Sim w F β look) (hH : NoHole look) {slot : Nat} {args : List V} {vals : List Value}
    (hargs : All2 (RVs w F β look) vals args) {e : Eff} (h : callA rec look slot f args = some e) (hfresh : ∀ id, slot ≤ id → id ∈ e.upd.map (·.1) → look id = none) {a : Act} {o : Oper} (next : Act → World → Prop) (Q : Exit → Act → World → Prop)
    (hq : ∀ w' β', Good w F β look e.upd w' β' → match e.res with
      | .val v => ∀ x, RVs w' F β' (updL look e.upd) x v → next (a.put o.dst x) w'
      | .pan x => Q (.panic [{ v := x, recovered := false }]) a w') :
    Calls P f vals.toArray w fun
      | .returned v, w'' => next (a.put o.dst v) w''
      | .panicked chain, w'' => Q (.panic chain) a w''
      | .outgrown, _ => LetsOut Q := by
  unfold callA at h
  obtain ⟨e0, h0, hback, rfl⟩ := stkBack_some h
  clear h
  have h := h0
  clear h0
  dsimp only at hfresh hq
  cases hp : callPrep f look args with
  | none => simp [hp, callFin] at h
  | some p =>
    obtain ⟨ids, bor, args2, objs'⟩ := p
    simp only [hp, callFin, callOut] at h
    cases hr : callRec rec f args2 objs' with
    | none => simp [hr] at h
    | some out =>
      simp only [hr] at h
      -- what was handed on
      unfold callPrep at hp
      cases ha : argVsK (ownF f) look args with
      | none => simp [ha] at hp
      | some q =>
        obtain ⟨args1, bor1⟩ := q
        simp only [ha] at hp
        cases hm1 : mapO (renV (pos (reach look 200 [] (args1.flatMap refsV)))) args1 with
        | none => simp [hm1] at hp
        | some args3 =>
          simp only [hm1] at hp
          cases hm2 : mapO look (reach look 200 [] (args1.flatMap refsV)) with
          | none => simp [hm2] at hp
          | some objs =>
            simp only [hm2] at hp
            cases hm3 : mapO (renO (pos (reach look 200 [] (args1.flatMap refsV)))) (objs.map enterO) with
            | none => simp [hm3] at hp
            | some objs3 =>
              simp only [hm3] at hp
              split at hp
              case isFalse => cases hp
              rename_i hcond
              simp only [Option.some.injEq, Prod.mk.injEq] at hp
              obtain ⟨rfl, rfl, rfl, rfl⟩ := hp
              generalize reach look 200 [] (args1.flatMap refsV) = ids at *
              simp only [Bool.and_eq_true, decide_eq_true_eq] at hcond
              obtain ⟨⟨⟨hnd, hdis⟩, _⟩, hstk⟩ := hcond
              have hdis' : ∀ id ∈ bor1, id ∉ ids := by
                intro id hid
                have := List.all_eq_true.1 hdis id hid
                simpa using this
              have hbor := argVsK_arr ha
              obtain ⟨hSc, hwide, hren, _⟩ := call_prep hS hH hm2 hm3 hstk hnd hbor hdis'
              have h1 := argVsK_rep hS hargs ha hwide
              have h2 : All2 (RVs w (Fc F β look ids bor1) (βc β ids) (lk objs3)) vals args3 :=
                All2.comp (R := fun v x => RV w (Nn w (Fc F β look ids bor1) (βc β ids) (lk objs3)) β (shL look) v x) (S := fun a b => renV (pos ids) a = some b) (T := RVs w (Fc F β look ids bor1) (βc β ids) (lk objs3)) (fun v x y p q => renV_rep hren (fun _ h => h) p q) h1 (mapO_all2 hm1)
              refine (callRec_ok hrec hr w _ _ vals hSc h2).mono fun en w' hout => ?_
              obtain ⟨βd, hout⟩ := hout
              cases out with
              | ret vs outs =>
                obtain ⟨v, rfl, hres, hSd, hst⟩ := hout
                simp only [answer] at h
                cases e1 : mapO (renV (back ids slot outs.length)) vs with
                | none => simp [e1] at h
                | some vs' =>
                  cases e2 : mapO (renO (back ids slot outs.length)) outs with
                  | none => simp [e1, e2] at h
                  | some outs' =>
                    cases e3 : results1 vs' with
                    | none => simp [e1, e2, e3] at h
                    | some x =>
                      simp only [e1, e2, e3] at h
                      split at h
                      · cases h
                      · rename_i hlen
                        simp only [Option.some.injEq] at h
                        subst h
                        dsimp only at hq hfresh hback
                        by_cases hsc : (vs'.all scalarV && outs'.isEmpty) = true
                        · have hb : (if (vs'.all scalarV && outs'.isEmpty) = true then ([] : List (Nat × O)) else kills bor1) = [] := if_pos hsc
                          simp only [Bool.and_eq_true] at hsc
                          obtain ⟨hs1, hs2⟩ := hsc
                          have ho' : outs' = [] := by simpa using hs2
                          have ho : outs = [] := List.eq_nil_of_length_eq_zero (by rw [(mapO_all2 e2).length, ho']; rfl)
                          have hi : ids = [] := List.eq_nil_of_length_eq_zero (by rw [ho] at hlen; simpa using hlen)
                          subst hi
                          subst ho'
                          have hobj : objs3 = [] := by simp only [mapO, Option.some.injEq] at hm2; subst hm2; simp only [List.map_nil, mapO, Option.some.injEq] at hm3; exact hm3.symm
                          subst hobj
                          obtain ⟨g1, g2⟩ := call_apart hS hst.os hst.tape hst.output hst.size (fun b hb => hst.block b hb (by rintro ⟨j, o, h, _⟩; simp [lk] at h))
                          have hupd : number [] slot ([] : List O) ++ (if (vs'.all scalarV && ([] : List O).isEmpty) = true then ([] : List (Nat × O)) else kills bor1) = [] := by rw [hb]; rfl
                          rw [hupd] at hq
                          refine hq w' β ⟨g1, g2⟩ v ?_
                          show RVs w' F β look v x
                          have hvs : RRes w' F β look v vs' := by
                            have hl := mapO_all2 e1
                            have key : ∀ {y y' : V} {u : Value}, scalarV y' = true → renV (back [] slot outs.length) y = some y' → RVs w' (Fc F β look [] bor1) βd (lk outs) u y → RVs w' F β look u y' := by
                              intro y y' u h1 h2 h3
                              have : scalarV y = true := by
                                cases y with
                                | c z =>
                                  simp only [renV] at h2
                                  cases z with
                                  | d q => simp only [renC, Option.some.injEq] at h2; subst h2; exact h1
                                  | ptr id off => simp only [renC] at h2; cases e : back [] slot outs.length id <;> simp [e] at h2; subst h2; cases h1
                                  | elt k els i off => simp only [renC, Option.some.injEq] at h2; subst h2; cases h1
                                  | own id => simp only [renC] at h2; cases e : back [] slot outs.length id <;> simp [e] at h2; subst h2; cases h1
                                  | ap id i off => simp only [renC] at h2; cases e : back [] slot outs.length id <;> simp [e] at h2; subst h2; cases h1
                                  | fn f a b =>
                                    simp only [renC] at h2
                                    cases e : mapO (back [] slot outs.length) a with
                                    | none => simp [e] at h2
                                    | some a' =>
                                      cases e' : mapO (back [] slot outs.length) b with
                                      | none => simp [e, e'] at h2
                                      | some b' => simp [e, e'] at h2; subst h2; cases h1
                                  | rf m id => simp only [renC] at h2; cases e : back [] slot outs.length id <;> simp [e] at h2; subst h2; cases h1
                                  | any => simp only [renC, Option.some.injEq] at h2; subst h2; cases h1
                                | agg cs =>
                                  simp only [renV] at h2
                                  cases e : mapO (renC (back [] slot outs.length)) cs with
                                  | none => simp [e] at h2
                                  | some cs' =>
                                    simp only [e, Option.some.injEq] at h2
                                    subst h2
                                    have hcs : ∀ {cs cs' : List C}, cs'.all scalarC = true → All2 (fun a b => renC (back [] slot outs.length) a = some b) cs cs' → cs.all scalarC = true := by
                                      intro cs cs' h1 h2
                                      induction h2 with
                                      | nil => rfl
                                      | @cons a b _ _ p _ ih =>
                                        simp only [List.all_cons, Bool.and_eq_true] at h1 ⊢
                                        refine ⟨?_, ih h1.2⟩
                                        have hb := h1.1
                                        cases a with
                                        | d q => simp only [renC, Option.some.injEq] at p; subst p; exact hb
                                        | ptr id off => simp only [renC] at p; cases e : back [] slot outs.length id <;> simp [e] at p; subst p; cases hb
                                        | elt k els i off => simp only [renC, Option.some.injEq] at p; subst p; cases hb
                                        | own id => simp only [renC] at p; cases e : back [] slot outs.length id <;> simp [e] at p; subst p; cases hb
                                        | ap id i off => simp only [renC] at p; cases e : back [] slot outs.length id <;> simp [e] at p; subst p; cases hb
                                        | fn f a b =>
                                          simp only [renC] at p
                                          cases e : mapO (back [] slot outs.length) a with
                                          | none => simp [e] at p
                                          | some a' =>
                                            cases e' : mapO (back [] slot outs.length) b with
                                            | none => simp [e, e'] at p
                                            | some b' => simp [e, e'] at p; subst p; cases hb
                                        | rf m id => simp only [renC] at p; cases e : back [] slot outs.length id <;> simp [e] at p; subst p; cases hb
                                        | any => simp only [renC, Option.some.injEq] at p; subst p; cases hb
                                    exact hcs h1 (mapO_all2 e)
                                | tup vs =>
                                  simp only [renV] at h2
                                  cases e : mapO (renP (back [] slot outs.length)) vs with
                                  | none => simp [e] at h2
                                  | some z => simp [e] at h2; subst h2; cases h1
                              rw [scalar_ren this h2]
                              exact scalar_rep this h3
                            rcases hres with ⟨y, rfl, h3⟩ | ⟨hll, av, rfl, h3⟩
                            · cases hl with
                              | @cons _ y' _ _ p q =>
                                cases q
                                exact .inl ⟨y', rfl, key (by simpa using hs1) p h3⟩
                            · refine .inr ⟨by rw [← hl.length]; exact hll, av, rfl, ?_⟩
                              have : ∀ {us : List Value} {vs vs' : List V}, vs'.all scalarV = true → All2 (fun a b => renV (back [] slot outs.length) a = some b) vs vs' → All2 (RVs w' (Fc F β look [] bor1) βd (lk outs)) us vs → All2 (RVs w' F β look) us vs' := by
                                intro us vs vs' h1 h2
                                induction h2 generalizing us with
                                | nil => intro h; cases h; exact .nil
                                | cons p _ ih =>
                                  intro h
                                  simp only [List.all_cons, Bool.and_eq_true] at h1
                                  cases h with | cons u v => exact .cons (key h1.1 p u) (ih h1.2 v)
                              exact this hs1 hl h3
                          exact res_rep hvs e3
                        · have hb : (if (vs'.all scalarV && outs'.isEmpty) = true then ([] : List (Nat × O)) else kills bor1) = kills bor1 := if_neg hsc
                          rw [hb] at hq hfresh hback
                          have hfr := fresh_back hback hfresh
                          rw [filter_kills] at hq
                          obtain ⟨β', b1, b2, b3, b4⟩ := call_back hS hH hm2 hm3 hstk hnd hbor hdis' hSd hst e2 (by omega) (backOK_back (by rw [← (mapO_all2 e2).length]; omega) hback) hfr
                          refine hq w' β' ⟨b1, b2⟩ v ?_
                          exact res_rep (rres_ren b3 b4 hres e1) e3
              | pan x outs =>
                obtain ⟨rfl, hSd, hst⟩ := hout
                simp only [answer] at h
                cases e2 : mapO (renO (back ids slot outs.length)) outs with
                | none => simp [e2] at h
                | some outs' =>
                  simp only [e2] at h
                  split at h
                  · cases h
                  · rename_i hlen
                    simp only [Option.some.injEq] at h
                    subst h
                    dsimp only at hq hfresh hback
                    have hfr := fresh_back hback hfresh
                    rw [filter_kills] at hq
                    obtain ⟨β', b1, b2, _, _⟩ := call_back hS hH hm2 hm3 hstk hnd hbor hdis' hSd hst e2 (by omega) (backOK_back (by rw [← (mapO_all2 e2).length]; omega) hback) hfr
                    exact hq w' β' ⟨b1, b2⟩
end
end Go.Proofs.YteenjodhmppgjaaGreatDoor.Am
end
section
/- The abstract machine: slots; what is kept at the end of a function and at the head of a loop. -/
namespace Go.Proofs.YteenjodhmppgjaaGreatDoor.Am
open Go
theorem gt_pt (v : V) (t : Nat) : ∀ (env : Env) (u : Nat), gt (pt env t v) u = if u = t then v else gt env u
  | [], u => by
    simp only [pt, gt]
    by_cases h : u = t
    · simp [h]
    · simp [h, Ne.symm h]
  | (a, x) :: r, u => by
    simp only [pt]
    split
    · rename_i h
      subst h
      simp only [gt]
      by_cases h2 : u = a
      · simp [h2]
      · simp [h2, Ne.symm h2]
    · rename_i h
      split
      · simp only [gt]
        by_cases h2 : u = t
        · simp [h2]
        · simp [h2, Ne.symm h2]
      · simp only [gt, gt_pt v t r u]
        by_cases h2 : u = t
        · subst h2; simp [h]
        · simp [h2]
section
variable {P : Program} {w : World} {F : Nat → Prop} {β : Int → Nat} {look : Look}
def EnvR (w : World) (F : Nat → Prop) (β : Int → Nat) (look : Look) (tmps : Array Value) (env : Env) : Prop := ∀ t, RVs w F β look (tmps.getD t undef) (gt env t)
theorem rv_und : RVs w F β look undef (.tup []) := ⟨#[], rfl, .nil⟩
theorem ofValue_rep (x : Value) : RVs w F β look x (ofValue x) := by
  unfold ofValue
  split
  · rename_i a
    split
    · rename_i h
      refine ⟨a, rfl, ?_⟩
      have key : ∀ l : List Value, l.all cellB = true → All2 (RK w (Nn w F β look) β (shL look)) l (l.map fun y => C.d (D.v y)) := by
        intro l
        induction l with
        | nil => intro _; exact .nil
        | cons y l ih =>
          intro hy
          simp only [List.all_cons, Bool.and_eq_true] at hy
          exact .cons ⟨hy.1, .v hy.1⟩ (ih hy.2)
      exact key _ h
    · trivial
  · trivial
  · rename_i h1 h2
    refine RepD.v ?_
    cases x with
    | agg a => exact absurd rfl (h1 a)
    | tuple a => exact absurd rfl (h2 a)
    | _ => rfl
theorem ev_rep {a : Act} {env : Env} (h : EnvR w F β look a.tmps env) (y : Operand) : RVs w F β look (a.eval y) (ev env y) := by
  cases y with
  | tmp t => exact h t
  | const x => exact ofValue_rep x
  | global g => trivial
  | func f => exact ⟨rfl, by simp⟩
theorem EnvR.mono {w' : World} {β' : Int → Nat} {look' : Look} (hst : St (fun _ => True) w β look w' β' look') {tmps : Array Value} {env : Env} (h : EnvR w F β look tmps env) : EnvR w' F β' look' tmps env :=
  fun t => RV.mono hst.keep hst.ids (h t)
theorem EnvR.put {a : Act} {env : Env} (h : EnvR w F β look a.tmps env) {dst : Option Nat} {x : Value} {v : V} (hx : RVs w F β look x v) (hd : dstOk a.tmps.size dst = true) : EnvR w F β look (a.put dst x).tmps (putO env dst v) := by
  intro t
  cases dst with
  | none => exact h t
  | some d =>
    simp only [dstOk, decide_eq_true_eq] at hd
    simp only [Act.put, putO, gt_pt]
    by_cases e : t = d
    · subst e
      simp only [if_true]
      rw [show (a.tmps.setIfInBounds t x).getD t undef = x by simp [Array.getD, hd]]
      exact hx
    · simp only [e, if_false]
      have : (a.tmps.setIfInBounds d x).getD t undef = a.tmps.getD t undef := by
        simp only [Array.getD_eq_getD_getElem?, Array.getElem?_setIfInBounds]
        rw [if_neg (fun h => e h.symm)]
      rw [this]
      exact h t
theorem put_size (a : Act) (dst : Option Nat) (x : Value) : (a.put dst x).tmps.size = a.tmps.size := by cases dst <;> simp [Act.put]
theorem put_defers (a : Act) (dst : Option Nat) (x : Value) : (a.put dst x).defers = a.defers := by cases dst <;> rfl

/-! ### forgetting -/
theorem cleanC_rep {v : Value} {c : C} {N : Nat → Prop} {sh : Nat → Option Sh} (h : RC w N β sh v c) : RC w N β sh v (cleanC look c) := by
  unfold cleanC
  split
  · split
    · trivial
    · exact h
  · split
    · trivial
    · exact h
  · exact h
theorem cleanK_rep {l : List Value} {cs : List C} {N : Nat → Prop} {sh : Nat → Option Sh} (h : All2 (RK w N β sh) l cs) : All2 (RK w N β sh) l (cs.map (cleanC look)) := by
  induction h with
  | nil => exact .nil
  | cons p _ ih => exact .cons ⟨p.1, cleanC_rep p.2⟩ ih
theorem cleanV_rep {v : Value} {x : V} {N : Nat → Prop} {sh : Nat → Option Sh} (h : RV w N β sh v x) : RV w N β sh v (cleanV look x) := by
  cases x with
  | c y => exact cleanC_rep h
  | agg cs => obtain ⟨a, rfl, h⟩ := h; exact ⟨a, rfl, cleanK_rep h⟩
  | tup vs =>
    obtain ⟨a, rfl, h⟩ := h
    refine ⟨a, rfl, ?_⟩
    generalize a.toList = l at h
    induction h with
    | nil => exact .nil
    | @cons u p _ _ h1 _ ih =>
      refine .cons ?_ ih
      obtain ⟨b, cs⟩ := p
      cases b with
      | true => obtain ⟨a', rfl, h3⟩ := h1; exact ⟨a', rfl, cleanK_rep h3⟩
      | false => obtain ⟨y, h4, h3⟩ := h1; dsimp only at h4; subst h4; exact ⟨_, rfl, cleanC_rep h3⟩
theorem cleanO_sh (o : O) : shO (cleanO look o) = shO o := by cases o <;> rfl
theorem cleanO_rep {vals : Array Value} {z : Nat} {o : O} {N : Nat → Prop} {sh : Nat → Option Sh} (h : ROc w N β sh vals z o) : ROc w N β sh vals z (cleanO look o) := by
  cases o with
  | box cs => exact cleanK_rep h
  | _ => exact h
theorem lk_map (loc : List O) (f : O → O) (hf : ∀ o, shO (f o) = shO o) (id : Nat) : lk (loc.map f) id = (lk loc id).map f := by
  unfold lk
  rw [List.getElem?_map]
  cases h : loc[id]? with
  | none => rfl
  | some o =>
    have := hf o
    simp only [Option.map_some]
    cases o with
    | hole => cases e : f .hole <;> simp_all [shO]
    | box cs => cases e : f (.box cs) <;> simp_all [shO]
    | arr k els => cases e : f (.arr k els) <;> simp_all [shO]
    | stk k els cur root => cases e : f (.stk k els cur root) <;> simp_all [shO]
    | raw x => cases e : f (.raw x) <;> simp_all [shO]
    | gone => cases e : f .gone <;> simp_all [shO]
theorem sim_clean {loc : List O} {lk0 : Look} (hS : Sim w F β (lk loc)) : Sim w F β (lk (loc.map (cleanO lk0))) ∧ St (fun _ => True) w β (lk loc) w β (lk (loc.map (cleanO lk0))) ∧
    shL (lk (loc.map (cleanO lk0))) = shL (lk loc) ∧ ∀ b, Nn w F β (lk loc) b ↔ Nn w F β (lk (loc.map (cleanO lk0))) b := by
  have hl := lk_map loc (cleanO lk0) cleanO_sh
  have hsh : shL (lk (loc.map (cleanO lk0))) = shL (lk loc) := by
    funext id
    unfold shL
    rw [hl id]
    cases lk loc id with
    | none => rfl
    | some o => exact cleanO_sh o
  have hal : ∀ o, alive (cleanO lk0 o) = alive o := by intro o; cases o <;> rfl
  have hLive : ∀ b, Live β (lk (loc.map (cleanO lk0))) b ↔ Live β (lk loc) b := by
    intro b
    constructor
    · rintro ⟨id, o, h1, h2, h3⟩
      rw [hl id] at h1
      obtain ⟨o', p1, p2⟩ := Option.map_eq_some_iff.1 h1
      exact ⟨id, o', p1, by rw [← hal, p2]; exact h2, h3⟩
    · rintro ⟨id, o, h1, h2, h3⟩
      exact ⟨id, cleanO lk0 o, by rw [hl id, h1]; rfl, by rw [hal]; exact h2, h3⟩
  have hNn : ∀ b, Nn w F β (lk loc) b ↔ Nn w F β (lk (loc.map (cleanO lk0))) b := by
    intro b; unfold Nn; rw [hLive b]
  refine ⟨⟨hS.flt, fun id o h ha => ?_, fun id id' o o' h h' ha ha' hb => ?_, hS.laid.same fun b hb => (hLive b).1 hb⟩, ⟨rfl, rfl, rfl, Nat.le_refl _, fun _ _ _ => rfl, fun b hb => .inl ((hLive b).1 hb), fun id s _ hs => .inl ⟨rfl, by rw [hsh]; exact hs, rfl, rfl⟩⟩, hsh, hNn⟩
  · rw [hl id] at h
    obtain ⟨o', p1, rfl⟩ := Option.map_eq_some_iff.1 h
    rw [hal] at ha
    obtain ⟨a, b, c⟩ := hS.live id o' p1 ha
    refine ⟨a, b, ?_⟩
    rw [hsh]
    by_cases hce : celled o' = true
    · obtain ⟨vals, ty, hb, hc⟩ := (RO_iff hce).1 c
      rw [RO_iff (by rw [show celled (cleanO lk0 o') = celled o' by cases o' <;> rfl]; exact hce)]
      exact ⟨vals, ty, hb, cleanO_rep (ROc.mono (keep_wide fun b hb => (hNn b).1 hb) (Ids.refl _ _ _ _) hc)⟩
    · cases o' with
      | raw x => exact c
      | box cs => exact absurd rfl hce
      | arr k els => exact absurd rfl hce
      | stk _ _ _ _ => exact absurd rfl hce
      | gone => cases ha
      | hole => cases ha
  · rw [hl id] at h
    rw [hl id'] at h'
    obtain ⟨x, p1, rfl⟩ := Option.map_eq_some_iff.1 h
    obtain ⟨y, q1, rfl⟩ := Option.map_eq_some_iff.1 h'
    rw [hal] at ha ha'
    have kin : ∀ i j, Kin β (lk loc) i j → Kin β (lk (loc.map (cleanO lk0))) i j := by
      rintro i j ⟨k, l, l', r, c, h1, h2, h3, h4⟩
      exact ⟨k, l, l', r, c, by rw [hl, h1]; rfl, by rw [hl, h2]; rfl, h3, h4⟩
    rcases hS.inj id id' x y p1 q1 ha ha' hb with h | h | h
    · exact .inl h
    · exact .inr (.inl (kin _ _ h))
    · exact .inr (.inr (kin _ _ h))
theorem reach_prefix (look : Look) : ∀ (n : Nat) (seen todo : List Nat), ∃ t, reach look n seen todo = seen ++ t
  | 0, seen, _ => ⟨[], by simp [reach]⟩
  | n + 1, seen, [] => ⟨[], by simp [reach]⟩
  | n + 1, seen, id :: todo => by
    simp only [reach]
    split
    · exact reach_prefix look n seen todo
    · obtain ⟨t, ht⟩ := reach_prefix look n (seen ++ [id]) (todo ++ refsO (look id))
      exact ⟨id :: t, by rw [ht]; simp⟩
theorem pos_of : ∀ {l : List Nat} {id j : Nat}, l.Nodup → l[j]? = some id → pos l id = some j
  | x :: r, id, 0, _, h => by
    simp only [List.getElem?_cons_zero, Option.some.injEq] at h
    simp [pos, h]
  | x :: r, id, j + 1, hn, h => by
    rw [List.getElem?_cons_succ] at h
    have hn' := List.nodup_cons.1 hn
    have hne : ¬ x = id := fun e => hn'.1 (e ▸ List.mem_of_getElem? h)
    simp [pos, hne, pos_of hn'.2 h]
theorem sim_keep {loc os : List O} (hS : Sim w F β (lk loc)) {ids : List Nat} (hnd : ids.Nodup) {m : Nat} (hm : m ≤ loc.length) {roots : List Nat} (hids : ids = kept m roots loc) (hk : keptO ids loc = some os) :
    Sim w F (βc β ids) (lk os) ∧ St (· < m) w β (lk loc) w (βc β ids) (lk os) ∧ Ren (pos ids) β (shL (lk loc)) (βc β ids) (shL (lk os)) ∧ ∀ b, Nn w F β (lk loc) b → Nn w F (βc β ids) (lk os) b := by
  unfold keptO at hk
  cases hm2 : mapO (lk loc) ids with
  | none => simp [hm2] at hk
  | some objs =>
    simp only [hm2] at hk
    have hk' : mapO (renO (pos ids)) (objs.map _root_.id) = some os := by rw [List.map_id]; exact hk
    have hget : ∀ j o', lk os j = some o' → ∃ id o, ids[j]? = some id ∧ lk loc id = some o ∧ renO (pos ids) o = some o' ∧ βc β ids j = β id ∧ bs (βc β ids) j = bs β id := by
      intro j o' h
      obtain ⟨id, o, h1, h2, h3⟩ := prep_get (g := _root_.id) hm2 hk' (lk_some h)
      exact ⟨id, o, h1, h2, h3, by simp [βc_nat, List.getD, h1], by simp [βc_bs, List.getD, h1]⟩
    have halive : ∀ {o o' : O}, renO (pos ids) o = some o' → (alive o' = true ↔ alive o = true) := by
      intro o o' h
      rw [alive_sh, alive_sh, renO_sh h]
    have hlive : ∀ b, Live (βc β ids) (lk os) b → Live β (lk loc) b := by
      rintro b ⟨j, o', h1, h2, h3⟩
      obtain ⟨id, o, p1, p2, p3, p4, _⟩ := hget j o' h1
      exact ⟨id, o, p2, (halive p3).1 h2, by rw [← p4, h3]⟩
    have hsh : ∀ j id, ids[j]? = some id → shL (lk os) j = shL (lk loc) id := by
      intro j id h1
      obtain ⟨o, o', h2, h3, h4⟩ := prep_get' (g := _root_.id) hm2 hk' h1
      have ho' := look_not_hole h4 (fun e => noHole_lk loc id (by rw [h2]; exact congrArg some e))
      simp [shL, lk_of h3 ho', h2, renO_sh h4]
    have hren : Ren (pos ids) β (shL (lk loc)) (βc β ids) (shL (lk os)) := by
      intro id j h
      have h1 := pos_get h
      exact ⟨hsh j id h1, fun _ => by simp [βc_nat, List.getD, h1], fun _ => by simp [βc_bs, List.getD, h1]⟩
    have hall : ∀ b, Nn w F β (lk loc) b → Nn w F (βc β ids) (lk os) b := fun b ⟨h1, h2, h3⟩ => ⟨h1, h2, fun h => h3 (hlive b h)⟩
    refine ⟨⟨hS.flt, fun j o' h ha => ?_, fun j j' o1 o2 h1 h2 ha1 ha2 hb => ?_, hS.laid.same hlive⟩, ⟨rfl, rfl, rfl, Nat.le_refl _, fun _ _ _ => rfl, fun b hb => .inl (hlive b hb), fun id s hid hs => ?_⟩, hren, hall⟩
    · obtain ⟨id, o, p1, p2, p3, p4, p5⟩ := hget j o' h
      obtain ⟨a, b, c⟩ := hS.live id o p2 ((halive p3).1 ha)
      rw [p4, p5]
      refine ⟨a, b, ?_⟩
      exact renO_RO hren hall c p3
    · obtain ⟨id1, q1, p1, p2, p3, p4, _⟩ := hget j o1 h1
      obtain ⟨id2, q2, r1, r2, r3, r4, _⟩ := hget j' o2 h2
      rw [p4, r4] at hb
      have kin : ∀ {i1 i2 j1 j2 : Nat}, ids[j1]? = some i1 → ids[j2]? = some i2 → Kin β (lk loc) i1 i2 → Kin (βc β ids) (lk os) j1 j2 := by
        rintro i1 i2 j1 j2 e1 e2 ⟨k, l, l', r, c, g1, g2, g3, g4⟩
        obtain ⟨x1, y1, a1, a2, a3⟩ := prep_get' (g := _root_.id) hm2 hk' e1
        obtain ⟨x2, y2, b1, b2, b3⟩ := prep_get' (g := _root_.id) hm2 hk' e2
        rw [g1] at a1; cases a1
        rw [g2] at b1; cases b1
        have hp : pos ids i2 = some j2 := pos_of hnd e2
        simp only [_root_.id, renO, Option.bind_some, hp, Option.some.injEq] at a3 b3
        subst a3 b3
        refine ⟨k, l, l', r, _, lk_of a2 (by simp), lk_of b2 (by simp), ?_, g4⟩
        rw [βc_bs, βc_bs]
        simpa [List.getD, e1, e2] using g3
      rcases hS.inj id1 id2 q1 q2 p2 r2 ((halive p3).1 ha1) ((halive r3).1 ha2) hb with h | h | h
      · subst h
        exact .inl (nodup_get hnd p1 r1)
      · exact .inr (.inl (kin p1 r1 h))
      · exact .inr (.inr (kin r1 p1 h))
    · have hpre : ids[id]? = some id := by
        obtain ⟨t, ht⟩ := reach_prefix (lk loc) 200 (List.range m) (((List.range m).flatMap fun id => refsO (lk loc id)) ++ roots)
        rw [hids]
        unfold kept
        rw [ht, List.getElem?_append_left (by simpa using hid), List.getElem?_range hid]
      exact .inl ⟨by simp [βc_nat, List.getD, hpre], by rw [hsh id id hpre]; exact hs, rfl, by simp [βc_bs, List.getD, hpre]⟩
end
end Go.Proofs.YteenjodhmppgjaaGreatDoor.Am
end
section
/- The abstract machine: the end of a function; the head of a loop. -/
namespace Go.Proofs.YteenjodhmppgjaaGreatDoor.Am
open Go
section
variable {P : Program} {w : World} {F : Nat → Prop} {β : Int → Nat}
def readRes (tmps : Array Value) : ResultVar → Sem Value
  | .tmp t => pure (tmps.getD t undef)
  | .cell a t => do loadVar t (← asAddr (tmps.getD a undef))
def one1 : List Value → Value
  | [v] => v
  | l => .tuple l.toArray
theorem run_results (fn : Func) (tmps : Array Value) {l : List Value} (h : (fn.results.toList.mapM (readRes tmps)).run P w = .ok l w) :
    (results fn tmps).run P w = .ok (one1 l) w := by
  have e : results fn tmps = (fn.results.mapM (readRes tmps) >>= fun vs => pure (if h : vs.size = 1 then vs[0] else .tuple vs)) := by
    unfold results
    congr 1
  rw [e, Sem.run_bind, Array.mapM_eq_mapM_toList, Sem.run_map, h]
  simp only [Result.andThen_ok, Sem.run_pure]
  congr 1
  match l with
  | [] => rfl
  | [v] => rfl
  | a :: b :: r => simp [one1]
theorem reads_ok {loc : List O} (hS : Sim w F β (lk loc)) {tmps : Array Value} {env : Env} (hE : EnvR w F β (lk loc) tmps env) : ∀ {rs : List ResultVar} {vs : List V}, mapO (resultA P env loc) rs = some vs →
    ∃ l, (rs.mapM (readRes tmps)).run P w = .ok l w ∧ All2 (RVs w F β (lk loc)) l vs
  | [], vs, h => by simp only [mapO, Option.some.injEq] at h; subst h; exact ⟨[], rfl, .nil⟩
  | r :: rs, vs, h => by
    simp only [mapO] at h
    cases e1 : resultA P env loc r with
    | none => simp [e1] at h
    | some x =>
      cases e2 : mapO (resultA P env loc) rs with
      | none => simp [e1, e2] at h
      | some xs =>
        simp only [e1, e2, Option.some.injEq] at h
        subst h
        obtain ⟨l, h1, h2⟩ := reads_ok hS hE e2
        have : ∃ y, (readRes tmps r).run P w = .ok y w ∧ RVs w F β (lk loc) y x := by
          cases r with
          | tmp t => simp only [resultA, Option.some.injEq] at e1; subst e1; exact ⟨_, rfl, hE t⟩
          | cell a t =>
            simp only [resultA] at e1
            cases e3 : loadA P (lk loc) t (gt env a) with
            | none => simp [e3] at e1
            | some e =>
              obtain ⟨ad, y, u, rd, p1, rfl, p3, p4⟩ := load_val hS (hE a) e3
              simp only [e3, Option.some.injEq] at e1
              subst e1
              exact ⟨y, by simp [readRes, p1, asAddr, p3], p4⟩
        obtain ⟨y, p1, p2⟩ := this
        exact ⟨y :: l, by simp [List.mapM_cons, p1, h1], .cons p2 h2⟩
theorem finish_ok {cf : Cf} {env : Env} {loc0 : List O} {out : Out} (hS : Sim w F β (lk loc0)) {tmps : Array Value} (hE : EnvR w F β (lk loc0) tmps env) {fn : Func} (hres : fn.results.toList = cf.res) (h : finishA P cf env loc0 = some out) :
    ∃ vs os v β', out = .ret vs os ∧ (results fn tmps).run P w = .ok v w ∧ RRes w F β' (lk os) v vs ∧ Sim w F β' (lk os) ∧ St (· < cf.m) w β (lk loc0) w β' (lk os) := by
  unfold finishA at h
  cases e1 : mapO (resultA P env loc0) cf.res with
  | none => simp [e1] at h
  | some vs0 =>
    simp only [e1] at h
    cases e2 : argVsK cf.keep (lk loc0) vs0 with
    | none => simp [e2] at h
    | some p =>
      obtain ⟨vs1, own⟩ := p
      simp only [e2] at h
      generalize hL1 : updO loc0 (kills own) = loc1 at h
      generalize hL : loc1.map (cleanO (lk loc1)) = loc at h
      generalize hI : kept cf.m (vs1.flatMap refsV) loc = ids at h
      split at h
      case isFalse => cases h
      rename_i hc
      simp only [Bool.and_eq_true, decide_eq_true_eq] at hc
      cases e3 : mapO (renV (pos ids)) vs1 with
      | none => simp [e3] at h
      | some vs2 =>
        simp only [e3] at h
        cases e4 : keptO ids loc with
        | none => simp [e4] at h
        | some os =>
          simp only [e4, Option.some.injEq] at h
          subst h
          obtain ⟨l, h1, h2⟩ := reads_ok hS hE e1
          have hown := argVsK_arr e2
          have hL1' : lk loc1 = updL (lk loc0) (kills own) := by rw [← hL1, lk_updO]
          obtain ⟨hS1, st1⟩ := sim_kills (F := F) own hS (kills_ok hown)
          have hwide := wide_kills hS hown
          rw [← hL1'] at hS1 st1 hwide
          have h3 := argVsK_rep hS h2 e2 hwide
          obtain ⟨hS2, st2, hsh2, hN2⟩ := sim_clean (lk0 := lk loc1) hS1
          rw [hL] at hS2 st2 hsh2 hN2
          obtain ⟨hS3, st3, hren, hN3⟩ := sim_keep hS2 hc.1 hc.2 hI.symm e4
          have h4 : All2 (RVs w F (βc β ids) (lk os)) l vs2 := by
            refine All2.comp (R := fun v x => RV w (Nn w F β (lk loc1)) β (shL (lk loc0)) v x) (S := fun a b => renV (pos ids) a = some b) (T := RVs w F (βc β ids) (lk os)) (fun v x y p q => ?_) h3 (mapO_all2 e3)
            have p1 : RV w (Nn w F β (lk loc)) β (shL (lk loc)) v x := by
              rw [hsh2]
              exact RV.mono (keep_wide fun b hb => (hN2 b).1 hb) st1.ids p
            exact renV_rep hren hN3 p1 q
          refine ⟨vs2, os, _, βc β ids, rfl, run_results fn tmps (by rw [hres]; exact h1), ?_, hS3, ((st1.trans st2).some).trans st3⟩
          cases h4 with
          | nil => exact .inr ⟨by simp, #[], rfl, .nil⟩
          | cons a r =>
            cases r with
            | nil => exact .inl ⟨_, rfl, a⟩
            | cons b r => exact .inr ⟨by simp, _, rfl, by simpa using All2.cons a (All2.cons b r)⟩
theorem panic_ok {cf : Cf} {x : Value} {loc1 : List O} {out : Out} (hS : Sim w F β (lk loc1)) (h : panicOut cf x loc1 = some out) :
    ∃ os β', out = .pan x os ∧ Sim w F β' (lk os) ∧ St (· < cf.m) w β (lk loc1) w β' (lk os) := by
  unfold panicOut at h
  dsimp only at h
  generalize hL : loc1.map (cleanO (lk loc1)) = loc at h
  generalize hI : kept cf.m [] loc = ids at h
  split at h
  case isFalse => cases h
  rename_i hc
  simp only [Bool.and_eq_true, decide_eq_true_eq] at hc
  cases e4 : keptO ids loc with
  | none => simp [e4] at h
  | some os =>
    simp only [e4, Option.some.injEq] at h
    subst h
    obtain ⟨hS2, st2, hsh2, hN2⟩ := sim_clean (lk0 := lk loc1) hS
    rw [hL] at hS2 st2 hsh2 hN2
    obtain ⟨hS3, st3, hren, hN3⟩ := sim_keep hS2 hc.1 hc.2 hI.symm e4
    exact ⟨os, βc β ids, rfl, hS3, st2.some.trans st3⟩
theorem gt_filter (p : Nat → Bool) : ∀ (env : Env) (t : Nat), gt (env.filter fun q => p q.1) t = if p t = true then gt env t else .c .any
  | [], t => by simp [gt]
  | (a, x) :: r, t => by
    simp only [List.filter_cons]
    by_cases h : p a = true
    · simp only [h, if_true, gt]
      by_cases e : a = t
      · subst e; simp [h]
      · simp only [e, if_false]; exact gt_filter p r t
    · simp only [h, gt]
      by_cases e : a = t
      · subst e; simp [h]; have := gt_filter p r a; simpa [h] using this
      · simp only [e, if_false]; simpa using gt_filter p r t
theorem gt_map (f : V → V) (hf : f (.c .any) = .c .any) : ∀ (env : Env) (t : Nat), gt (env.map fun q => (q.1, f q.2)) t = f (gt env t)
  | [], t => by simp [gt, hf]
  | (a, x) :: r, t => by
    simp only [List.map_cons, gt]
    by_cases e : a = t
    · simp [e]
    · simp only [e, if_false]; exact gt_map f hf r t
theorem gt_ren (r : Nat → Option Nat) : ∀ (env env' : Env), All2 (fun (p q : Nat × V) => p.1 = q.1 ∧ renV r p.2 = some q.2) env env' → ∀ t, renV r (gt env t) = some (gt env' t) ∨ gt env' t = .c .any := by
  intro env env' h
  induction h with
  | nil => intro t; exact .inr rfl
  | @cons p q _ _ h1 _ ih =>
    intro t
    obtain ⟨a, x⟩ := p
    obtain ⟨b, y⟩ := q
    obtain ⟨rfl, h2⟩ := h1
    simp only [gt]
    by_cases e : a = t
    · simp only [e, if_true]; exact .inl h2
    · simp only [e, if_false]; exact ih t
theorem gt_none {env : Env} {t : Nat} (h : env.any (fun p => p.1 == t) = false) : gt env t = .c .any := by
  induction env with
  | nil => rfl
  | cons p r ih =>
    obtain ⟨u, v⟩ := p
    simp only [List.any_cons, Bool.or_eq_false_iff, beq_eq_false_iff_ne] at h
    simp only [gt, if_neg h.1]
    exact ih h.2
theorem gt_pad (t : Nat) : ∀ (l : List Nat) (env : Env), gt (padE l env) t = gt env t
  | [], env => rfl
  | u :: l, env => by
    rw [padE, gt_pad t l]
    split
    · rfl
    · rename_i h
      rw [gt_pt]
      split
      · rename_i e; subst e; exact (gt_none (Bool.eq_false_iff.2 h)).symm
      · rfl
theorem EnvR.pad {tmps : Array Value} {env : Env} {loc : List O} (h : EnvR w F β (lk loc) tmps env) (l : List Nat) : EnvR w F β (lk loc) tmps (padE l env) := by
  intro t
  rw [gt_pad]
  exact h t
theorem head_ok {m : Nat} {forget : List Nat} {env0 env' : Env} {loc1 os : List O} (hS : Sim w F β (lk loc1)) {tmps : Array Value} (hE : EnvR w F β (lk loc1) tmps env0) (h : headA m forget env0 loc1 = some (env', os)) :
    ∃ β', Sim w F β' (lk os) ∧ EnvR w F β' (lk os) tmps env' ∧ St (· < m) w β (lk loc1) w β' (lk os) := by
  unfold headA at h
  dsimp only at h
  generalize hL : loc1.map (cleanO (lk loc1)) = loc at h
  generalize hEn : ((env0.filter fun p => !forget.contains p.1).map fun p => (p.1, cleanV (lk loc1) p.2)) = env at h
  generalize hI : kept m (env.flatMap fun p => refsV p.2) loc = ids at h
  split at h
  case isFalse => cases h
  rename_i hc
  simp only [Bool.and_eq_true, decide_eq_true_eq] at hc
  cases e3 : mapO (renPair (pos ids)) env with
  | none => simp [e3] at h
  | some env2 =>
    simp only [e3] at h
    cases e4 : keptO ids loc with
    | none => simp [e4] at h
    | some os' =>
      simp only [e4, Option.some.injEq, Prod.mk.injEq] at h
      obtain ⟨rfl, rfl⟩ := h
      obtain ⟨hS2, st2, hsh2, hN2⟩ := sim_clean (lk0 := lk loc1) hS
      rw [hL] at hS2 st2 hsh2 hN2
      obtain ⟨hS3, st3, hren, hN3⟩ := sim_keep hS2 hc.1 hc.2 hI.symm e4
      refine ⟨βc β ids, hS3, fun t => ?_, st2.some.trans st3⟩
      have h1 : RVs w F β (lk loc) (tmps.getD t undef) (gt env t) := by
        rw [← hEn, gt_map (cleanV (lk loc1)) rfl, gt_filter (fun t => !forget.contains t)]
        split
        · have := hE t
          have h2 : RV w (Nn w F β (lk loc)) β (shL (lk loc)) (tmps.getD t undef) (gt env0 t) := by
            rw [hsh2]
            exact RV.mono (keep_wide fun b hb => (hN2 b).1 hb) (Ids.refl _ _ _ _) this
          exact cleanV_rep h2
        · trivial
      have h2 : All2 (fun (p q : Nat × V) => p.1 = q.1 ∧ renV (pos ids) p.2 = some q.2) env env2 := by
        refine (mapO_all2 e3).mono fun p q hpq => ?_
        unfold renPair at hpq
        cases e : renV (pos ids) p.2 with
        | none => simp [e] at hpq
        | some v => simp only [e, Option.some.injEq] at hpq; subst hpq; exact ⟨rfl, rfl⟩
      rcases gt_ren _ _ _ h2 t with h3 | h3
      · exact renV_rep hren hN3 h1 h3
      · rw [h3]; trivial
end
end Go.Proofs.YteenjodhmppgjaaGreatDoor.Am
end
section
/- The abstract machine: one operation in a statement; steps of the machine. -/
namespace Go.Proofs.YteenjodhmppgjaaGreatDoor.Am
open Go
inductive FinK where
  | ret
  | pan (chain : List PanicEntry)
def FinK.mode : FinK → FrameMode
  | .ret => .returning
  | .pan ch => .panicking ch
/-- From these items on the function ends, and Post holds at the end. -/
def Reach (P : Program) (items : List Item) (a : Act) (w : World) (Post : FinK → Act → World → Prop) : Prop :=
  ∀ (b : Frame) (cs : List Frame), ∃ fk a' w' todo, Post fk a' w' ∧ Steps P (lone (b.at a items) cs w) (lone { b.at a' todo with mode := fk.mode } cs w')
section
variable {P : Program}
theorem Reach.mono {items : List Item} {a : Act} {w : World} {Post Post' : FinK → Act → World → Prop} (h : Reach P items a w Post) (hp : ∀ fk a w, Post fk a w → Post' fk a w) : Reach P items a w Post' :=
  fun b cs => let ⟨fk, a', w', todo, p, s⟩ := h b cs; ⟨fk, a', w', todo, hp _ _ _ p, s⟩
theorem reach_step {items items' : List Item} {a : Act} {w : World} {Post : FinK → Act → World → Prop} (hs : ∀ (b : Frame) (cs : List Frame), step P (lone (b.at a items) cs w) = .next (lone (b.at a items') cs w)) (h : Reach P items' a w Post) : Reach P items a w Post :=
  fun b cs => let ⟨fk, a', w', todo, p, s⟩ := h b cs; ⟨fk, a', w', todo, p, .head (hs b cs) s⟩
theorem reach_unstep {items items' : List Item} {a : Act} {w : World} {Post : FinK → Act → World → Prop} (hs : ∀ (b : Frame) (cs : List Frame), step P (lone (b.at a items) cs w) = .next (lone (b.at a items') cs w)) (h : Reach P items a w Post) : Reach P items' a w Post := by
  intro b cs
  obtain ⟨fk, a', w', todo, p, n, hn⟩ := h b cs
  refine ⟨fk, a', w', todo, p, ?_⟩
  cases n with
  | zero =>
    exfalso
    simp only [Go.runN] at hn
    have h1 : lone (b.at a items) cs w = lone { b.at a' todo with mode := fk.mode } cs w' := by injection hn
    have h2 := congrArg (fun m : Machine => (m.gs.getD 0 default).frame.mode) h1
    simp only [lone, Frame.at] at h2
    cases fk <;> simp [FinK.mode, Array.getD] at h2
  | succ n =>
    simp only [Go.runN, hs b cs] at hn
    exact ⟨n, hn⟩
/-- What holds behind the operations of a statement. -/
def Qr (P : Program) (k : List Item) (Post : FinK → Act → World → Prop) : Exit → Act → World → Prop
  | .normal, a, w => Reach P k a w Post
  | .panic ch, a, w => Post (.pan ch) a w
  | _, _, _ => False
theorem reach_ops {all : Array Oper} {is : List Nat} {k : List Item} {a : Act} {w : World} {Post : FinK → Act → World → Prop} (h : wpOps P all (Qr P k Post) is a w) : Reach P (.inRegion all is :: k) a w Post := by
  intro b cs
  obtain ⟨e, a', w', hq, harr⟩ := wp_ops is a w h b k cs
  cases e with
  | normal =>
    obtain ⟨fk, a2, w2, todo, p, s⟩ := hq b cs
    exact ⟨fk, a2, w2, todo, p, Steps.trans harr s⟩
  | panic ch =>
    obtain ⟨todo, s⟩ := harr
    exact ⟨.pan ch, a', w', todo, hq, s⟩
  | exit _ => exact hq.elim
  | goto _ => exact hq.elim
  | ret => exact hq.elim
  | outgrown => exact hq.elim
theorem calls_of_reach {f : FuncId} {fn : Func} {c : Code} {args : Array Value} {w : World} {R : Ending → World → Prop} (hf : P.funcs[f]? = some fn) (hb : fn.body = some c)
    (h : Reach P [.code c] { tmps := args ++ Array.replicate (fn.ntmps - args.size) undef, defers := [] } w fun fk a' w' => a'.defers = [] ∧ match fk with
      | .ret => ∃ v, (results fn a'.tmps).run P w' = .ok v w' ∧ R (.returned v) w'
      | .pan ch => R (.panicked ch) w') : Calls P f args w R := by
  intro cs
  let b : Frame := { (default : Frame) with fn := f, kind := .normal }
  have henter : Frame.enter P f args .normal = b.at { tmps := args ++ Array.replicate (fn.ntmps - args.size) undef, defers := [] } [.code c] := by
    simp [Frame.enter, Frame.at, hf, hb, b]
  obtain ⟨fk, a', w', todo, ⟨hd, hq⟩, hs⟩ := h b cs
  rw [← henter] at hs
  cases fk with
  | ret =>
    obtain ⟨v, hr, hR⟩ := hq
    exact ⟨.returned v, w', _, hR, hs, rfl, rfl, hd, rfl, fn, hf, hr⟩
  | pan ch => exact ⟨.panicked ch, w', _, hq, hs, rfl, rfl, hd, fn, hf⟩
/-- No function is one that the machine takes apart by its name. -/
def Named (P : Program) : Prop := P.funcs.all (fun fn => !(fn.name == "runtime.NumGoroutine")) = true
def Bodied (P : Program) (f : FuncId) : Prop := ∃ fn, P.funcs[f]? = some fn ∧ fn.body.isSome = true
theorem run_callFunc (hN : Named P) {f : FuncId} (hB : Bodied P f) (args : Array Value) (w : World) : (callFunc f args).run P w = .ok (.enter f args) w := by
  obtain ⟨fn, hf, hb⟩ := hB
  have hn : (fn.name == "runtime.NumGoroutine") = false := by
    have := Array.all_eq_true_iff_forall_mem.1 hN fn (Array.mem_of_getElem? hf)
    simpa using this
  have hb' : fn.body.isNone = false := by cases h : fn.body <;> simp_all
  simp only [callFunc, Sem.run_bind, run_program, Result.andThen_ok, hf, hn, hb']
  rfl
/-- What is known of the calls that a run makes. -/
def scV (x : Value) : V := .c (.d (.v x))
/-- A function without a body of Go's, on scalars: what the model's own row answers. -/
def NatOK (P : Program) (f : FuncId) (args : List V) (objs : List O) (out : Out) : Prop :=
  ∃ (xs : List Value) (y : Value), args = xs.map scV ∧ objs = [] ∧ out = .ret [scV y] [] ∧ cellB y = true ∧ ∀ w, (callFunc f xs.toArray).run P w = .ok (.value y) w
def RecOK (P : Program) (rec : Rec) : Prop := ∀ f args objs out, rec (.call f args objs) = some out → (Bodied P f ∧ CallOK P f args objs out) ∨ NatOK P f args objs out
theorem argV_scal {look : Look} {r : Nat → Option Nat} {v v' : V} {a : List Nat} {x : Value} (h1 : argV look v = some (v', a)) (h2 : renV r v' = some (scV x)) : v = scV x ∧ a = [] := by
  cases v with
  | tup vs => cases h1
  | agg cs =>
    simp only [argV] at h1
    cases e : argCs look cs with
    | none => simp [e] at h1
    | some p =>
      simp only [e, Option.some.injEq, Prod.mk.injEq] at h1
      obtain ⟨rfl, rfl⟩ := h1
      simp only [renV] at h2
      split at h2
      · cases h2
      · cases h2
  | c z =>
    simp only [argV] at h1
    cases e : argC look z with
    | none => simp [e] at h1
    | some p =>
      simp only [e, Option.some.injEq, Prod.mk.injEq] at h1
      obtain ⟨rfl, rfl⟩ := h1
      simp only [renV] at h2
      cases e2 : renC r p.1 with
      | none => simp [e2] at h2
      | some y =>
        simp only [e2, Option.some.injEq, scV, V.c.injEq] at h2
        subst h2
        cases z with
        | own id =>
          simp only [argC] at e
          split at e
          · cases e; cases e2
          · cases e
        | any => cases e
        | d q => cases e; simp only [renC, Option.some.injEq] at e2; exact ⟨by rw [scV, ← e2], rfl⟩
        | ptr id off => cases e; simp only [renC] at e2; split at e2 <;> cases e2
        | elt k els i off => cases e; cases e2
        | ap id i off => cases e; simp only [renC] at e2; split at e2 <;> cases e2
        | rf m id => cases e; simp only [renC] at e2; split at e2 <;> cases e2
        | fn f b c =>
          cases e
          simp only [renC] at e2
          split at e2
          · split at e2 <;> cases e2
          · cases e2
theorem argVs_scal {look : Look} {r : Nat → Option Nat} : ∀ {vs vs' : List V} {a : List Nat} {xs : List Value}, argVs look vs = some (vs', a) → mapO (renV r) vs' = some (xs.map scV) → vs = xs.map scV ∧ a = []
  | [], vs', a, xs, h1, h2 => by
    simp only [argVs, Option.some.injEq, Prod.mk.injEq] at h1
    obtain ⟨rfl, rfl⟩ := h1
    simp only [mapO, Option.some.injEq] at h2
    exact ⟨h2, rfl⟩
  | v :: vs, vs', a, xs, h1, h2 => by
    simp only [argVs] at h1
    cases e : argV look v with
    | none => simp [e] at h1
    | some p =>
      obtain ⟨v1, a1⟩ := p
      cases e' : argVs look vs with
      | none => simp [e, e'] at h1
      | some q =>
        obtain ⟨vs1, a2⟩ := q
        simp only [e, e', Option.some.injEq, Prod.mk.injEq] at h1
        obtain ⟨rfl, rfl⟩ := h1
        simp only [mapO] at h2
        cases e2 : renV r v1 with
        | none => simp [e2] at h2
        | some y =>
          cases e3 : mapO (renV r) vs1 with
          | none => simp [e2, e3] at h2
          | some ys =>
            simp only [e2, e3, Option.some.injEq] at h2
            cases xs with
            | nil => cases h2
            | cons x xs =>
              simp only [List.map_cons, List.cons.injEq] at h2
              obtain ⟨rfl, rfl⟩ := h2
              obtain ⟨rfl, rfl⟩ := argV_scal e e2
              obtain ⟨h3, rfl⟩ := argVs_scal e' e3
              exact ⟨by rw [List.map_cons, ← h3], rfl⟩
theorem renC_scal {r : Nat → Option Nat} {z : C} {x : Value} (h : renC r z = some (.d (.v x))) : z = .d (.v x) := by
  cases z with
  | d q => simp only [renC, Option.some.injEq] at h; exact h
  | ptr id off => simp only [renC] at h; split at h <;> cases h
  | elt k els i off => cases h
  | own id => simp only [renC] at h; split at h <;> cases h
  | ap id i off => simp only [renC] at h; split at h <;> cases h
  | rf m id => simp only [renC] at h; split at h <;> cases h
  | fn f b c =>
    simp only [renC] at h
    split at h
    · split at h <;> cases h
    · cases h
  | any => cases h
theorem renVs_scal {r : Nat → Option Nat} : ∀ {vs : List V} {xs : List Value}, mapO (renV r) vs = some (xs.map scV) → vs = xs.map scV
  | [], xs, h => by
    simp only [mapO, Option.some.injEq] at h
    exact h
  | v :: vs, xs, h => by
    simp only [mapO] at h
    cases e2 : renV r v with
    | none => simp [e2] at h
    | some y =>
      cases e3 : mapO (renV r) vs with
      | none => simp [e2, e3] at h
      | some ys =>
        simp only [e2, e3, Option.some.injEq] at h
        cases xs with
        | nil => cases h
        | cons x xs =>
          simp only [List.map_cons, List.cons.injEq] at h
          obtain ⟨rfl, rfl⟩ := h
          rw [List.map_cons, ← renVs_scal e3]
          cases v with
          | c z =>
            simp only [renV] at e2
            cases e : renC r z with
            | none => simp [e] at e2
            | some q =>
              simp only [e, Option.some.injEq, scV, V.c.injEq] at e2
              subst e2
              rw [renC_scal e]; rfl
          | agg cs => simp only [renV] at e2; split at e2 <;> cases e2
          | tup ts => simp only [renV] at e2; split at e2 <;> cases e2
theorem argVsK_scal {look : Look} {keep : Bool} {r : Nat → Option Nat} {vs vs' : List V} {a : List Nat} {xs : List Value} (h1 : argVsK keep look vs = some (vs', a)) (h2 : mapO (renV r) vs' = some (xs.map scV)) : vs = xs.map scV ∧ a = [] := by
  cases keep with
  | true => simp only [argVsK, Option.some.injEq, Prod.mk.injEq] at h1; obtain ⟨rfl, rfl⟩ := h1; exact ⟨renVs_scal h2, rfl⟩
  | false => exact argVs_scal h1 h2
theorem prep_scal {f : FuncId} {look : Look} {vs : List V} {ids bor : List Nat} {xs : List Value} {os : List O} (h : callPrep f look vs = some (ids, bor, xs.map scV, os)) : vs = xs.map scV := by
  unfold callPrep at h
  cases e : argVsK (ownF f) look vs with
  | none => simp [e] at h
  | some p =>
    obtain ⟨as, b⟩ := p
    simp only [e] at h
    split at h
    · cases h
    · rename_i as2 e2
      split at h
      · cases h
      · split at h
        · cases h
        · split at h
          · simp only [Option.some.injEq, Prod.mk.injEq] at h
            obtain ⟨_, _, rfl, _⟩ := h
            exact (argVsK_scal e e2).1
          · cases h
theorem answer_scal {ids bor : List Nat} {slot : Nat} {y : Value} {e : Eff} (h : answer ids bor slot (.ret [scV y] []) = some e) : ∃ rd, e = ⟨.val (scV y), [], rd⟩ := by
  simp only [answer, scV, mapO, renV, renC, results1, List.length_nil] at h
  split at h
  · cases h
  · simp only [Option.some.injEq] at h
    subst h
    exact ⟨_, rfl⟩
variable {w : World} {F : Nat → Prop} {β : Int → Nat} {look : Look}
theorem ptrV_rep {id : Nat} (h : shL look id = some .box) : RVs w F β look (addrV (β id)) (ptrV id) := ⟨h, rfl⟩
theorem op_goes (hN : Named P) {rec : Rec} (hrec : RecOK P rec) (hS : Sim w F β look) (hH : NoHole look) {slot : Nat} (hs : look slot = none) {a : Act} {ρ : Operand → V} (hE : ∀ y, RVs w F β look (a.eval y) (ρ y)) {o : Oper} {e : Eff}
    (h : opA P rec look slot ρ o.op = some e) (hfresh : ∀ id, slot ≤ id → id ∈ e.upd.map (·.1) → look id = none) : Goes P w F β look a o e ((execOp a.eval o).run P w) := by
  by_cases hc : isCallV o.op = false
  · exact (op_runs hS hs hE hc h).goes
  · intro next Q hq
    obtain ⟨dst, op, ty, ps, af, g⟩ := o
    cases op <;> (dsimp only at hc h) <;> try (exact absurd rfl hc)
    case call c =>
      obtain ⟨callee, args, types⟩ := c
      cases callee with
      | builtin b => exact absurd rfl hc
      | invoke _ _ => exact absurd rfl hc
      | value f =>
        simp only [opA, callOpA, callV] at h
        cases ht : target (ρ f) (args.toList.map ρ) with
        | none => simp [ht] at h
        | some p =>
          obtain ⟨g', vs⟩ := p
          simp only [ht] at h
          unfold target at ht
          split at ht
          · rename_i fid first caps hf
            simp only [Option.some.injEq, Prod.mk.injEq] at ht
            obtain ⟨rfl, rfl⟩ := ht
            have hfv := hE f
            rw [hf] at hfv
            obtain ⟨hfv1, hfv2⟩ := hfv
            have hargs : All2 (RVs w F β look) (first.map (fun id : Nat => addrV (β id)) ++ args.toList.map a.eval ++ caps.map (fun id : Nat => addrV (β id))) (first.map ptrV ++ args.toList.map ρ ++ caps.map ptrV) := by
              have hp : ∀ l : List Nat, (∀ id ∈ l, shL look id = some .box) → All2 (RVs w F β look) (l.map fun id : Nat => addrV (β id)) (l.map ptrV) := by
                intro l
                induction l with
                | nil => intro _; exact .nil
                | cons x l ih => intro hl; exact .cons (ptrV_rep (hl x List.mem_cons_self)) (ih fun id hid => hl id (List.mem_cons_of_mem _ hid))
              exact ((hp first fun id hid => hfv2 id (.inl hid)).append (args_rep hE args.toList)).append (hp caps fun id hid => hfv2 id (.inr hid))
            have e1 : (first.map (fun id : Nat => addrV (β id))).toArray ++ args.map a.eval ++ (caps.map (fun id : Nat => addrV (β id))).toArray = (first.map (fun id : Nat => addrV (β id)) ++ args.toList.map a.eval ++ caps.map (fun id : Nat => addrV (β id))).toArray := by
              rw [← toArr]; simp
            have hor : Bodied P fid ∨ ∃ (xs : List Value) (y : Value), first.map ptrV ++ args.toList.map ρ ++ caps.map ptrV = xs.map scV ∧ cellB y = true ∧ (∀ w, (callFunc fid xs.toArray).run P w = .ok (.value y) w) ∧ ∃ rd, e = ⟨.val (scV y), [], rd⟩ := by
              have hh := h
              unfold callA at hh
              obtain ⟨e0, h0, _, he⟩ := stkBack_some hh
              clear hh h
              have h := h0
              clear h0
              cases hp : callPrep fid look (first.map ptrV ++ args.toList.map ρ ++ caps.map ptrV) with
              | none => rw [hp] at h; cases h
              | some p =>
                obtain ⟨ids, bor, as, os⟩ := p
                rw [hp] at h
                simp only [callFin, callOut] at h
                cases hr : callRec rec fid as os with
                | none => simp [hr] at h
                | some out =>
                  simp only [hr] at h
                  have hor0 : Bodied P fid ∨ rec (.call fid as os) = some out := by
                    unfold callRec at hr
                    split at hr
                    · rename_i hany
                      split at hr
                      case isFalse => cases hr
                      cases hr2 : rec (.call fid as (os.map castO)) with
                      | none => rw [hr2] at hr; cases hr
                      | some out0 =>
                        rcases hrec _ _ _ _ hr2 with ⟨hB, _⟩ | ⟨xs, y, _, ho, _⟩
                        · exact .inl hB
                        · have : os = [] := by simpa using ho
                          subst this
                          simp at hany
                    · exact .inr hr
                  rcases hor0 with hB | hr
                  · exact .inl hB
                  rcases hrec _ _ _ _ hr with ⟨hB, _⟩ | ⟨xs, y, rfl, rfl, rfl, hy, hn⟩
                  · exact .inl hB
                  · obtain ⟨rd, hrd⟩ := answer_scal h
                    exact .inr ⟨xs, y, prep_scal hp, hy, hn, rd, by rw [he, hrd]; rfl⟩
            rcases hor with hB | ⟨xs, y, hxs, hy, hn, rd, rfl⟩
            · have hrun : (execOp a.eval { dst := dst, op := .call { callee := .value f, args := args, argTypes := types }, type := ty, pos := ps, after := af, guard := g }).run P w =
                  .ok (.enter fid (first.map (fun id : Nat => addrV (β id)) ++ args.toList.map a.eval ++ caps.map (fun id : Nat => addrV (β id))).toArray) w := by
                simp only [execOp, resolve, hfv1, Deferred.ofValue, pure_bind, invoke]
                rw [e1]
                exact run_callFunc hN hB _ _
              show Oper.upon P _ a next Q ((execOp a.eval _).run P w)
              rw [hrun]
              refine callA_sound (fun args objs out hr => ?_) hS hH hargs h hfresh next Q hq
              rcases hrec fid args objs out hr with ⟨_, h⟩ | ⟨xs, y, _, _, _, _, hn⟩
              · exact h
              · have h1 := hn w
                rw [run_callFunc hN hB] at h1
                cases h1
            · have hv : first.map (fun id : Nat => addrV (β id)) ++ args.toList.map a.eval ++ caps.map (fun id : Nat => addrV (β id)) = xs := by
                rw [hxs] at hargs
                have key : ∀ (us : List Value) (xs : List Value), All2 (RVs w F β look) us (xs.map scV) → us = xs := by
                  intro us xs
                  induction xs generalizing us with
                  | nil => intro h; cases h; rfl
                  | cons x xs ih => intro h; cases h with | cons h1 h2 => rw [(rv_v h1).1, ih _ h2]
                exact key _ _ hargs
              have hrun : (execOp a.eval { dst := dst, op := .call { callee := .value f, args := args, argTypes := types }, type := ty, pos := ps, after := af, guard := g }).run P w = .ok (.value y) w := by
                simp only [execOp, resolve, hfv1, Deferred.ofValue, pure_bind, invoke]
                rw [e1, hv]
                exact hn w
              have hR : Runs w F β look ⟨.val (scV y), [], rd⟩ ((execOp a.eval { dst := dst, op := .call { callee := .value f, args := args, argTypes := types }, type := ty, pos := ps, after := af, guard := g }).run P w) := ⟨w, β, Good.refl hS, .inl ⟨y, hrun, RepD.v hy⟩⟩
              exact hR.goes next Q hq
          · cases ht
end
end Go.Proofs.YteenjodhmppgjaaGreatDoor.Am
end
section
/- The abstract machine: an operation's answer hangs on what it reads alone. -/
namespace Go.Proofs.YteenjodhmppgjaaGreatDoor.Am
open Go
section
variable {P : Program} {rec : Rec} {look look' : Look} {slot : Nat}
theorem toD_congr {c : C} {x : D} {own : List Nat} (h : toD look c = some (x, own)) (hl : ∀ id ∈ own, look' id = look id) : toD look' c = some (x, own) := by
  cases c with
  | d y => exact h
  | own id =>
    simp only [toD] at h ⊢
    cases e : look id with
    | none => simp [e] at h
    | some o =>
      cases o <;> simp [e] at h
      obtain ⟨rfl, rfl⟩ := h
      rw [hl id (by simp), e]
  | _ => cases h
theorem toDs_congr : ∀ {cs : List C} {xs : List D} {own : List Nat}, toDs look cs = some (xs, own) → (∀ id ∈ own, look' id = look id) → toDs look' cs = some (xs, own) := by
  intro cs
  induction cs with
  | nil => intro xs own h _; exact h
  | cons c cs ih =>
    intro xs own hd hl
    simp only [toDs] at hd ⊢
    cases e1 : toD look c with
    | none => simp [e1] at hd
    | some p =>
      obtain ⟨d, a⟩ := p
      cases e2 : toDs look cs with
      | none => simp [e1, e2] at hd
      | some q =>
        obtain ⟨ds, b⟩ := q
        simp only [e1, e2, Option.some.injEq, Prod.mk.injEq] at hd
        obtain ⟨rfl, rfl⟩ := hd
        rw [toD_congr e1 (fun id hid => hl id (List.mem_append_left _ hid)), ih e2 (fun id hid => hl id (List.mem_append_right _ hid))]
theorem toDss_congr : ∀ {vs : List V} {xs : List (List D)} {own : List Nat}, toDss look vs = some (xs, own) → (∀ id ∈ own, look' id = look id) → toDss look' vs = some (xs, own) := by
  intro vs
  induction vs with
  | nil => intro xs own h _; exact h
  | cons v vs ih =>
    intro xs own hd hl
    simp only [toDss] at hd ⊢
    cases e0 : cells v with
    | none => simp [e0] at hd
    | some cs =>
      cases e1 : toDs look cs with
      | none => simp [e0, e1] at hd
      | some p =>
        obtain ⟨d, a⟩ := p
        cases e2 : toDss look vs with
        | none => simp [e0, e1, e2] at hd
        | some q =>
          obtain ⟨ds, b⟩ := q
          simp only [e0, e1, e2, Option.some.injEq, Prod.mk.injEq] at hd
          obtain ⟨rfl, rfl⟩ := hd
          try dsimp only
          rw [toDs_congr e1 (fun id hid => hl id (List.mem_append_left _ hid)), ih e2 (fun id hid => hl id (List.mem_append_right _ hid))]
theorem argC_congr {c c' : C} {own : List Nat} (h : argC look c = some (c', own)) (hl : ∀ id ∈ own, look' id = look id) : argC look' c = some (c', own) := by
  cases c with
  | own id =>
    simp only [argC] at h ⊢
    cases e : look id with
    | none => simp [e] at h
    | some o =>
      cases o <;> simp [e] at h
      obtain ⟨rfl, rfl⟩ := h
      rw [hl id (by simp), e]
  | _ => exact h
theorem argCs_congr : ∀ {cs cs' : List C} {own : List Nat}, argCs look cs = some (cs', own) → (∀ id ∈ own, look' id = look id) → argCs look' cs = some (cs', own) := by
  intro cs
  induction cs with
  | nil => intro xs own h _; exact h
  | cons c cs ih =>
    intro xs own hd hl
    simp only [argCs] at hd ⊢
    cases e1 : argC look c with
    | none => simp [e1] at hd
    | some p =>
      obtain ⟨d, a⟩ := p
      cases e2 : argCs look cs with
      | none => simp [e1, e2] at hd
      | some q =>
        obtain ⟨ds, b⟩ := q
        simp only [e1, e2, Option.some.injEq, Prod.mk.injEq] at hd
        obtain ⟨rfl, rfl⟩ := hd
        rw [argC_congr e1 (fun id hid => hl id (List.mem_append_left _ hid)), ih e2 (fun id hid => hl id (List.mem_append_right _ hid))]
theorem argV_congr {x x' : V} {own : List Nat} (h : argV look x = some (x', own)) (hl : ∀ id ∈ own, look' id = look id) : argV look' x = some (x', own) := by
  cases x with
  | c y =>
    simp only [argV] at h ⊢
    cases e : argC look y with
    | none => simp [e] at h
    | some p => obtain ⟨z, a⟩ := p; simp only [e, Option.some.injEq, Prod.mk.injEq] at h; obtain ⟨rfl, rfl⟩ := h; rw [argC_congr e hl]
  | agg cs =>
    simp only [argV] at h ⊢
    cases e : argCs look cs with
    | none => simp [e] at h
    | some p => obtain ⟨z, a⟩ := p; simp only [e, Option.some.injEq, Prod.mk.injEq] at h; obtain ⟨rfl, rfl⟩ := h; rw [argCs_congr e hl]
  | tup vs => cases h
theorem argVs_congr : ∀ {xs xs' : List V} {own : List Nat}, argVs look xs = some (xs', own) → (∀ id ∈ own, look' id = look id) → argVs look' xs = some (xs', own) := by
  intro cs
  induction cs with
  | nil => intro xs own h _; exact h
  | cons c cs ih =>
    intro xs own hd hl
    simp only [argVs] at hd ⊢
    cases e1 : argV look c with
    | none => simp [e1] at hd
    | some p =>
      obtain ⟨d, a⟩ := p
      cases e2 : argVs look cs with
      | none => simp [e1, e2] at hd
      | some q =>
        obtain ⟨ds, b⟩ := q
        simp only [e1, e2, Option.some.injEq, Prod.mk.injEq] at hd
        obtain ⟨rfl, rfl⟩ := hd
        rw [argV_congr e1 (fun id hid => hl id (List.mem_append_left _ hid)), ih e2 (fun id hid => hl id (List.mem_append_right _ hid))]
theorem reach_congr : ∀ (n : Nat) (seen todo : List Nat), (∀ id ∈ Am.reach look n seen todo, look' id = look id) → Am.reach look' n seen todo = Am.reach look n seen todo
  | 0, _, _, _ => rfl
  | _ + 1, _, [], _ => rfl
  | n + 1, seen, id :: todo, h => by
    simp only [Am.reach] at h ⊢
    split
    · rename_i hc
      rw [if_pos hc] at h
      exact reach_congr n seen todo h
    · rename_i hc
      rw [if_neg hc] at h
      have hid : look' id = look id := by
        apply h
        obtain ⟨t, ht⟩ := reach_prefix look n (seen ++ [id]) (todo ++ refsO (look id))
        rw [ht]; simp
      rw [hid]
      exact reach_congr n _ _ h
theorem mapO_congr {α γ : Type} {f g : α → Option γ} : ∀ {l : List α}, (∀ x ∈ l, g x = f x) → mapO g l = mapO f l
  | [], _ => rfl
  | x :: l, h => by simp only [mapO]; rw [h x List.mem_cons_self, mapO_congr fun y hy => h y (List.mem_cons_of_mem _ hy)]
theorem argVsK_congr {keep : Bool} {xs xs' : List V} {own : List Nat} (h : argVsK keep look xs = some (xs', own)) (hl : ∀ id ∈ own, look' id = look id) : argVsK keep look' xs = some (xs', own) := by
  cases keep with
  | true => exact h
  | false => exact argVs_congr h hl
theorem stkOK_congr {ids : List Nat} (h : ∀ id ∈ ids, look' id = look id) : stkOK look' ids = stkOK look ids := by
  unfold stkOK
  have h1 : (ids.filter fun id => isStk (look' id)) = ids.filter fun id => isStk (look id) := List.filter_congr fun id hid => by rw [h id hid]
  have h2 : (ids.all fun id => stkOne (look' id)) = ids.all fun id => stkOne (look id) := by
    rw [Bool.eq_iff_iff, List.all_eq_true, List.all_eq_true]
    exact forall_congr' fun id => forall_congr' fun hid => by rw [h id hid]
  rw [h1, h2]
theorem backOK_congr {rd : List Nat} {upd : List (Nat × O)} (h : ∀ id ∈ rd, look' id = look id) : backOK look' slot rd upd = backOK look slot rd upd := by
  unfold backOK
  congr 1
  funext p
  unfold backP
  cases hc : rd.contains p.1 with
  | false => rfl
  | true => rw [h p.1 (List.contains_iff_mem.1 hc)]
theorem binL_other {look : Look} {op : BinOp} {t : TypeId} {c : Bool} {x y : V} (h : ¬ ∃ id, x = .c (.own id) ∧ y = .c (.d (.v (.slice none 0 0)))) : binL P look op t c x y = binB P op t c x y := by
  unfold binL
  split
  · rename_i id
    exact absurd ⟨id, rfl, rfl⟩ h
  · rfl
theorem binL_congr {op : BinOp} {t : TypeId} {c : Bool} {x y : V} {e : Eff} (h : binL P look op t c x y = some e) (hl : ∀ id ∈ e.rd, look' id = look id) : binL P look' op t c x y = some e := by
  by_cases hx : ∃ id, x = .c (.own id) ∧ y = .c (.d (.v (.slice none 0 0)))
  · obtain ⟨id, rfl, rfl⟩ := hx
    have h : boK op (isSliceT P t) id (look id) = some e := h
    obtain ⟨_, _, e0, _, rfl⟩ := boK_some h
    show boK op (isSliceT P t) id (look' id) = some _
    rw [hl id (by simp)]
    exact h
  · rw [binL_other hx] at h ⊢
    exact h
theorem callPrep_congr {f : FuncId} {args : List V} {ids bor : List Nat} {args' : List V} {objs : List O} (h : callPrep f look args = some (ids, bor, args', objs)) (h1 : ∀ id ∈ ids, look' id = look id) (h2 : ∀ id ∈ bor, look' id = look id) : callPrep f look' args = some (ids, bor, args', objs) := by
  unfold callPrep at h ⊢
  cases ha : argVsK (ownF f) look args with
  | none => simp [ha] at h
  | some q =>
    obtain ⟨args1, bor1⟩ := q
    simp only [ha] at h
    cases hm1 : mapO (renV (pos (Am.reach look 200 [] (args1.flatMap refsV)))) args1 with
    | none => simp [hm1] at h
    | some args3 =>
      simp only [hm1] at h
      cases hm2 : mapO look (Am.reach look 200 [] (args1.flatMap refsV)) with
      | none => simp [hm2] at h
      | some objs1 =>
        simp only [hm2] at h
        cases hm3 : mapO (renO (pos (Am.reach look 200 [] (args1.flatMap refsV)))) (objs1.map enterO) with
        | none => simp [hm3] at h
        | some objs3 =>
          simp only [hm3] at h
          split at h
          case isFalse => cases h
          rename_i hc
          simp only [Option.some.injEq, Prod.mk.injEq] at h
          obtain ⟨rfl, rfl, rfl, rfl⟩ := h
          rw [argVsK_congr ha h2]
          simp only [reach_congr 200 [] (args1.flatMap refsV) h1, hm1, mapO_congr h1, hm2, hm3]
          rw [stkOK_congr h1, if_pos hc]
theorem answer_rd {ids bor : List Nat} {out : Out} {e : Eff} (h : answer ids bor slot out = some e) : e.rd = ids ++ bor := by
  cases out with
  | ret vs objs =>
    simp only [answer] at h
    cases e1 : mapO (renV (back ids slot objs.length)) vs with
    | none => simp [e1] at h
    | some vs' =>
      cases e2 : mapO (renO (back ids slot objs.length)) objs with
      | none => simp [e1, e2] at h
      | some objs' =>
        cases e3 : results1 vs' with
        | none => simp [e1, e2, e3] at h
        | some v =>
          simp only [e1, e2, e3] at h
          split at h
          · cases h
          · simp only [Option.some.injEq] at h; subst h; rfl
  | pan x objs =>
    simp only [answer] at h
    cases e2 : mapO (renO (back ids slot objs.length)) objs with
    | none => simp [e2] at h
    | some objs' =>
      simp only [e2] at h
      split at h
      · cases h
      · simp only [Option.some.injEq] at h; subst h; rfl
theorem callA_congr {f : FuncId} {args : List V} {e : Eff} (h : callA rec look slot f args = some e) (hl : ∀ id ∈ e.rd, look' id = look id) : callA rec look' slot f args = some e := by
  unfold callA at h ⊢
  obtain ⟨e0, h0, hb, he⟩ := stkBack_some h
  clear h
  have hl0 : ∀ id ∈ e0.rd, look' id = look id := by rw [he] at hl; exact hl
  have key : callFin rec slot f (callPrep f look' args) = some e0 := by
    cases hp : callPrep f look args with
    | none => rw [hp] at h0; cases h0
    | some p =>
      obtain ⟨ids, bor, as, os⟩ := p
      rw [hp] at h0
      simp only [callFin, callOut] at h0
      cases hr : callRec rec f as os with
      | none => simp [hr] at h0
      | some out =>
        simp only [hr] at h0
        have hrd := answer_rd h0
        rw [callPrep_congr hp (fun id hid => hl0 id (by rw [hrd]; exact List.mem_append_left _ hid)) (fun id hid => hl0 id (by rw [hrd]; exact List.mem_append_right _ hid))]
        simp only [callFin, callOut, hr, h0]
  rw [key, he]
  unfold stkBack
  dsimp only
  rw [backOK_congr hl0, if_pos hb]
theorem ifaceD_congr {t : TypeId} {a : V} {e : Eff} (h : ifaceD look t a = some e) (hl : ∀ id ∈ e.rd, look' id = look id) : ifaceD look' t a = some e := by
  cases a with
  | agg cs =>
    simp only [ifaceD] at h ⊢
    cases hd : toDs look cs with
    | none => simp [hd] at h
    | some p =>
      obtain ⟨ds, own⟩ := p
      simp only [hd, Option.some.injEq] at h
      subst h
      simp only [toDs_congr hd hl]
  | c x => exact h
  | tup vs => exact h
theorem makeInterface_congr {t : TypeId} {a : V} {e : Eff} (h : makeInterfaceA P look t a = some e) (hl : ∀ id ∈ e.rd, look' id = look id) : makeInterfaceA P look' t a = some e := by
  unfold makeInterfaceA at h ⊢
  split at h
  · cases h
  · cases h
  · split at h
    · exact h
    · exact ifaceD_congr h hl
theorem load_congr {t : TypeId} {a : V} {e : Eff} (h : loadA P look t a = some e) (hl : ∀ id ∈ e.rd, look' id = look id) : loadA P look' t a = some e := by
  unfold loadA at h ⊢
  split at h
  · rename_i id off
    cases hk : look id with
    | none => simp [hk] at h
    | some o =>
      cases o <;> simp only [hk] at h <;> try (cases h; done)
      rename_i cs
      cases hc : cutC P t cs off with
      | none => simp [hc] at h
      | some v =>
        simp only [hc] at h
        have := h
        cases this
        try dsimp only
        rw [hl id (by simp), hk]
        simp only [hc]; rfl
  · rename_i id i off
    cases hk : look id with
    | none => simp [hk] at h
    | some o =>
      cases o <;> simp only [hk] at h <;> try (cases h; done)
      rename_i k els
      cases he : els[i]? with
      | none => simp [he] at h
      | some l =>
        simp only [he] at h
        cases hc : cutC P t (l.map .d) off with
        | none => simp [hc] at h
        | some v =>
          simp only [hc] at h
          have := h
          cases this
          try dsimp only
          rw [hl id (by simp), hk]
          simp only [he, hc]; rfl
  · exact h
  · cases h
theorem store_congr {t : TypeId} {a x : V} {e : Eff} (h : storeA P look t a x = some e) (hl : ∀ id ∈ e.rd, look' id = look id) : storeA P look' t a x = some e := by
  unfold storeA at h ⊢
  cases hc : cells x with
  | none => simp [hc] at h
  | some ys =>
    simp only [hc] at h ⊢
    split at h
    case isFalse => cases h
    rename_i hs
    rw [if_pos hs]
    split at h
    · rename_i id off
      cases hk : look id with
      | none => simp [hk] at h
      | some o =>
        cases o <;> simp only [hk] at h <;> try (cases h; done)
        rename_i cs
        split at h
        case isFalse => cases h
        rename_i hle
        have := h
        cases this
        try dsimp only
        rw [hl id (by simp), hk]
        simp only [if_pos hle]
    · rename_i id i off
      cases hk : look id with
      | none => simp [hk] at h
      | some o =>
        cases o <;> simp only [hk] at h <;> try (cases h; done)
        rename_i k els
        cases he : els[i]? with
        | none => simp [he] at h
        | some l =>
          simp only [he] at h
          cases hd : toDs look ys with
          | none => simp [hd] at h
          | some p =>
            obtain ⟨ds, own⟩ := p
            simp only [hd] at h
            split at h
            case isFalse => cases h
            rename_i hh
            have := h
            cases this
            dsimp only at hl ⊢
            rw [hl id (by simp), hk]
            simp only [he]
            rw [toDs_congr hd (fun id hid => hl id (by simp [hid]))]
            simp only [if_pos hh]
    · cases h
theorem added_congr {k : Nat} {v : V} {new : List (List D)} {o2 : List Nat} (h : addedA look k v = some (new, o2)) (hl : ∀ id ∈ o2 ++ addedR look v, look' id = look id) : addedA look' k v = some (new, o2) ∧ addedR look' v = addedR look v := by
  unfold addedA at h ⊢
  split at h
  · exact ⟨h, rfl⟩
  · exact ⟨h, rfl⟩
  · rename_i id
    cases hk : look id with
    | none => simp [hk] at h
    | some o =>
      cases o <;> simp only [hk] at h <;> try (cases h; done)
      · rename_i k' els
        split at h
        case isFalse => cases h
        rename_i hh
        have := h
        cases this
        have e : look' id = look id := hl id (by simp)
        unfold addedR
        dsimp only
        rw [e, hk]
        exact ⟨by simp only [if_pos hh], rfl⟩
      · rename_i k' els cur root
        split at h
        case isFalse => cases h
        rename_i hh
        have := h
        cases this
        have e : look' id = look id := hl id (by simp [addedR, hk, isStk])
        unfold addedR
        dsimp only
        rw [e, hk]
        exact ⟨by simp only [if_pos hh], rfl⟩
  · cases h
theorem append_congr {ts : List TypeId} {vs : List V} {e : Eff} (h : appendA P look slot ts vs = some e) (hl : ∀ id ∈ e.rd, look' id = look id) : appendA P look' slot ts vs = some e := by
  unfold appendA at h ⊢
  split at h
  case h_2 => cases h
  rename_i t u s x
  try dsimp only
  by_cases htu : t ≠ u
  · rw [if_pos htu] at h; cases h
  rw [if_neg htu] at h ⊢
  cases he : elemT P t with
  | none => simp [he] at h
  | some el =>
    simp only [he] at h ⊢
    cases hsz : sizeT P el with
    | none => simp [hsz] at h
    | some k =>
      cases hby : bytesT P el with
      | none => simp [hsz, hby] at h
      | some b =>
        simp only [hsz, hby] at h ⊢
        split at h
        case isFalse => cases h
        rename_i hh
        rw [if_pos hh]
        cases ha : addedA look k x with
        | none => simp [ha] at h
        | some p =>
          obtain ⟨new, o2⟩ := p
          simp only [ha] at h
          split at h
          · cases new with
            | nil =>
              have := h
              cases this
              obtain ⟨g1, g2⟩ := added_congr ha hl
              rw [g1]
              dsimp only
              rw [g2]
            | cons n0 new =>
              dsimp only at h
              split at h
              case isFalse => cases h
              rename_i hb
              have := h
              cases this
              obtain ⟨g1, g2⟩ := added_congr ha hl
              rw [g1]
              dsimp only
              rw [g2, if_pos hb]
          · rename_i id
            cases hk : look id with
            | none => simp [hk] at h
            | some o =>
              cases o <;> simp only [hk] at h <;> try (cases h; done)
              · rename_i k' els
                split at h
                case isFalse => cases h
                rename_i hb
                have := h
                cases this
                dsimp only at hl
                obtain ⟨g1, g2⟩ := added_congr ha (fun id hid => hl id (by simp only [List.mem_append] at hid ⊢; rcases hid with h | h; · exact .inl (.inl h)
                                                                           · exact .inr h))
                rw [g1]
                dsimp only
                rw [hl id (by simp), hk, g2]
                simp only [if_pos hb]
              · rename_i k' els cur root
                cases root with
                | false => simp at h
                | true =>
                dsimp only at h
                split at h
                case isFalse => cases h
                rename_i hb
                cases cur with
                | none =>
                  have := h
                  cases this
                  dsimp only at hl
                  obtain ⟨g1, g2⟩ := added_congr ha (fun id hid => hl id (by simp only [List.mem_append] at hid ⊢; rcases hid with h | h; · exact .inl (.inl h)
                                                                             · exact .inr h))
                  rw [g1]
                  dsimp only
                  rw [hl id (by simp), hk, g2]
                  simp only [if_pos hb]
                | some c =>
                  dsimp only at h
                  cases hc : look c with
                  | none => simp [hc] at h
                  | some oc =>
                    simp only [hc] at h
                    split at h
                    case h_2 => cases h
                    rename_i kc elc hoc
                    cases hoc
                    split at h
                    case isFalse => cases h
                    rename_i hb2
                    have := h
                    cases this
                    dsimp only at hl
                    obtain ⟨g1, g2⟩ := added_congr ha (fun id hid => hl id (by simp only [List.mem_append] at hid ⊢; rcases hid with h | h; · exact .inl (.inl h)
                                                                               · exact .inr h))
                    rw [g1]
                    dsimp only
                    rw [hl id (by simp), hk, g2]
                    simp only [if_pos hb]
                    rw [hl c (by simp), hc]
                    simp only [if_pos hb2]
          · cases h
theorem slice_congr {t : TypeId} {x : V} {lo hi mx : Option V} {e : Eff} (h : sliceA P look slot t x lo hi mx = some e) (hl : ∀ id ∈ e.rd, look' id = look id) : sliceA P look' slot t x lo hi mx = some e := by
  unfold sliceA at h ⊢
  split at h
  · exact h
  · rename_i el hu
    cases hs : sizeT P el with
    | none => simp [hs] at h
    | some k =>
      simp only [hs] at h ⊢
      split at h
      case isFalse => cases h
      rename_i hk0
      rw [if_pos hk0]
      split at h
      · exact h
      · rename_i id
        try dsimp only
        cases hk : look id with
        | none => simp [hk] at h
        | some o =>
          cases o <;> simp only [hk] at h <;> try (cases h; done)
          rename_i k' els
          have hrd : id ∈ e.rd := by
            split at h
            case isFalse => cases h
            cases hh : bound hi els.length els.length with
            | none => simp [hh] at h
            | some hN =>
              simp only [hh] at h
              split at h
              · cases h; simp
              · cases h
          rw [hl id hrd, hk]
          exact h
      · cases h
  · cases h
theorem indexAddr_congr {t : TypeId} {x i : V} {e : Eff} (h : indexAddrA P look t x i = some e) (hl : ∀ id ∈ e.rd, look' id = look id) : indexAddrA P look' t x i = some e := by
  unfold indexAddrA at h ⊢
  cases hn : num i with
  | none => simp [hn] at h
  | some n =>
    simp only [hn] at h ⊢
    split at h
    · rename_i el hu
      cases hs : sizeT P el with
      | none => simp [hs] at h
      | some k =>
        simp only [hs] at h ⊢
        split at h
        · exact h
        · rename_i id
          try dsimp only
          cases hk : look id with
          | none => simp [hk] at h
          | some o =>
            cases o <;> simp only [hk] at h <;> try (cases h; done)
            rename_i k' els
            split at h
            case isFalse => cases h
            rename_i hh
            have := h
            cases this
            rw [hl id (by simp), hk]
            simp only [if_pos hh]; rfl
        · cases h
    · exact h
    · cases h
theorem fieldAddr_congr {t : TypeId} {x : V} {f : Nat} {e : Eff} (h : fieldAddrA P look t x f = some e) (hl : ∀ id ∈ e.rd, look' id = look id) : fieldAddrA P look' t x f = some e := by
  unfold fieldAddrA at h ⊢
  cases hf : fieldT P t f with
  | none => simp [hf] at h
  | some p =>
    obtain ⟨off, u⟩ := p
    cases hs : sizeT P u with
    | none => simp [hf, hs] at h
    | some n =>
      simp only [hf, hs] at h ⊢
      split at h
      case isFalse => cases h
      rename_i hn
      rw [if_pos hn]
      split at h
      · exact h
      · rename_i id i o
        try dsimp only
        cases hk : look id with
        | none => simp [hk] at h
        | some q =>
          cases q <;> simp only [hk] at h <;> try (cases h; done)
          have := h
          cases this
          rw [hl id (by simp), hk]
          rfl
      · exact h
      · cases h
theorem nilCheck_congr {x : V} {e : Eff} (h : nilCheckA look x = some e) (hl : ∀ id ∈ e.rd, look' id = look id) : nilCheckA look' x = some e := by
  unfold nilCheckA at h ⊢
  split at h
  · exact h
  · exact h
  · rename_i id i o
    try dsimp only
    cases hk : look id with
    | none => simp [hk] at h
    | some q =>
      cases q <;> simp only [hk] at h <;> try (cases h; done)
      have := h
      cases this
      rw [hl id (by simp), hk]
      rfl
  · exact h
  · cases h
theorem len_congr {x : V} {e : Eff} (h : lenA look x = some e) (hl : ∀ id ∈ e.rd, look' id = look id) : lenA look' x = some e := by
  unfold lenA at h ⊢
  split at h
  · exact h
  · exact h
  · rename_i id
    try dsimp only
    cases hk : look id with
    | none => simp [hk] at h
    | some q =>
      cases q <;> simp only [hk] at h <;> try (cases h; done)
      have := h
      cases this
      rw [hl id (by simp), hk]
      rfl
  · cases h
theorem buildSlice_congr {t : TypeId} {len : Nat} {parts : List (Nat × V)} {e : Eff} (h : buildSliceA P look slot t len parts = some e) (hl : ∀ id ∈ e.rd, look' id = look id) : buildSliceA P look' slot t len parts = some e := by
  unfold buildSliceA at h ⊢
  cases he : elemT P t with
  | none => simp [he] at h
  | some el =>
    cases hs : sizeT P el with
    | none => simp [he, hs] at h
    | some k =>
      simp only [he, hs] at h ⊢
      cases hd : toDss look (parts.map (·.2)) with
      | none => rw [hd] at h; cases h
      | some p =>
        obtain ⟨els, own⟩ := p
        rw [hd] at h
        dsimp only at h
        split at h
        case isFalse => cases h
        rename_i hh
        have := h
        cases this
        rw [toDss_congr hd hl]
        simp only [if_pos hh]
theorem builtin_congr {b : Builtin} {ts : List TypeId} {vs : List V} {e : Eff} (h : builtinA P look slot b ts vs = some e) (hl : ∀ id ∈ e.rd, look' id = look id) : builtinA P look' slot b ts vs = some e := by
  unfold builtinA at h ⊢
  cases b <;> dsimp only at h ⊢ <;> try (first | exact h | (cases h; done))
  case append => exact append_congr h hl
  case len =>
    split at h
    case h_2 => cases h
    split at h
    case h_2 => cases h
    try dsimp only
    split at h
    · rename_i hu; exact h
    · rename_i el hu; exact len_congr h hl
    · cases h
theorem mapUpdate_rd {t : TypeId} {m k x : V} {e : Eff} (h : mapUpdateA P look t m k x = some e) : ∃ id, m = .c (.rf true id) ∧ id ∈ e.rd := by
  unfold mapUpdateA at h
  split at h
  case h_2 => cases h
  rename_i id _ _ _ _
  refine ⟨id, rfl, ?_⟩
  repeat' (split at h)
  all_goals first | (cases h; done) | (cases h; simp)
theorem mapUpdate_congr {t : TypeId} {m k x : V} {e : Eff} (h : mapUpdateA P look t m k x = some e) (hl : ∀ id ∈ e.rd, look' id = look id) : mapUpdateA P look' t m k x = some e := by
  obtain ⟨id, rfl, hid⟩ := mapUpdate_rd h
  rw [← h]
  unfold mapUpdateA
  cases scal k with
  | none => rfl
  | some a => cases scal x with
    | none => rfl
    | some b => dsimp only; rw [hl id hid]
theorem lookup_rd {t : TypeId} {m k : V} {ok : Bool} {e : Eff} (h : lookupA P look t m k ok = some e) : ∃ id, m = .c (.rf true id) ∧ id ∈ e.rd := by
  unfold lookupA at h
  split at h
  case h_2 => cases h
  rename_i id _ _
  refine ⟨id, rfl, ?_⟩
  repeat' (split at h)
  all_goals first | (cases h; done) | (cases h; simp)
theorem lookup_congr {t : TypeId} {m k : V} {ok : Bool} {e : Eff} (h : lookupA P look t m k ok = some e) (hl : ∀ id ∈ e.rd, look' id = look id) : lookupA P look' t m k ok = some e := by
  obtain ⟨id, rfl, hid⟩ := lookup_rd h
  rw [← h]
  unfold lookupA
  cases scal k with
  | none => rfl
  | some a => dsimp only; rw [hl id hid]
theorem next_rd {m : V} {s : Bool} {e : Eff} (h : nextA look m s = some e) : ∃ id, m = .c (.rf false id) ∧ id ∈ e.rd := by
  unfold nextA at h
  split at h
  case h_2 => cases h
  rename_i id
  refine ⟨id, rfl, ?_⟩
  repeat' (split at h)
  all_goals first | (cases h; done) | (cases h; simp)
theorem next_congr {m : V} {s : Bool} {e : Eff} (h : nextA look m s = some e) (hl : ∀ id ∈ e.rd, look' id = look id) : nextA look' m s = some e := by
  obtain ⟨id, rfl, hid⟩ := next_rd h
  rw [← h]
  unfold nextA
  cases s with
  | false => rfl
  | true => dsimp only; rw [hl id hid]
theorem opA_congr {ρ ρ' : Operand → V} {o : Op} {e : Eff} (h : opA P rec look slot ρ o = some e) (hρ : ∀ y ∈ o.operands.toList, ρ' y = ρ y) (hl : ∀ id ∈ e.rd, look' id = look id) : opA P rec look' slot ρ' o = some e := by
  have hmap : ∀ l : List Operand, (∀ y ∈ l, ρ' y = ρ y) → l.map ρ' = l.map ρ := fun l hl => List.map_congr_left hl
  cases o <;> unfold opA at h ⊢ <;> dsimp only at h ⊢ <;> try (cases h; done)
  case move x => rw [hρ x (by simp [Op.operands])]; exact h
  case assign x => rw [hρ x (by simp [Op.operands])]; exact h
  case pick c a b => rw [hρ c (by simp [Op.operands]), hρ a (by simp [Op.operands]), hρ b (by simp [Op.operands])]; exact h
  case alloc t => exact h
  case box t x => rw [hρ x (by simp [Op.operands])]; exact h
  case build t parts =>
    rw [show (parts.toList.map fun p => (p.1, ρ' p.2)) = parts.toList.map fun p => (p.1, ρ p.2) from List.map_congr_left fun p hp => by rw [hρ p.2 (by simp only [Op.operands, List.toList_toArray]; exact List.mem_map_of_mem hp)]]
    exact h
  case buildSlice t len parts =>
    rw [show (parts.toList.map fun p => (p.1, ρ' p.2)) = parts.toList.map fun p => (p.1, ρ p.2) from List.map_congr_left fun p hp => by rw [hρ p.2 (by simp only [Op.operands, List.toList_toArray]; exact List.mem_map_of_mem hp)]]
    exact buildSlice_congr h hl
  case load t a => rw [hρ a (by simp [Op.operands])]; exact load_congr h hl
  case store t a x => rw [hρ a (by simp [Op.operands]), hρ x (by simp [Op.operands])]; exact store_congr h hl
  case nilCheck x => rw [hρ x (by simp [Op.operands])]; exact nilCheck_congr h hl
  case binOp op t x y u => rw [hρ x (by simp [Op.operands]), hρ y (by simp [Op.operands])]; exact binL_congr h hl
  case unOp op t x => rw [hρ x (by simp [Op.operands])]; exact h
  case convert a b x => rw [hρ x (by simp [Op.operands])]; exact h
  case makeInterface t x => rw [hρ x (by simp [Op.operands])]; exact makeInterface_congr h hl
  case makeFunc fn first caps =>
    rw [hmap _ (fun y hy => hρ y (by simp [Op.operands]; left; simpa using hy)), hmap _ (fun y hy => hρ y (by simp [Op.operands]; right; simpa using hy))]; exact h
  case makeSlice t l c => rw [hρ l (by simp [Op.operands]), hρ c (by simp [Op.operands])]; exact h
  case slice t x lo hi mx =>
    have ho : ∀ z : Option Operand, (∀ y, z = some y → ρ' y = ρ y) → z.map ρ' = z.map ρ := by
      intro z hz; cases z with
      | none => rfl
      | some y => simp [hz y rfl]
    rw [hρ x (by simp [Op.operands]), ho lo (fun y hy => hρ y (by subst hy; simp [Op.operands])), ho hi (fun y hy => hρ y (by subst hy; simp [Op.operands])), ho mx (fun y hy => hρ y (by subst hy; simp [Op.operands]))]
    exact slice_congr h hl
  case fieldAddr t x f => rw [hρ x (by simp [Op.operands])]; exact fieldAddr_congr h hl
  case field t x f => rw [hρ x (by simp [Op.operands])]; exact h
  case indexAddr t x i => rw [hρ x (by simp [Op.operands]), hρ i (by simp [Op.operands])]; exact indexAddr_congr h hl
  case index t x i => rw [hρ x (by simp [Op.operands]), hρ i (by simp [Op.operands])]; exact h
  case extract x i => rw [hρ x (by simp [Op.operands])]; exact h
  case panic x => rw [hρ x (by simp [Op.operands])]; exact h
  case makeMap t r =>
    rw [show r.map ρ' = r.map ρ by cases r with | none => rfl | some y => simp [hρ y (by simp [Op.operands])]]; exact h
  case mapUpdate t m k x => rw [hρ m (by simp [Op.operands]), hρ k (by simp [Op.operands]), hρ x (by simp [Op.operands])]; exact mapUpdate_congr h hl
  case insert t m k x => rw [hρ m (by simp [Op.operands]), hρ k (by simp [Op.operands]), hρ x (by simp [Op.operands])]; exact mapUpdate_congr h hl
  case lookup t x ix ok => rw [hρ x (by simp [Op.operands]), hρ ix (by simp [Op.operands])]; exact lookup_congr h hl
  case range t x => rw [hρ x (by simp [Op.operands])]; exact h
  case next it s => rw [hρ it (by simp [Op.operands])]; exact next_congr h hl
  case call c =>
    obtain ⟨callee, args, types⟩ := c
    unfold callOpA at h ⊢
    have ha : args.toList.map ρ' = args.toList.map ρ := hmap _ fun y hy => hρ y (by simp [Op.operands, Call.operands]; right; simpa using hy)
    cases callee with
    | builtin b => dsimp only at h ⊢; rw [ha]; exact builtin_congr h hl
    | invoke _ _ => cases h
    | value f =>
      dsimp only at h ⊢
      rw [ha, hρ f (by simp [Op.operands, Call.operands])]
      unfold callV at h ⊢
      cases ht : target (ρ f) (args.toList.map ρ) with
      | none => rw [ht] at h; cases h
      | some p =>
        obtain ⟨g, vs⟩ := p
        rw [ht] at h
        exact callA_congr h hl
end
end Go.Proofs.YteenjodhmppgjaaGreatDoor.Am
end
