/- Part 2 of the proof of the card of TableRecursive, second form: no statement of its own; no conditions. -/
import Derived.Test.YteenjodhmppgjaaGreatDoorPa1
import Derived.MapKept
import Derived.Laws.RangeString
import Derived.Orders
set_option linter.unusedSimpArgs false
set_option linter.unusedVariables false
set_option linter.defProp false
set_option linter.unusedSectionVars false
section
/- The abstract machine: append; all operations but calls together. -/
namespace Go.Proofs.YteenjodhmppgjaaGreatDoor.Am
open Go
section
variable {P : Program} {w : World} {F : Nat → Prop} {β : Int → Nat} {look : Look}
theorem added_arr {k : Nat} {v : V} {new : List (List D)} {o2 : List Nat} (h : addedA look k v = some (new, o2)) : ∀ id ∈ o2, ∃ k els, look id = some (.arr k els) := by
  unfold addedA at h
  split at h
  · split at h
    · cases h; simp
    · cases h
  · cases h; simp
  · rename_i id
    split at h
    · rename_i k' els hl
      split at h
      · cases h
        intro j hj
        simp at hj
        subst hj
        exact ⟨_, _, hl⟩
      · cases h
    · cases h
  · cases h
/-- The elements that are added lie in memory. -/
theorem added_rep (hS : Sim w F β look) {k : Nat} (hk : 0 < k) {x : Value} {v : V} (hx : RVs w F β look x v) {new : List (List D)} {o2 : List Nat} (h : addedA look k v = some (new, o2)) {N' : Nat → Prop} (hw : Wide (Nn w F β look) N' β o2) :
    (new = [] ∧ ∃ a cap, x = .slice a 0 cap) ∨ ∃ g o cap news, x = .slice (some ⟨g, o, none⟩) new.length cap ∧ Flat w N' k new news ∧ At w g o news ∧ N' g := by
  have fl : ∀ {x : Value} {els : List (List D)}, RepD w N' x (.s k els) → (els = [] ∧ ∃ a cap, x = .slice a 0 cap) ∨ ∃ g o cap news, x = .slice (some ⟨g, o, none⟩) els.length cap ∧ Flat w N' k els news ∧ At w g o news ∧ N' g := by
    intro x els hr
    rcases RepD.inv hr with ⟨rfl, a, cap, rfl⟩ | ⟨b, o, cap, c, rfl, _⟩
    · exact .inl ⟨rfl, a, cap, rfl⟩
    · obtain ⟨_, hf⟩ := RepD.flat hk hr
      rcases hf with rfl | ⟨g, o', news, e, hg, h1, h2, _⟩
      · exact .inl ⟨rfl, _, cap, rfl⟩
      · cases e
        exact .inr ⟨b, o, cap, news, rfl, h1, h2, hg⟩
  unfold addedA at h
  split at h
  · rename_i k' els
    split at h
    · rename_i hh
      cases h
      have hr : RepD w N' x (.s k' new) := RepD.mono (keep_wide hw.all) hx
      rcases hh with rfl | rfl
      · exact fl hr
      · rcases RepD.inv hr with ⟨_, a, cap, rfl⟩ | ⟨b, o, cap, c, rfl, _⟩
        · exact .inl ⟨rfl, a, cap, rfl⟩
        · exact .inl ⟨rfl, _, cap, rfl⟩
    · cases h
  · cases h
    exact .inl ⟨rfl, _, _, (rv_v hx).1⟩
  · rename_i id
    split at h
    · rename_i k' els hl
      split at h
      · rename_i hh
        subst hh
        cases h
        exact fl (arr_rep hS hl hx hw.all (hw.own id (by simp)))
      · cases h
    · cases h
  · cases h
theorem append_nothing {t ty : TypeId} {el n cap : Nat} {a0 a : Option Addr} {c : Nat} (ht : P.underlying t = some (.slice el)) {k : Nat} (hs : sizeT P el = some k) (hn : n ≤ cap) :
    (Builtin.append_ #[t, t] ty #[.slice a0 n cap, .slice a 0 c]).run P w = .ok (.slice a0 n cap) w := by
  cases a0 <;> cases a <;> simp [Builtin.append_, run_underlying ht, run_sizeOf hs, Builtin.lenOf, hn, Builtin.firstCells, loadCells, loadCellsFrom, storeCells]
theorem append_room {t ty el e' : TypeId} {i : TypeInfo} (ht : P.underlying t = some (.slice el)) (hi : P.info? el = some i) {g z sLen sCap : Nat} {cur : Array Value} (hg : w.heap[g]? = some (.cells cur e' (0, 0)))
    {a : Addr} {m c : Nat} {news : List Value} (hl : news.length = m * i.size) (hnews : ∀ j u, news[j]? = some u → w.cell? (a.add j) = some u) (h1 : ∀ u ∈ news, u.oneCell' = true)
    (hroom : sLen + m ≤ sCap) (hfit : z + sLen * i.size + news.length ≤ cur.size) :
    (Builtin.append_ #[t, t] ty #[.slice (some ⟨g, z, none⟩) sLen sCap, .slice (some a) m c]).run P w =
      .ok (.slice (some ⟨g, z, none⟩) (sLen + m) sCap) (w.setRow g (cur.toList.take (z + sLen * i.size) ++ news ++ cur.toList.drop (z + sLen * i.size + news.length)).toArray) := by
  have hf := run_firstCells_some (P := P) w i.size m a m c news hl hnews
  have hst := run_storeCells_at P g (z + sLen * i.size) e' news 0 cur w hg (by simpa using hfit) h1
  simp only [Nat.add_zero] at hst
  simp [Builtin.append_, run_underlying ht, sizeOf, typeInfo, hi, Builtin.lenOf, hroom, hf, Addr.add_lit, hst]
theorem append_runs (hS : Sim w F β look) {slot : Nat} (hs : look slot = none) {types : Array TypeId} {ty : TypeId} {xs : List Value} {vs : List V} (hx : All2 (RVs w F β look) xs vs) {e : Eff} (h : appendA P look slot types.toList vs = some e) :
    Runs w F β look e ((do let v ← Builtin.append_ types ty xs.toArray; pure (.value v) : Sem Next).run P w) := by
  unfold appendA at h
  split at h
  case h_2 => cases h
  rename_i t u s x htypes
  by_cases htu : t = u
  case neg => rw [if_pos htu] at h; cases h
  subst htu
  rw [if_neg (by simp)] at h
  have hty : types = #[t, t] := by rw [← Array.toArray_toList (xs := types), htypes]
  subst hty
  cases hx with
  | @cons vs0 _ _ _ hs0 hx1 =>
  cases hx1 with
  | @cons vx _ _ _ hx0 hx2 =>
  cases hx2
  cases he : elemT P t with
  | none => simp [he] at h
  | some el =>
    simp only [he] at h
    cases hsz : sizeT P el with
    | none => simp [hsz] at h
    | some k =>
      cases hby : bytesT P el with
      | none => simp [hsz, hby] at h
      | some b =>
        simp only [hsz, hby] at h
        split at h
        case isFalse => cases h
        rename_i hh
        obtain ⟨hk, hz⟩ := hh
        obtain ⟨zs, hzs, hzl⟩ := Option.map_eq_some_iff.1 hz
        obtain ⟨i, z, hi, hz', _, hzall⟩ := zero_rep (P := P) (w := w) (N := Nn w F β look) (β := β) (sh := shL look) hzs
        have hzk : z.cells.size = k := by have := hzall.length; simp at this; omega
        have hisz := size_zero hi hsz
        have hiby := bytes_of hi hby
        have hu := run_elem he
        cases ha : addedA look k x with
        | none => simp [ha] at h
        | some p =>
          obtain ⟨new, o2⟩ := p
          simp only [ha] at h
          have ho2 := added_arr ha
          have hwide := wide_kills hS ho2
          have hadd := added_rep hS hk hx0 ha hwide
          obtain ⟨hS1, st1⟩ := sim_kills (F := F) o2 hS (kills_ok ho2)
          have hnots : slot ∉ o2 := by
            intro hm; obtain ⟨_, _, hq⟩ := ho2 slot hm; rw [hs] at hq; cases hq
          have hs1 : updL look (kills o2) slot = none := by rw [updL_kills, if_neg hnots, hs]
          split at h
          · obtain rfl := rv_nil hs0
            cases new with
            | nil =>
              cases h
              have hx' : ∃ a c, vx = .slice a 0 c := by
                rcases hadd with ⟨_, a, c, rfl⟩ | ⟨g, o, c, news, rfl, _⟩
                · exact ⟨a, c, rfl⟩
                · exact ⟨_, c, rfl⟩
              obtain ⟨a, c, rfl⟩ := hx'
              exact Runs.pure hS (x := .slice none 0 0) (by rw [Sem.run_bind, append_nothing hu hsz (Nat.le_refl 0)]; rfl) (RepD.v rfl)
            | cons n0 new =>
              dsimp only at h
              split at h
              case isFalse => cases h
              rename_i hb
              cases h
              rcases hadd with ⟨h0, _⟩ | ⟨g, o, c, news, rfl, hfl, hat, _⟩
              · cases h0
              · have hnl : news.length = (n0 :: new).length * i.size := by rw [hisz]; exact hfl.2.2.1
                generalize hN : (n0 :: new).length = n at *
                have hrun := run_append_nil (P := P) w t ty el i z hu hi hz' ⟨g, o, none⟩ n c news hnl (fun j v hj => by rw [add_at]; exact hat j v hj) (by rw [← hN]; simp) (by omega) (by rw [hiby]; omega)
                have hge := grownCap_ge w n 0 el
                generalize grownCap w n 0 el = cap' at *
                have hcont : ROc w (Nn w F β (updL look (kills o2))) β (shL (updL look (kills o2))) (news.toArray ++ Builtin.zeroCells z.cells (cap' - n)) 0 (.arr k (n0 :: new)) :=
                  hfl.content (Nat.zero_le _) (by rw [List.drop_zero, Array.toList_append]; exact List.take_left)
                obtain ⟨g1, g2, g3, g4, gb, g5⟩ := sim_new (w' := w.drew.alloc (.cells (news.toArray ++ Builtin.zeroCells z.cells (cap' - n)) el)) hS1 hs1 (o := .arr k (n0 :: new)) rfl rfl rfl rfl rfl hcont
                refine ⟨_, _, ⟨by rw [updL_append]; exact g1, by rw [updL_append]; exact st1.trans g2⟩, .inl ⟨_, by rw [Sem.run_bind, hrun]; rfl, ?_⟩⟩
                rw [updL_append]
                refine .inl ⟨k, n, cap', by rw [← hN]; exact g3, by rw [g4, gb], hge, el, news.length + (Builtin.zeroCells z.cells (cap' - n)).size, by rw [g4]; simpa using g5, ?_⟩
                rw [gb, Nat.zero_add, size_zeroCells, hnl, hisz, hzk, ← Nat.add_mul]
                exact Nat.mul_le_mul_right k (by omega)
          · rename_i id
            cases hl : look id with
            | none => simp [hl] at h
            | some q =>
              cases q with
              | arr k' els =>
                simp only [hl] at h
                split at h
                case isFalse => cases h
                rename_i hh
                obtain ⟨rfl, hb, h63, hno⟩ := hh
                cases h
                have hno' : id ∉ o2 := by simpa using hno
                have hl1 : updL look (kills o2) id = some (.arr k' els) := by rw [updL_kills, if_neg hno', hl]
                obtain ⟨cap, rfl, hcap, el', sz, hsh, hcs⟩ := own_rep hl hs0
                obtain ⟨hbl, hbF, hRO⟩ := hS1.live id _ hl1 rfl
                obtain ⟨vals, ty', hbk, hc⟩ := (RO_iff rfl).1 hRO
                have hvs : vals.size = sz := by have := shape_of_cells hbk; rw [hsh] at this; cases this; rfl
                have hfl0 := ROc.flat hc
                have hupd : updL look (kills o2 ++ [(id, O.gone), (slot, O.arr k' (els ++ new))]) = upd1 (upd1 (updL look (kills o2)) id .gone) slot (.arr k' (els ++ new)) := by rw [updL_append]; rfl
                have same : ∀ (w' : World) (vals' : Array Value), w'.heap[β id]? = some (.cells vals' ty' (0, 0)) → vals'.size = vals.size → w'.heap.size = w.heap.size → (∀ b, b ≠ β id → w'.heap[b]? = w.heap[b]?) → w'.os = w.os → w'.tape = w.tape → w'.output = w.output →
                    ROc w (Nn w F β (updL look (kills o2))) β (shL (updL look (kills o2))) vals' (bs β id) (.arr k' (els ++ new)) → els.length + new.length ≤ cap →
                    (Builtin.append_ #[t, t] ty #[.slice (some ⟨β id, bs β id, none⟩) els.length cap, vx]).run P w = .ok (.slice (some ⟨β id, bs β id, none⟩) (els.length + new.length) cap) w' →
                    Runs w F β look ⟨.val (.c (.own slot)), kills o2 ++ [(id, .gone), (slot, .arr k' (els ++ new))], o2 ++ [id]⟩ ((do let v ← Builtin.append_ #[t, t] ty #[.slice (some ⟨β id, bs β id, none⟩) els.length cap, vx]; pure (.value v) : Sem Next).run P w) := by
                  intro w' vals' p1 p2 p3 p4 p5 p6 p7 p8 p9 p10
                  obtain ⟨g1, g2, g3, g4, gb⟩ := sim_move (w' := w') hS1 hl1 hs1 (o := .arr k' (els ++ new)) rfl p1 p3 p4 p5 p6 p7 p8
                  refine ⟨w', _, ⟨by rw [hupd]; exact g1, by rw [hupd]; exact st1.trans g2⟩, .inl ⟨_, by rw [Sem.run_bind, p10]; rfl, ?_⟩⟩
                  rw [hupd]
                  refine .inl ⟨k', els.length + new.length, cap, by rw [g3]; simp [shO], by rw [g4, gb], p9, ty', vals'.size, by rw [g4]; simpa using shape_of_cells p1, by rw [gb, p2, hvs]; exact hcs⟩
                rcases hadd with ⟨rfl, a, c, rfl⟩ | ⟨g, o, c, news, rfl, hfl, hat, hNg⟩
                · refine same w vals hbk rfl rfl (fun _ _ => rfl) rfl rfl rfl (by simpa using hc) (by simpa using hcap) ?_
                  have := append_nothing (P := P) (w := w) (ty := ty) (a0 := some ⟨β id, bs β id, none⟩) (a := a) (c := c) hu hsz hcap
                  simpa using this
                · have hnl : news.length = new.length * i.size := by rw [hisz]; exact hfl.2.2.1
                  by_cases hroom : els.length + new.length ≤ cap
                  · have hfit : bs β id + els.length * k' + news.length ≤ vals.size := by
                      have : (els.length + new.length) * k' ≤ cap * k' := Nat.mul_le_mul_right k' hroom
                      rw [Nat.add_mul] at this
                      rw [hnl, hisz]; omega
                    have hvl : vals.toList.length = vals.size := Array.length_toList
                    have hrun := append_room (P := P) (ty := ty) hu hi hbk (a := ⟨g, o, none⟩) (m := new.length) (c := c) hnl (fun j v hj => by rw [add_at]; exact hat j v hj) (fun u hu => oneCell_of (hfl.cell u hu)) hroom (by rw [hisz]; exact hfit)
                    rw [hisz] at hrun
                    refine same _ _ (setRow_heap w _ _ _ _ _ hbk) (by simp; omega) (setRow_size _ _ _) (fun b hb => setRow_other _ _ _ _ hb) rfl rfl rfl ?_ hroom hrun
                    have := hfl0.append hfl
                    refine this.content (by simp; omega) ?_
                    have e1 : (vals.toList.take (bs β id + els.length * k')).drop (bs β id) = (vals.toList.drop (bs β id)).take (els.length * k') := by rw [List.drop_take]; congr 1; omega
                    have e2 : bs β id ≤ (vals.toList.take (bs β id + els.length * k')).length := by simp; omega
                    rw [List.append_assoc, List.drop_append_of_le_length e2, e1, ← List.append_assoc]
                    exact List.take_left
                  · have holds : ∀ j v, ((vals.toList.drop (bs β id)).take (els.length * k'))[j]? = some v → w.cell? ((⟨β id, bs β id, none⟩ : Addr).add j) = some v := by
                      intro j v hj
                      rw [add_at]
                      exact ((At.of_drop hbk _).take _) j v hj
                    have hrun := run_append_grow (P := P) w t ty el i z hu hi hz' ⟨β id, bs β id, none⟩ els.length cap ((vals.toList.drop (bs β id)).take (els.length * k')) (by rw [hisz]; exact hfl0.2.2.1) holds ⟨g, o, none⟩ new.length c news hnl (fun j v hj => by rw [add_at]; exact hat j v hj) (by omega) (by omega) (growslice_fits (by omega) (by rw [hiby]; exact hb))
                    have hge := grownCap_ge w (els.length + new.length) cap el
                    generalize grownCap w (els.length + new.length) cap el = cap' at *
                    obtain ⟨hS2, st2⟩ := sim_kill (F := F) hS1 (id := id) ⟨.arr k' els.length, by simp [shL, hl1, shO], by simp⟩
                    have hs2 : upd1 (updL look (kills o2)) id .gone slot = none := by
                      have : slot ≠ id := by rintro rfl; rw [hs] at hl; cases hl
                      simp [upd1, this, hs1]
                    have hcont : ROc w (Nn w F β (upd1 (updL look (kills o2)) id .gone)) β (shL (upd1 (updL look (kills o2)) id .gone)) (((vals.toList.drop (bs β id)).take (els.length * k')).toArray ++ news.toArray ++ Builtin.zeroCells z.cells (cap' - (els.length + new.length))) 0 (.arr k' (els ++ new)) := by
                      have := (hfl0.append hfl).mono st2.keep
                      refine this.content (Nat.zero_le _) ?_
                      rw [List.drop_zero, Array.toList_append, Array.toList_append]
                      exact List.take_left
                    obtain ⟨g1, g2, g3, g4, gb, g5⟩ := sim_new (w' := w.drew.alloc (.cells (((vals.toList.drop (bs β id)).take (els.length * k')).toArray ++ news.toArray ++ Builtin.zeroCells z.cells (cap' - (els.length + new.length))) el)) hS2 hs2 (o := .arr k' (els ++ new)) rfl rfl rfl rfl rfl hcont
                    refine ⟨_, _, ⟨by rw [hupd]; exact g1, by rw [hupd]; exact st1.trans (st2.trans g2)⟩, .inl ⟨_, by rw [Sem.run_bind, hrun]; rfl, ?_⟩⟩
                    rw [hupd]
                    refine .inl ⟨k', els.length + new.length, cap', by rw [g3]; simp [shO], by rw [g4, gb], hge, el, min (els.length * k') (vals.size - bs β id) + news.length + (Builtin.zeroCells z.cells (cap' - (els.length + new.length))).size, by rw [g4]; simpa using g5, ?_⟩
                    have hmin : min (els.length * k') (vals.size - bs β id) = els.length * k' := by have := hfl0.2.2.1; simpa using this
                    rw [gb, Nat.zero_add, hmin, size_zeroCells, hnl, hisz, hzk, ← Nat.add_mul, ← Nat.add_mul]
                    exact Nat.mul_le_mul_right k' (by omega)
              | _ => simp [hl] at h
          · cases h
end
end Go.Proofs.YteenjodhmppgjaaGreatDoor.Am
end
section
/- The abstract machine: maps with scalar keys and values, iterators over texts. -/
namespace Go.Proofs.YteenjodhmppgjaaGreatDoor.Am
open Go
section
variable {P : Program} {w : World} {F : Nat → Prop} {β : Int → Nat} {look : Look}
theorem scal_rep {x : Value} {v : V} {y : Value} (h : RVs w F β look x v) (hs : scal v = some y) : x = y ∧ cellB y = true := by
  unfold scal at hs
  split at hs
  · cases hs; exact rv_v h
  · cases hs
theorem isKey_of {d : TypeDesc} {x : Value} (h : isKeyB d x = true) : MapKept.IsKey d x := by
  cases d <;> cases x <;> simp_all [isKeyB, MapKept.IsKey]
theorem keyA_eq {t : TypeId} {x : Value} {d : TypeDesc} {e : TypeId} (h : keyA P t x = some (d, e)) : ∃ k, P.underlying t = some (.map k e) ∧ P.underlying k = some d ∧ MapKept.IsKey d x := by
  unfold keyA at h
  cases hu : P.underlying t with
  | none => simp [hu] at h
  | some td =>
    cases td <;> simp only [hu] at h <;> try (cases h; done)
    rename_i k e'
    cases hk : P.underlying k with
    | none => simp [hk] at h
    | some d' =>
      simp only [hk] at h
      split at h
      · rename_i hb
        simp only [Option.some.injEq, Prod.mk.injEq] at h
        obtain ⟨rfl, rfl⟩ := h
        exact ⟨k, rfl, hk, isKey_of hb⟩
      · cases h
theorem set_raw (hS : Sim w F β look) {id : Nat} {x x' : Obj} (hid : look id = some (.raw x)) (hn : noCells x = true) (hn' : noCells x' = true) :
    Good w F β look [(id, .raw x')] { w with heap := w.heap.setIfInBounds (β id) x' } β := by
  have hb : w.heap[β id]? = some x := (hS.live id _ hid rfl).2.2
  obtain ⟨h1, h2⟩ := MapKept.heap_set (o' := x') hb
  obtain ⟨g1, g2⟩ := sim_setR (w' := { w with heap := w.heap.setIfInBounds (β id) x' }) hS hid hn hn' h1 (by simp) (fun b hb => h2 b hb) rfl rfl rfl
  exact ⟨g1, g2⟩
theorem makeMap_runs (hS : Sim w F β look) {slot : Nat} (hs : look slot = none) {t : TypeId} {r : Option Value} {v : Option V} (hr : match r, v with | some y, some v => RVs w F β look y v | none, none => True | _, _ => False) {e : Eff} (h : makeMapA P slot t v = some e) :
    Runs w F β look e ((do let v ← Instr.makeMap t r; pure (.value v) : Sem Next).run P w) := by
  obtain ⟨g1, g2, g3, g4⟩ := sim_newR (w' := w.alloc (.map #[] 0)) hS hs (x := .map #[] 0) rfl rfl rfl rfl
  unfold makeMapA at h
  cases v with
  | none =>
    cases r with
    | some y => exact hr.elim
    | none =>
      cases h
      exact ⟨_, _, ⟨g1, g2⟩, .inl ⟨.map (some w.heap.size), by simp [Instr.makeMap], ⟨g3, by rw [g4]; rfl⟩⟩⟩
  | some v =>
    cases r with
    | none => exact hr.elim
    | some y =>
      dsimp only at h
      split at h
      · rename_i n k el hn hu
        cases h
        obtain ⟨kk, rfl, _⟩ := num_rep hr hn
        exact ⟨_, _, ⟨g1, g2⟩, .inl ⟨.map (some w.heap.size), by simp [Instr.makeMap, run_underlying hu, asInt, asIntOf], ⟨g3, by rw [g4]; rfl⟩⟩⟩
      · cases h
theorem mapUpdate_runs (hS : Sim w F β look) {t : TypeId} {m k x : Value} {vm vk vx : V} (hm : RVs w F β look m vm) (hk : RVs w F β look k vk) (hx : RVs w F β look x vx) {e : Eff} (h : mapUpdateA P look t vm vk vx = some e) :
    Runs w F β look e ((do Instr.mapUpdate t m k x; pure .skip : Sem Next).run P w) := by
  unfold mapUpdateA at h
  split at h
  case h_2 => cases h
  rename_i id key val h1 h2
  obtain ⟨rfl, hkc⟩ := scal_rep hk h1
  obtain ⟨rfl, hvc⟩ := scal_rep hx h2
  obtain ⟨hsh, rfl⟩ := hm
  cases hka : keyA P t k with
  | none => simp [hka] at h
  | some p =>
    obtain ⟨d, el⟩ := p
    obtain ⟨kt, u1, u2, u3⟩ := keyA_eq hka
    simp only [hka] at h
    split at h
    case h_2 => cases h
    rename_i es clock hl
    have hb : w.heap[β id]? = some (.map es clock) := (hS.live id _ hl rfl).2.2
    have hrv : rawV true (β id) = .map (some (β id)) := rfl
    split at h
    · rename_i i v0 hf
      split at h
      · rename_i old ho
        split at h
        · rename_i hold
          have hold : old.key = k := by
            simp only [Bool.and_eq_true, beq_iff_eq] at hold
            obtain ⟨r, h4, h5⟩ := MapKept.sameNow_of_keys u3 (isKey_of hold.1)
            rw [h4] at hold
            exact (h5.1 (by simpa using hold.2)).symm
          cases h
          refine ⟨_, _, set_raw hS hl rfl rfl, .inr ⟨?_, rfl⟩⟩
          have h3 := MapKept.run_keyThatStays (P := P) (w := w) u3
          simp [Instr.mapUpdate, hrv, run_underlying u1, MapKept.run_getObj_map hb, MapKept.run_checkKey u2 u3, MapKept.run_findKey u2 hf, ho, hold, h3, MapKept.run_setObj_map _ hb, Result.andThen]
        · cases h
      · cases h
    · rename_i hf
      cases h
      refine ⟨_, _, set_raw hS hl rfl rfl, .inr ⟨?_, rfl⟩⟩
      simp [Instr.mapUpdate, hrv, run_underlying u1, MapKept.run_getObj_map hb, MapKept.run_checkKey u2 u3, MapKept.run_findKey u2 hf, MapKept.run_setObj_map _ hb, Result.andThen]
    · cases h
theorem pair_rep {ok : Bool} {x : Value} {b : Bool} (hx : cellB x = true) : RVs w F β look (if ok then .tuple #[x, .bool b] else x) (pairV ok x b) := by
  unfold pairV
  cases ok with
  | false => exact RepD.v hx
  | true =>
    refine ⟨#[x, .bool b], rfl, .cons ?_ (.cons ?_ .nil)⟩
    · exact ⟨_, rfl, RepD.v hx⟩
    · exact ⟨_, rfl, RepD.v rfl⟩
theorem lookup_runs (hS : Sim w F β look) {t : TypeId} {m k : Value} {vm vk : V} {ok : Bool} (hm : RVs w F β look m vm) (hk : RVs w F β look k vk) {e : Eff} (h : lookupA P look t vm vk ok = some e) :
    Runs w F β look e ((do let v ← Instr.lookup t m k ok; pure (.value v) : Sem Next).run P w) := by
  unfold lookupA at h
  split at h
  case h_2 => cases h
  rename_i id key h1
  obtain ⟨rfl, hkc⟩ := scal_rep hk h1
  obtain ⟨hsh, rfl⟩ := hm
  cases hka : keyA P t k with
  | none => simp [hka] at h
  | some p =>
    obtain ⟨d, el⟩ := p
    obtain ⟨kt, u1, u2, u3⟩ := keyA_eq hka
    simp only [hka] at h
    split at h
    case h_2 => cases h
    rename_i es clock hl
    have hb : w.heap[β id]? = some (.map es clock) := (hS.live id _ hl rfl).2.2
    have hrv : rawV true (β id) = .map (some (β id)) := rfl
    split at h
    · rename_i i v0 hf
      split at h
      · rename_i hv
        refine Runs.eff hS h ?_ (pair_rep hv)
        simp [Instr.lookup, hrv, run_underlying u1, MapKept.run_getObj_map hb, MapKept.run_checkKey u2 u3, MapKept.run_findKey u2 hf, Result.andThen]
      · cases h
    · rename_i hf
      split at h
      · rename_i z hz
        have hrun : (zeroValue el).run P w = .ok z w ∧ cellB z = true := by
          unfold zero1 at hz
          cases hi : P.info? el with
          | none => simp [hi] at hz
          | some inf =>
            simp only [hi] at hz
            cases hzz : inf.zero with
            | none => simp [hzz] at hz
            | some z' =>
              simp only [hzz] at hz
              split at hz
              · rename_i hc; cases hz; exact ⟨by simp [zeroValue, typeInfo, hi, hzz], hc⟩
              · cases hz
        obtain ⟨hrun, hzc⟩ := hrun
        refine Runs.eff hS h ?_ (pair_rep hzc)
        simp [Instr.lookup, hrv, run_underlying u1, MapKept.run_getObj_map hb, MapKept.run_checkKey u2 u3, MapKept.run_findKey u2 hf, hrun, Result.andThen]
      · cases h
    · cases h
theorem range_runs (hS : Sim w F β look) {slot : Nat} (hs : look slot = none) {t : TypeId} {x : Value} {v : V} (hx : RVs w F β look x v) {e : Eff} (h : rangeA P slot t v = some e) :
    Runs w F β look e ((do let v ← Instr.range t x; pure (.value v) : Sem Next).run P w) := by
  unfold rangeA at h
  split at h
  case h_2 => cases h
  rename_i s hu h1
  cases h
  obtain ⟨rfl, _⟩ := scal_rep hx h1
  obtain ⟨g1, g2, g3, g4⟩ := sim_newR (w' := w.alloc (.stringIter s 0)) hS hs (x := .stringIter s 0) rfl rfl rfl rfl
  exact ⟨_, _, ⟨g1, g2⟩, .inl ⟨.pointer (some ⟨w.heap.size, 0, none⟩), by simp [run_range_string _ _ _ hu]; rfl, ⟨g3, by rw [g4]; rfl⟩⟩⟩
theorem next_runs (hS : Sim w F β look) {it : Value} {v : V} {isS : Bool} {ty : TypeId} (hx : RVs w F β look it v) {e : Eff} (h : nextA look v isS = some e) :
    Runs w F β look e ((do let v ← Instr.next it isS ty; pure (.value v) : Sem Next).run P w) := by
  unfold nextA at h
  split at h
  case h_2 => cases h
  rename_i id
  obtain ⟨hsh, rfl⟩ := hx
  split at h
  case h_2 => cases h
  rename_i s pos hl
  have hb : w.heap[β id]? = some (.stringIter s pos) := (hS.live id _ hl rfl).2.2
  have hrv : rawV false (β id) = .pointer (some ⟨β id, 0, none⟩) := rfl
  split at h
  · rename_i hp
    cases h
    refine ⟨_, _, set_raw hS hl rfl rfl, .inl ⟨.tuple #[.bool true, .int .i64 pos, .int .i32 (Utf8.decode s pos).1], ?_, ?_⟩⟩
    · simp [Instr.next, hrv, getObj, setObj, Sem.run, hb, hp, goInt]
    · refine ⟨_, rfl, .cons ?_ (.cons ?_ (.cons ?_ .nil))⟩
      · exact ⟨_, rfl, RepD.v rfl⟩
      · exact ⟨_, rfl, RepD.v rfl⟩
      · exact ⟨_, rfl, RepD.v rfl⟩
  · rename_i hp
    refine Runs.eff hS h (x := .tuple #[.bool false]) ?_ ?_
    · simp [Instr.next, hrv, getObj, Sem.run, hb, hp]
    · exact ⟨_, rfl, .cons ⟨_, rfl, RepD.v rfl⟩ .nil⟩
end
end Go.Proofs.YteenjodhmppgjaaGreatDoor.Am
end
section
/- The abstract machine: all operations but calls of functions. -/
namespace Go.Proofs.YteenjodhmppgjaaGreatDoor.Am
open Go
section
variable {P : Program} {w : World} {F : Nat → Prop} {β : Int → Nat} {look : Look}
theorem args_rep {ρc : Operand → Value} {ρ : Operand → V} (hE : ∀ y, RVs w F β look (ρc y) (ρ y)) : ∀ l : List Operand, All2 (RVs w F β look) (l.map ρc) (l.map ρ)
  | [] => .nil
  | y :: l => .cons (hE y) (args_rep hE l)
theorem toArr {α γ : Type} (f : α → γ) (a : Array α) : (a.toList.map f).toArray = a.map f := by obtain ⟨l⟩ := a; simp
def isCallV : Op → Bool
  | .call { callee := .value _, .. } => true
  | _ => false
theorem builtin_runs (hS : Sim w F β look) {slot : Nat} (hs : look slot = none) {b : Builtin} {types : Array TypeId} {ty : TypeId} {consts : Array Bool} {xs : List Value} {vs : List V} (hx : All2 (RVs w F β look) xs vs) {e : Eff}
    (h : builtinA P look slot b types.toList vs = some e) : Runs w F β look e ((builtin b types ty consts xs.toArray).run P w) := by
  unfold builtinA at h
  cases b <;> dsimp only at h <;> try (cases h; done)
  case append => exact append_runs hS hs hx h
  case max => exact max_runs hS hx h
  case min => exact min_runs hS hx h
  case panic =>
    split at h
    · cases hx with
      | cons h1 h2 =>
        cases h2
        exact panic_runs hS h1 h
    · cases h
  case len =>
    split at h
    case h_2 => cases h
    rename_i x
    split at h
    case h_2 => cases h
    rename_i t htypes
    have hty : types = #[t] := by rw [← Array.toArray_toList (xs := types), htypes]
    subst hty
    cases hx with
    | @cons vx _ _ _ h1 h2 =>
      cases h2
      split at h
      · rename_i hu
        exact lenS_runs hS hu h1 h
      · rename_i el hu
        exact len_runs hS hu h1 h
      · cases h
theorem opt_rep {ρc : Operand → Value} {ρ : Operand → V} (hE : ∀ y, RVs w F β look (ρc y) (ρ y)) (o : Option Operand) : match o.map ρc, o.map ρ with | some y, some v => RVs w F β look y v | none, none => True | _, _ => False := by
  cases o with
  | none => trivial
  | some y => exact hE y
theorem op_runs {rec : Rec} (hS : Sim w F β look) {slot : Nat} (hs : look slot = none) {ρc : Operand → Value} {ρ : Operand → V} (hE : ∀ y, RVs w F β look (ρc y) (ρ y)) {o : Oper} (hc : isCallV o.op = false) {e : Eff}
    (h : opA P rec look slot ρ o.op = some e) : Runs w F β look e ((execOp ρc o).run P w) := by
  obtain ⟨dst, op, ty, ps, af, g⟩ := o
  cases op <;> (dsimp only at h hc; unfold opA at h; dsimp only at h) <;> try (cases h; done)
  case move x => exact Runs.eff hS h rfl (hE x)
  case assign x => exact Runs.eff hS h rfl (hE x)
  case pick c a b => exact pick_runs hS (hE c) (hE a) (hE b) h
  case alloc t => exact alloc_runs hS hs h
  case box t x => exact box_runs hS hs (hE x) h
  case build t parts =>
    have := build_runs (P := P) hS (parts := parts.toList) hE h
    simpa [execOp] using this
  case buildSlice t len parts =>
    have := buildSlice_runs (P := P) hS hs (parts := parts.toList) hE h
    simpa [execOp] using this
  case load t a => exact load_runs hS (hE a) h
  case store t a x => exact store_runs hS (hE a) (hE x) h
  case nilCheck x => exact nilCheck_runs hS rfl (hE x) h
  case binOp op t x y u => exact binB_runs hS (hE x) (hE y) h
  case unOp op t x => exact un_runs hS (hE x) h
  case convert a b x => exact convert_runs hS (hE x) h
  case makeInterface t x => exact makeInterface_runs hS (hE x) h
  case makeFunc fn first caps =>
    have := makeFunc_runs (P := P) (fn := fn) hS (args_rep hE first.toList) (args_rep hE caps.toList) h
    rw [toArr, toArr] at this
    exact this
  case makeSlice t l c => exact makeSlice_runs hS hs (hE l) (hE c) h
  case slice t x lo hi mx => exact slice_runs hS hs (hE x) (opt_rep hE lo) (opt_rep hE hi) (opt_rep hE mx) h
  case fieldAddr t x f => exact fieldAddr_runs hS (hE x) h
  case field t x f => exact field_runs hS (hE x) h
  case indexAddr t x i => exact indexAddr_runs hS (hE x) (hE i) h
  case index t x i => exact index_runs hS (hE x) (hE i) h
  case extract x i => exact extract_runs hS (hE x) h
  case panic x => exact panic_runs hS (hE x) h
  case makeMap t r => exact makeMap_runs hS hs (opt_rep hE r) h
  case mapUpdate t m k x => exact mapUpdate_runs hS (hE m) (hE k) (hE x) h
  case insert t m k x => exact mapUpdate_runs hS (hE m) (hE k) (hE x) h
  case lookup t x ix ok => exact lookup_runs hS (hE x) (hE ix) h
  case range t x => exact range_runs hS hs (hE x) h
  case next it s => exact next_runs hS (hE it) h
  case call c =>
    obtain ⟨callee, args, types⟩ := c
    cases callee with
    | value f => cases hc
    | invoke _ _ => cases h
    | builtin b =>
      have := fun consts => builtin_runs (P := P) (ty := ty) (consts := consts) hS hs (args_rep hE args.toList) h
      rw [toArr] at this
      exact this _
end
end Go.Proofs.YteenjodhmppgjaaGreatDoor.Am
end
section
/- The abstract machine: objects under other numbers; what a call hands on. -/
namespace Go.Proofs.YteenjodhmppgjaaGreatDoor.Am
open Go
theorem mapO_all2 {α γ : Type} {f : α → Option γ} : ∀ {l : List α} {m : List γ}, mapO f l = some m → All2 (fun a b => f a = some b) l m
  | [], m, h => by simp only [mapO, Option.some.injEq] at h; subst h; exact .nil
  | a :: l, m, h => by
    simp only [mapO] at h
    cases e1 : f a with
    | none => simp [e1] at h
    | some y =>
      cases e2 : mapO f l with
      | none => simp [e1, e2] at h
      | some ys =>
        simp only [e1, e2, Option.some.injEq] at h
        subst h
        exact .cons e1 (mapO_all2 e2)
theorem All2.comp {α β γ : Type} {R : α → β → Prop} {S : β → γ → Prop} {T : α → γ → Prop} (h : ∀ a b c, R a b → S b c → T a c) {l : List α} {m : List β} {n : List γ} (h1 : All2 R l m) (h2 : All2 S m n) : All2 T l n := by
  induction h1 generalizing n with
  | nil => cases h2; exact .nil
  | cons r _ ih => cases h2 with | cons s t => exact .cons (h _ _ _ r s) (ih t)
/-- Objects under other numbers. -/
def Ren (r : Nat → Option Nat) (β : Int → Nat) (sh : Nat → Option Sh) (β' : Int → Nat) (sh' : Nat → Option Sh) : Prop :=
  ∀ id j, r id = some j → sh' j = sh id ∧ ((∃ s, sh id = some s ∧ s ≠ .gone) → β' j = β id) ∧ ((∃ s, sh id = some s ∧ s ≠ .gone) → bs β' j = bs β id)
section
variable {w : World} {N N' : Nat → Prop} {r : Nat → Option Nat} {β β' : Int → Nat} {sh sh' : Nat → Option Sh}
theorem renC_rep (hr : Ren r β sh β' sh') (hN : ∀ b, N b → N' b) {v : Value} {c c' : C} (h : RC w N β sh v c) (hc : renC r c = some c') : RC w N' β' sh' v c' := by
  cases c with
  | d x => cases hc; exact RepD.mono (keep_wide hN) h
  | ptr id off =>
    simp only [renC] at hc
    cases e : r id with
    | none => simp [e] at hc
    | some j =>
      simp only [e, Option.some.injEq] at hc
      subst hc
      obtain ⟨h1, rfl⟩ := h
      obtain ⟨a, b, b2⟩ := hr id j e
      exact ⟨by rw [a, h1], by rw [b ⟨_, h1, by simp⟩]⟩
  | elt k els i off => cases hc; obtain ⟨b, o, cap, h1, h2, rfl⟩ := h; exact ⟨b, o, cap, RepD.mono (keep_wide hN) h1, h2, rfl⟩
  | rf m id =>
    simp only [renC] at hc
    cases e : r id with
    | none => simp [e] at hc
    | some j =>
      simp only [e, Option.some.injEq] at hc
      subst hc
      obtain ⟨h1, rfl⟩ := h
      obtain ⟨a, b, b2⟩ := hr id j e
      exact ⟨by rw [a, h1], by rw [b ⟨_, h1, by simp⟩]⟩
  | own id =>
    simp only [renC] at hc
    cases e : r id with
    | none => simp [e] at hc
    | some j =>
      simp only [e, Option.some.injEq] at hc
      subst hc
      obtain ⟨a, b, b2⟩ := hr id j e
      rcases h with ⟨k, n, cap, h1, rfl, h2, q, sz, h3, h4⟩ | ⟨h1, h2⟩
      · have hb := b ⟨_, h1, by simp⟩
        have hb2 := b2 ⟨_, h1, by simp⟩
        exact .inl ⟨k, n, cap, by rw [a, h1], by rw [hb, hb2], h2, q, sz, by rw [hb]; exact h3, by rw [hb2]; exact h4⟩
      · exact .inr ⟨by rw [a, h1], h2⟩
  | ap id i off =>
    simp only [renC] at hc
    cases e : r id with
    | none => simp [e] at hc
    | some j =>
      simp only [e, Option.some.injEq] at hc
      subst hc
      obtain ⟨a, b, b2⟩ := hr id j e
      rcases h with ⟨k, n, h1, rfl⟩ | ⟨h1, h2⟩
      · exact .inl ⟨k, n, by rw [a, h1], by rw [b ⟨_, h1, by simp⟩, b2 ⟨_, h1, by simp⟩]⟩
      · exact .inr ⟨by rw [a, h1], h2⟩
  | fn f a b =>
    simp only [renC] at hc
    cases e1 : mapO r a with
    | none => simp [e1] at hc
    | some a' =>
      cases e2 : mapO r b with
      | none => simp [e1, e2] at hc
      | some b' =>
        simp only [e1, e2, Option.some.injEq] at hc
        subst hc
        obtain ⟨rfl, h2⟩ := h
        have key : ∀ {l m : List Nat}, All2 (fun x y => r x = some y) l m → (∀ id ∈ l, sh id = some .box) → l.map (fun id : Nat => addrV (β id)) = m.map (fun id : Nat => addrV (β' id)) ∧ ∀ id ∈ m, sh' id = some .box := by
          intro l m hlm
          induction hlm with
          | nil => intro _; simp
          | @cons x y l m h1 _ ih =>
            intro hl
            obtain ⟨p, q, _⟩ := hr x y h1
            have hx := hl x List.mem_cons_self
            obtain ⟨u, v⟩ := ih (fun id hid => hl id (List.mem_cons_of_mem _ hid))
            refine ⟨by simp only [List.map_cons, u, q ⟨_, hx, by simp⟩], fun id hid => ?_⟩
            rcases List.mem_cons.1 hid with rfl | hid
            · rw [p, hx]
            · exact v id hid
        obtain ⟨p1, q1⟩ := key (mapO_all2 e1) (fun id hid => h2 id (.inl hid))
        obtain ⟨p2, q2⟩ := key (mapO_all2 e2) (fun id hid => h2 id (.inr hid))
        exact ⟨by rw [p1, p2], fun id hid => hid.elim (q1 id) (q2 id)⟩
  | any => cases hc; trivial
theorem renK_rep (hr : Ren r β sh β' sh') (hN : ∀ b, N b → N' b) {vs : List Value} {cs cs' : List C} (h : All2 (RK w N β sh) vs cs) (hc : mapO (renC r) cs = some cs') : All2 (RK w N' β' sh') vs cs' :=
  h.comp (fun _ _ _ h1 h2 => ⟨h1.1, renC_rep hr hN h1.2 h2⟩) (mapO_all2 hc)
theorem renV_rep (hr : Ren r β sh β' sh') (hN : ∀ b, N b → N' b) {v : Value} {x x' : V} (h : RV w N β sh v x) (hc : renV r x = some x') : RV w N' β' sh' v x' := by
  cases x with
  | c y =>
    simp only [renV] at hc
    cases e : renC r y with
    | none => simp [e] at hc
    | some z => simp only [e, Option.some.injEq] at hc; subst hc; exact renC_rep hr hN h e
  | agg cs =>
    simp only [renV] at hc
    cases e : mapO (renC r) cs with
    | none => simp [e] at hc
    | some z => simp only [e, Option.some.injEq] at hc; subst hc; obtain ⟨a, rfl, h⟩ := h; exact ⟨a, rfl, renK_rep hr hN h e⟩
  | tup vs =>
    simp only [renV] at hc
    cases e : mapO (renP r) vs with
    | none => simp [e] at hc
    | some z =>
      simp only [e, Option.some.injEq] at hc
      subst hc
      obtain ⟨a, rfl, h⟩ := h
      refine ⟨a, rfl, h.comp (fun v p q h1 h2 => ?_) (mapO_all2 e)⟩
      obtain ⟨b, cs⟩ := p
      simp only [renP] at h2
      cases e2 : mapO (renC r) cs with
      | none => simp [e2] at h2
      | some cs' =>
        simp only [e2, Option.some.injEq] at h2
        subst h2
        cases b with
        | true => obtain ⟨a', rfl, h3⟩ := h1; exact ⟨a', rfl, renK_rep hr hN h3 e2⟩
        | false =>
          obtain ⟨y, h4, h3⟩ := h1
          dsimp only at h4
          subst h4
          have := mapO_all2 e2
          cases this with
          | cons h5 h6 => cases h6; exact ⟨_, rfl, renC_rep hr hN h3 h5⟩
theorem renO_sh {o o' : O} (hc : renO r o = some o') : shO o' = shO o := by
  cases o with
  | box cs =>
    simp only [renO] at hc
    cases e : mapO (renC r) cs with
    | none => simp [e] at hc
    | some z => simp only [e, Option.some.injEq] at hc; subst hc; rfl
  | _ => cases hc; rfl
theorem renO_RO (hr : Ren r β sh β' sh') (hN : ∀ b, N b → N' b) {b z : Nat} {o o' : O} (h : RO w N β sh b z o) (hc : renO r o = some o') : RO w N' β' sh' b z o' := by
  cases o with
  | box cs =>
    have hc2 := hc
    simp only [renO] at hc2
    cases e : mapO (renC r) cs with
    | none => simp [e] at hc2
    | some z =>
      simp only [e, Option.some.injEq] at hc2; subst hc2
      obtain ⟨vals, ty, h1, h2⟩ := h
      exact ⟨vals, ty, h1, renK_rep hr hN h2 e⟩
  | arr k els => cases hc; obtain ⟨vals, ty, e, h0, h1, h2, h3⟩ := h; exact ⟨vals, ty, e, h0, h1, h2, fun i l j x a b => let ⟨v, p, q⟩ := h3 i l j x a b; ⟨v, p, RepD.mono (keep_wide hN) q⟩⟩
  | raw x => cases hc; exact h
  | gone => cases hc; trivial
  | hole => cases hc; trivial
end
theorem alive_sh {o : O} : alive o = true ↔ ∃ s, shO o = some s ∧ s ≠ .gone := by cases o <;> simp [alive, shO]
theorem pos_get : ∀ {l : List Nat} {id j : Nat}, pos l id = some j → l[j]? = some id
  | [], _, _, h => by cases h
  | x :: r, id, j, h => by
    simp only [pos] at h
    split at h
    · rename_i e; cases h; simp [e]
    · cases e : pos r id with
      | none => simp [e] at h
      | some m => simp [e] at h; subst h; simpa using pos_get e
theorem nodup_get {l : List Nat} (h : l.Nodup) {i j x : Nat} (hi : l[i]? = some x) (hj : l[j]? = some x) : i = j := by
  have hi' : i < l.length := by
    rcases Nat.lt_or_ge i l.length with h | h
    · exact h
    · rw [List.getElem?_eq_none h] at hi; cases hi
  have hj' : j < l.length := by
    rcases Nat.lt_or_ge j l.length with h | h
    · exact h
    · rw [List.getElem?_eq_none h] at hj; cases hj
  rw [List.getElem?_eq_getElem hi'] at hi
  rw [List.getElem?_eq_getElem hj'] at hj
  exact (List.getElem_inj h).1 ((Option.some.inj hi).trans (Option.some.inj hj).symm)

/-! ### arguments -/
section
variable {w : World} {F : Nat → Prop} {β : Int → Nat} {look : Look} {N' : Nat → Prop}
theorem argC_rep (hS : Sim w F β look) {c c' : C} {own : List Nat} {v : Value} (h : RC w (Nn w F β look) β (shL look) v c) (hd : argC look c = some (c', own)) (hw : Wide (Nn w F β look) N' β own) : RC w N' β (shL look) v c' := by
  cases c with
  | own id =>
    simp only [argC] at hd
    cases hl : look id with
    | none => simp [hl] at hd
    | some o =>
      cases o <;> simp [hl] at hd
      obtain ⟨rfl, rfl⟩ := hd
      exact arr_rep hS hl h hw.all (hw.own id (by simp))
  | any => cases hd
  | d x => cases hd; exact RC.mono (keep_wide hw.all) (Ids.refl _ _ _ _) h
  | ptr id off => cases hd; exact RC.mono (keep_wide hw.all) (Ids.refl _ _ _ _) h
  | elt k els i off => cases hd; exact RC.mono (keep_wide hw.all) (Ids.refl _ _ _ _) h
  | ap id i off => cases hd; exact RC.mono (keep_wide hw.all) (Ids.refl _ _ _ _) h
  | fn f a b => cases hd; exact RC.mono (keep_wide hw.all) (Ids.refl _ _ _ _) h
  | rf m id => cases hd; exact RC.mono (keep_wide hw.all) (Ids.refl _ _ _ _) h
theorem argC_arr {c c' : C} {own : List Nat} (hd : argC look c = some (c', own)) : ∀ id ∈ own, ∃ k els, look id = some (.arr k els) := by
  cases c with
  | own id =>
    simp only [argC] at hd
    cases hl : look id with
    | none => simp [hl] at hd
    | some o =>
      cases o <;> simp [hl] at hd
      obtain ⟨rfl, rfl⟩ := hd
      intro j hj
      simp at hj
      subst hj
      exact ⟨_, _, hl⟩
  | any => cases hd
  | _ => cases hd; simp
theorem argCs_rep (hS : Sim w F β look) : ∀ {cs cs' : List C} {own : List Nat} {vs : List Value}, All2 (RK w (Nn w F β look) β (shL look)) vs cs → argCs look cs = some (cs', own) → Wide (Nn w F β look) N' β own → All2 (RK w N' β (shL look)) vs cs' := by
  intro cs
  induction cs with
  | nil => intro xs own vs h hd _; simp only [argCs, Option.some.injEq, Prod.mk.injEq] at hd; obtain ⟨rfl, rfl⟩ := hd; cases h; exact .nil
  | cons c cs ih =>
    intro xs own vs h hd hw
    cases h with
    | cons h1 h2 =>
      simp only [argCs] at hd
      cases e1 : argC look c with
      | none => simp [e1] at hd
      | some p =>
        obtain ⟨d, a⟩ := p
        cases e2 : argCs look cs with
        | none => simp [e1, e2] at hd
        | some q =>
          obtain ⟨ds, b⟩ := q
          simp only [e1, e2, Option.some.injEq, Prod.mk.injEq] at hd
          obtain ⟨rfl, rfl⟩ := hd
          exact .cons ⟨h1.1, argC_rep hS h1.2 e1 ⟨hw.all, fun id hid => hw.own id (List.mem_append_left _ hid)⟩⟩ (ih h2 e2 ⟨hw.all, fun id hid => hw.own id (List.mem_append_right _ hid)⟩)
theorem argCs_arr : ∀ {cs cs' : List C} {own : List Nat}, argCs look cs = some (cs', own) → ∀ id ∈ own, ∃ k els, look id = some (.arr k els) := by
  intro cs
  induction cs with
  | nil => intro xs own hd; simp only [argCs, Option.some.injEq, Prod.mk.injEq] at hd; obtain ⟨rfl, rfl⟩ := hd; simp
  | cons c cs ih =>
    intro xs own hd
    simp only [argCs] at hd
    cases e1 : argC look c with
    | none => simp [e1] at hd
    | some p =>
      obtain ⟨d, a⟩ := p
      cases e2 : argCs look cs with
      | none => simp [e1, e2] at hd
      | some q =>
        obtain ⟨ds, b⟩ := q
        simp only [e1, e2, Option.some.injEq, Prod.mk.injEq] at hd
        obtain ⟨rfl, rfl⟩ := hd
        intro id hid
        rcases List.mem_append.1 hid with h | h
        · exact argC_arr e1 id h
        · exact ih e2 id h
theorem argV_rep (hS : Sim w F β look) {x x' : V} {own : List Nat} {v : Value} (h : RVs w F β look v x) (hd : argV look x = some (x', own)) (hw : Wide (Nn w F β look) N' β own) : RV w N' β (shL look) v x' := by
  cases x with
  | c y =>
    simp only [argV] at hd
    cases e : argC look y with
    | none => simp [e] at hd
    | some p => obtain ⟨z, a⟩ := p; simp only [e, Option.some.injEq, Prod.mk.injEq] at hd; obtain ⟨rfl, rfl⟩ := hd; exact argC_rep hS h e hw
  | agg cs =>
    simp only [argV] at hd
    cases e : argCs look cs with
    | none => simp [e] at hd
    | some p => obtain ⟨z, a⟩ := p; simp only [e, Option.some.injEq, Prod.mk.injEq] at hd; obtain ⟨rfl, rfl⟩ := hd; obtain ⟨q, rfl, h⟩ := h; exact ⟨q, rfl, argCs_rep hS h e hw⟩
  | tup vs => cases hd
theorem argV_arr {x x' : V} {own : List Nat} (hd : argV look x = some (x', own)) : ∀ id ∈ own, ∃ k els, look id = some (.arr k els) := by
  cases x with
  | c y =>
    simp only [argV] at hd
    cases e : argC look y with
    | none => simp [e] at hd
    | some p => obtain ⟨z, a⟩ := p; simp only [e, Option.some.injEq, Prod.mk.injEq] at hd; obtain ⟨rfl, rfl⟩ := hd; exact argC_arr e
  | agg cs =>
    simp only [argV] at hd
    cases e : argCs look cs with
    | none => simp [e] at hd
    | some p => obtain ⟨z, a⟩ := p; simp only [e, Option.some.injEq, Prod.mk.injEq] at hd; obtain ⟨rfl, rfl⟩ := hd; exact argCs_arr e
  | tup vs => cases hd
theorem argVs_rep (hS : Sim w F β look) : ∀ {xs xs' : List V} {own : List Nat} {vs : List Value}, All2 (RVs w F β look) vs xs → argVs look xs = some (xs', own) → Wide (Nn w F β look) N' β own → All2 (fun v x => RV w N' β (shL look) v x) vs xs' := by
  intro cs
  induction cs with
  | nil => intro xs own vs h hd _; simp only [argVs, Option.some.injEq, Prod.mk.injEq] at hd; obtain ⟨rfl, rfl⟩ := hd; cases h; exact .nil
  | cons c cs ih =>
    intro xs own vs h hd hw
    cases h with
    | cons h1 h2 =>
      simp only [argVs] at hd
      cases e1 : argV look c with
      | none => simp [e1] at hd
      | some p =>
        obtain ⟨d, a⟩ := p
        cases e2 : argVs look cs with
        | none => simp [e1, e2] at hd
        | some q =>
          obtain ⟨ds, b⟩ := q
          simp only [e1, e2, Option.some.injEq, Prod.mk.injEq] at hd
          obtain ⟨rfl, rfl⟩ := hd
          exact .cons (argV_rep hS h1 e1 ⟨hw.all, fun id hid => hw.own id (List.mem_append_left _ hid)⟩) (ih h2 e2 ⟨hw.all, fun id hid => hw.own id (List.mem_append_right _ hid)⟩)
theorem argVs_arr : ∀ {xs xs' : List V} {own : List Nat}, argVs look xs = some (xs', own) → ∀ id ∈ own, ∃ k els, look id = some (.arr k els) := by
  intro cs
  induction cs with
  | nil => intro xs own hd; simp only [argVs, Option.some.injEq, Prod.mk.injEq] at hd; obtain ⟨rfl, rfl⟩ := hd; simp
  | cons c cs ih =>
    intro xs own hd
    simp only [argVs] at hd
    cases e1 : argV look c with
    | none => simp [e1] at hd
    | some p =>
      obtain ⟨d, a⟩ := p
      cases e2 : argVs look cs with
      | none => simp [e1, e2] at hd
      | some q =>
        obtain ⟨ds, b⟩ := q
        simp only [e1, e2, Option.some.injEq, Prod.mk.injEq] at hd
        obtain ⟨rfl, rfl⟩ := hd
        intro id hid
        rcases List.mem_append.1 hid with h | h
        · exact argV_arr e1 id h
        · exact ih e2 id h
theorem argVsK_arr {keep : Bool} {xs xs' : List V} {own : List Nat} (h : argVsK keep look xs = some (xs', own)) : ∀ id ∈ own, ∃ k els, look id = some (.arr k els) := by
  cases keep with
  | true => simp only [argVsK, Option.some.injEq, Prod.mk.injEq] at h; obtain ⟨rfl, rfl⟩ := h; simp
  | false => exact argVs_arr h
theorem argVsK_rep {keep : Bool} (hS : Sim w F β look) {xs xs' : List V} {own : List Nat} {vs : List Value} (h : All2 (RVs w F β look) vs xs) (hd : argVsK keep look xs = some (xs', own)) (hw : Wide (Nn w F β look) N' β own) : All2 (fun v x => RV w N' β (shL look) v x) vs xs' := by
  cases keep with
  | true =>
    simp only [argVsK, Option.some.injEq, Prod.mk.injEq] at hd
    obtain ⟨rfl, rfl⟩ := hd
    exact h.mono fun _ _ p => RV.mono (keep_wide hw.all) (Ids.refl _ _ _ _) p
  | false => exact argVs_rep hS h hd hw
end
end Go.Proofs.YteenjodhmppgjaaGreatDoor.Am
end
section
/- The abstract machine: a call, seen from the caller. -/
namespace Go.Proofs.YteenjodhmppgjaaGreatDoor.Am
open Go

def RRes (w : World) (F : Nat → Prop) (β : Int → Nat) (look : Look) (v : Value) (vs : List V) : Prop :=
  (∃ y, vs = [y] ∧ RVs w F β look v y) ∨ (vs.length ≠ 1 ∧ ∃ a, v = .tuple a ∧ All2 (RVs w F β look) a.toList vs)
/-- What a function leaves. -/
def OutOK (w : World) (F : Nat → Prop) (β : Int → Nat) (objs : List O) (out : Out) (e : Ending) (w' : World) : Prop :=
  ∃ β', match out with
    | .ret vs objs' => ∃ v, e = .returned v ∧ RRes w' F β' (lk objs') v vs ∧ Sim w' F β' (lk objs') ∧ St (· < objs.length) w β (lk objs) w' β' (lk objs')
    | .pan x objs' => e = .panicked [{ v := x, recovered := false }] ∧ Sim w' F β' (lk objs') ∧ St (· < objs.length) w β (lk objs) w' β' (lk objs')
def CallOK (P : Program) (f : FuncId) (args : List V) (objs : List O) (out : Out) : Prop :=
  ∀ (w : World) (F : Nat → Prop) (β : Int → Nat) (vals : List Value), Sim w F β (lk objs) → All2 (RVs w F β (lk objs)) vals args → Calls P f vals.toArray w (OutOK w F β objs out)

/-- What the caller keeps from the callee. -/
def Fc (F : Nat → Prop) (β : Int → Nat) (look : Look) (ids bor : List Nat) (b : Nat) : Prop := F b ∨ ∃ id o, look id = some o ∧ alive o = true ∧ id ∉ ids ∧ id ∉ bor ∧ β id = b
def βc (β : Int → Nat) (ids : List Nat) : Int → Nat
  | .ofNat j => β (ids.getD j 0 : Nat)
  | .negSucc j => bs β (ids.getD j 0)
theorem βc_nat {β : Int → Nat} {ids : List Nat} {j : Nat} : βc β ids j = β (ids.getD j 0 : Nat) := rfl
theorem βc_bs {β : Int → Nat} {ids : List Nat} {j : Nat} : bs (βc β ids) j = bs β (ids.getD j 0) := rfl
theorem lk_some {objs : List O} {j : Nat} {o : O} (h : lk objs j = some o) : objs[j]? = some o := by
  unfold lk at h
  split at h
  · cases h
  · exact h
theorem lk_of {objs : List O} {j : Nat} {o : O} (h : objs[j]? = some o) (ho : o ≠ .hole) : lk objs j = some o := by
  unfold lk
  rw [h]
  cases o <;> first | rfl | exact absurd rfl ho
section
variable {P : Program} {w : World} {F : Nat → Prop} {β : Int → Nat} {look : Look}
theorem prep_get {ids : List Nat} {objs objs' : List O} (hm : mapO look ids = some objs) (hr : mapO (renO (pos ids)) objs = some objs') {j : Nat} {o' : O} (h : objs'[j]? = some o') :
    ∃ id o, ids[j]? = some id ∧ look id = some o ∧ renO (pos ids) o = some o' := by
  obtain ⟨o, h1, h2⟩ := (mapO_all2 hr).get_right h
  obtain ⟨id, h3, h4⟩ := (mapO_all2 hm).get_right h1
  exact ⟨id, o, h3, h4, h2⟩
theorem prep_get' {ids : List Nat} {objs objs' : List O} (hm : mapO look ids = some objs) (hr : mapO (renO (pos ids)) objs = some objs') {j id : Nat} (h : ids[j]? = some id) :
    ∃ o o', look id = some o ∧ objs'[j]? = some o' ∧ renO (pos ids) o = some o' := by
  obtain ⟨o, h1, h2⟩ := (mapO_all2 hm).get_left h
  obtain ⟨o', h3, h4⟩ := (mapO_all2 hr).get_left h1
  exact ⟨o, o', h2, h3, h4⟩
theorem look_not_hole {o o' : O} {r : Nat → Option Nat} (h : renO r o = some o') (ho : o ≠ .hole) : o' ≠ .hole := by
  cases o with
  | box cs =>
    simp only [renO] at h
    cases e : mapO (renC r) cs with
    | none => simp [e] at h
    | some z => simp only [e, Option.some.injEq] at h; subst h; simp
  | arr k els => cases h; simp
  | raw x => cases h; simp
  | gone => cases h; simp
  | hole => exact absurd rfl ho
/-- The looks that this file speaks of never show a hole. -/
def NoHole (look : Look) : Prop := ∀ id, look id ≠ some .hole
theorem noHole_lk (loc : List O) : NoHole (lk loc) := by
  intro id h
  have := lk_some h
  unfold lk at h
  rw [this] at h
  cases h
theorem call_prep (hS : Sim w F β look) (hH : NoHole look) {ids bor : List Nat} {objs objs' : List O} (hm : mapO look ids = some objs) (hr : mapO (renO (pos ids)) objs = some objs') (hnd : ids.Nodup) (hbor : ∀ id ∈ bor, ∃ k els, look id = some (.arr k els)) (hdis : ∀ id ∈ bor, id ∉ ids) :
    Sim w (Fc F β look ids bor) (βc β ids) (lk objs') ∧ Wide (Nn w F β look) (Nn w (Fc F β look ids bor) (βc β ids) (lk objs')) β bor ∧ Ren (pos ids) β (shL look) (βc β ids) (shL (lk objs')) ∧
    (∀ b, Live (βc β ids) (lk objs') b → ∃ id o, id ∈ ids ∧ look id = some o ∧ alive o = true ∧ β id = b) := by
  have hget : ∀ j o', lk objs' j = some o' → ∃ id o, ids[j]? = some id ∧ look id = some o ∧ renO (pos ids) o = some o' ∧ βc β ids j = β id ∧ bs (βc β ids) j = bs β id := by
    intro j o' h
    obtain ⟨id, o, h1, h2, h3⟩ := prep_get hm hr (lk_some h)
    exact ⟨id, o, h1, h2, h3, by simp [βc_nat, List.getD, h1], by simp [βc_bs, List.getD, h1]⟩
  have halive : ∀ {o o' : O}, renO (pos ids) o = some o' → (alive o' = true ↔ alive o = true) := by
    intro o o' h
    rw [alive_sh, alive_sh, renO_sh h]
  have hlive : ∀ b, Live (βc β ids) (lk objs') b → ∃ id o, id ∈ ids ∧ look id = some o ∧ alive o = true ∧ β id = b := by
    rintro b ⟨j, o', h1, h2, h3⟩
    obtain ⟨id, o, p1, p2, p3, p4, _⟩ := hget j o' h1
    exact ⟨id, o, List.mem_of_getElem? p1, p2, (halive p3).1 h2, by rw [← p4, h3]⟩
  have hF : ∀ b, Fc F β look ids bor b → b < w.heap.size := by
    rintro b (h | ⟨id, o, h1, h2, _, _, rfl⟩)
    · exact hS.flt b h
    · exact (hS.live id o h1 h2).1
  have hren : Ren (pos ids) β (shL look) (βc β ids) (shL (lk objs')) := by
    intro id j h
    have h1 := pos_get h
    obtain ⟨o, o', h2, h3, h4⟩ := prep_get' hm hr h1
    have ho' := look_not_hole h4 (fun e => hH id (by rw [h2, e]))
    refine ⟨by simp [shL, lk_of h3 ho', h2, renO_sh h4], fun _ => by simp [βc_nat, List.getD, h1], fun _ => by simp [βc_bs, List.getD, h1]⟩
  have hall : ∀ b, Nn w F β look b → Nn w (Fc F β look ids bor) (βc β ids) (lk objs') b := by
    rintro b ⟨h1, h2, h3⟩
    refine ⟨h1, ?_, fun h => ?_⟩
    · rintro (h | ⟨id, o, q1, q2, _, _, q3⟩)
      · exact h2 h
      · exact h3 ⟨id, o, q1, q2, q3⟩
    · obtain ⟨id, o, _, q1, q2, q3⟩ := hlive b h
      exact h3 ⟨id, o, q1, q2, q3⟩
  have hwide : Wide (Nn w F β look) (Nn w (Fc F β look ids bor) (βc β ids) (lk objs')) β bor := by
    refine ⟨hall, fun id hid => ?_⟩
    obtain ⟨k, els, hl⟩ := hbor id hid
    obtain ⟨a, b, _⟩ := hS.live id _ hl rfl
    refine ⟨a, ?_, fun h => ?_⟩
    · rintro (h | ⟨id', o, q1, q2, q3, q4, q5⟩)
      · exact b h
      · have := hS.inj id' id o _ q1 hl q2 rfl q5
        subst this
        exact q4 hid
    · obtain ⟨id', o, q0, q1, q2, q3⟩ := hlive _ h
      have := hS.inj id' id o _ q1 hl q2 rfl q3
      subst this
      exact hdis id' hid q0
  refine ⟨⟨hF, fun j o' h ha => ?_, fun j j' o1 o2 h1 h2 ha1 ha2 hb => ?_⟩, hwide, hren, hlive⟩
  · obtain ⟨id, o, p1, p2, p3, p4, p5⟩ := hget j o' h
    obtain ⟨a, b, c⟩ := hS.live id o p2 ((halive p3).1 ha)
    rw [p4, p5]
    refine ⟨a, ?_, ?_⟩
    · rintro (h | ⟨id', o2, q1, q2, q3, q4, q5⟩)
      · exact b h
      · have := hS.inj id' id o2 o q1 p2 q2 ((halive p3).1 ha) q5
        subst this
        exact q3 (List.mem_of_getElem? p1)
    · exact renO_RO hren hall c p3
  · obtain ⟨id1, q1, p1, p2, p3, p4, _⟩ := hget j o1 h1
    obtain ⟨id2, q2, r1, r2, r3, r4, _⟩ := hget j' o2 h2
    rw [p4, r4] at hb
    have := hS.inj id1 id2 q1 q2 p2 r2 ((halive p3).1 ha1) ((halive r3).1 ha2) hb
    subst this
    exact nodup_get hnd p1 r1
end
end Go.Proofs.YteenjodhmppgjaaGreatDoor.Am
end
section
/- The abstract machine: behind a call. -/
namespace Go.Proofs.YteenjodhmppgjaaGreatDoor.Am
open Go
def conv : O → Option O
  | .hole => none
  | o => some o
theorem conv_some {o o' : O} (h : conv o = some o') : o = o' := by
  cases o <;> first | exact Option.some.inj h | cases h
theorem upd1_self (look : Look) (id : Nat) (o : O) : upd1 look id o id = conv o := by unfold upd1; simp; cases o <;> rfl
theorem upd1_other (look : Look) {id j : Nat} (o : O) (h : j ≠ id) : upd1 look id o j = look j := by simp [upd1, h]
theorem updL_notin : ∀ (u : List (Nat × O)) (look : Look) {id : Nat}, (∀ p ∈ u, p.1 ≠ id) → updL look u id = look id
  | [], _, _, _ => rfl
  | (j, o) :: r, look, id, h => by
    rw [updL, updL_notin r _ (fun p hp => h p (List.mem_cons_of_mem _ hp)), upd1_other]
    exact fun e => h (j, o) List.mem_cons_self e.symm
theorem updL_zip (key : Nat → Nat) : ∀ (l : List O) (n : Nat) (look : Look), (∀ a b, n ≤ a → a < n + l.length → n ≤ b → b < n + l.length → key a = key b → a = b) →
    ∀ j o, l[j]? = some o → updL look ((l.zipIdx n).map fun p => (key p.2, p.1)) (key (n + j)) = conv o
  | [], _, _, _, _, _, h => by simp at h
  | x :: l, n, look, hinj, j, o, h => by
    rw [List.zipIdx_cons, List.map_cons, updL]
    cases j with
    | zero =>
      simp only [List.getElem?_cons_zero, Option.some.injEq] at h
      subst h
      rw [updL_notin]
      · exact upd1_self _ _ _
      · intro p hp
        obtain ⟨q, hq, rfl⟩ := List.mem_map.1 hp
        obtain ⟨y, i⟩ := q
        have := List.mem_zipIdx hq
        intro e
        have := hinj i (n + 0) (by omega) (by simp; omega) (by omega) (by simp) e
        omega
    | succ j =>
      have := updL_zip key l (n + 1) (upd1 look (key n) x) (fun a b h1 h2 h3 h4 h5 => hinj a b (by omega) (by simp; omega) (by omega) (by simp; omega) h5) j o (by simpa using h)
      rw [show n + (j + 1) = n + 1 + j by omega]
      exact this
section
variable {P : Program} {w w' : World} {F : Nat → Prop} {β βd : Int → Nat} {look : Look}
/-- A call that the caller's objects do not take part in. -/
theorem call_apart (hS : Sim w F β look) (h1 : w'.os = w.os) (h2 : w'.tape = w.tape) (h3 : w'.output = w.output) (h4 : w.heap.size ≤ w'.heap.size) (h5 : ∀ b, b < w.heap.size → w'.heap[b]? = w.heap[b]?) :
    Sim w' F β look ∧ St (fun _ => True) w β look w' β look := by
  have st : St (fun _ => True) w β look w' β look := by
    refine ⟨h1, h2, h3, h4, fun b hb _ => h5 b hb, fun b hb => .inl hb, fun id s _ hs => ?_⟩
    by_cases hg : s = .gone
    · subst hg; exact .inr (.inr ⟨rfl, hs⟩)
    · obtain ⟨o, ho, hso⟩ := shL_alive hs
      exact .inl ⟨rfl, hs, shape_of_block (h5 _ (hS.live id o ho (shO_alive hso hg)).1), rfl⟩
  refine ⟨⟨fun b hb => Nat.lt_of_lt_of_le (hS.flt b hb) h4, fun id o hl ha => ?_, hS.inj⟩, st⟩
  obtain ⟨a, b, c⟩ := hS.live id o hl ha
  exact ⟨Nat.lt_of_lt_of_le a h4, b, RO.mono st.keep st.ids (h5 _ a) c⟩
theorem call_back (hS : Sim w F β look) (hH : NoHole look) {ids bor : List Nat} {objs objs' : List O} (hm : mapO look ids = some objs) (hr : mapO (renO (pos ids)) objs = some objs') (hnd : ids.Nodup) (hbor : ∀ id ∈ bor, ∃ k els, look id = some (.arr k els)) (hdis : ∀ id ∈ bor, id ∉ ids)
    {out out2 : List O} {slot : Nat} (hSd : Sim w' (Fc F β look ids bor) βd (lk out)) (hst : St (· < objs'.length) w (βc β ids) (lk objs') w' βd (lk out)) (hr2 : mapO (renO (back ids slot out.length)) out = some out2) (hlen : ids.length ≤ out.length)
    (hfresh : ∀ id, slot ≤ id → id ∈ (number ids slot out2).map (·.1) → look id = none) :
    ∃ β', Sim w' F β' (updL look (number ids slot out2 ++ kills bor)) ∧ St (fun _ => True) w β look w' β' (updL look (number ids slot out2 ++ kills bor)) ∧
      Ren (back ids slot out.length) βd (shL (lk out)) β' (shL (updL look (number ids slot out2 ++ kills bor))) ∧
      (∀ b, Nn w' (Fc F β look ids bor) βd (lk out) b → Nn w' F β' (updL look (number ids slot out2 ++ kills bor)) b) := by
  obtain ⟨hSc, hwide, hren, hlivec⟩ := call_prep hS hH hm hr hnd hbor hdis
  have hol : out2.length = out.length := (mapO_all2 hr2).length.symm
  have hidl : objs'.length = ids.length := by rw [← (mapO_all2 hr).length, ← (mapO_all2 hm).length]
  -- the keys
  have keyLt : ∀ j, j < ids.length → ∃ id, ids[j]? = some id ∧ (back ids slot out2.length j).getD 0 = id ∧ back ids slot out2.length j = some id := by
    intro j hj
    exact ⟨ids[j], by simp [hj], by simp [back, hj], by simp [back, hj]⟩
  have keyGe : ∀ j, ids.length ≤ j → j < out2.length → (back ids slot out2.length j).getD 0 = slot + (j - ids.length) ∧ back ids slot out2.length j = some (slot + (j - ids.length)) := by
    intro j h1 h2
    have : ¬ j < ids.length := by omega
    exact ⟨by simp [back, this, h2], by simp [back, this, h2]⟩
  have inU : ∀ j, j < out2.length → (back ids slot out2.length j).getD 0 ∈ (number ids slot out2).map (·.1) := by
    intro j hj
    refine List.mem_map.2 ⟨((back ids slot out2.length j).getD 0, out2[j]), ?_, rfl⟩
    exact List.mem_map.2 ⟨(out2[j], j), by rw [List.mem_zipIdx_iff_getElem?]; simp [hj], rfl⟩
  have hidsome : ∀ id ∈ ids, ∃ o, look id = some o := by
    intro id hid
    obtain ⟨j, hj⟩ := List.getElem?_of_mem hid
    obtain ⟨o, _, h, _⟩ := prep_get' hm hr hj
    exact ⟨o, h⟩
  have hext : ∀ j, ids.length ≤ j → j < out2.length → look (slot + (j - ids.length)) = none := by
    intro j h1 h2
    have := inU j h2
    rw [(keyGe j h1 h2).1] at this
    exact hfresh _ (by omega) this
  have hinj : ∀ a b, a < out2.length → b < out2.length → (back ids slot out2.length a).getD 0 = (back ids slot out2.length b).getD 0 → a = b := by
    intro a b ha hb he
    rcases Nat.lt_or_ge a ids.length with h1 | h1 <;> rcases Nat.lt_or_ge b ids.length with h2 | h2
    · obtain ⟨x, p1, p2, _⟩ := keyLt a h1
      obtain ⟨y, q1, q2, _⟩ := keyLt b h2
      rw [p2, q2] at he
      subst he
      exact nodup_get hnd p1 q1
    · obtain ⟨x, p1, p2, _⟩ := keyLt a h1
      rw [p2, (keyGe b h2 hb).1] at he
      obtain ⟨o, ho⟩ := hidsome x (List.mem_of_getElem? p1)
      rw [he, hext b h2 hb] at ho; cases ho
    · obtain ⟨y, q1, q2, _⟩ := keyLt b h2
      rw [q2, (keyGe a h1 ha).1] at he
      obtain ⟨o, ho⟩ := hidsome y (List.mem_of_getElem? q1)
      rw [← he, hext a h1 ha] at ho; cases ho
    · rw [(keyGe a h1 ha).1, (keyGe b h2 hb).1] at he; omega
  -- the caller's objects behind the call
  generalize hL : updL look (number ids slot out2 ++ kills bor) = look'
  have atKey : ∀ (j : Nat) (o2 : O), out2[j]? = some o2 → updL look (number ids slot out2) ((back ids slot out2.length j).getD 0) = conv o2 := by
    intro j o2 hj
    have := updL_zip (fun j => (back ids slot out2.length j).getD 0) out2 0 look (fun a b _ h2 _ h4 h5 => hinj a b (by omega) (by omega) h5) j o2 hj
    simpa [number] using this
  have notKey : ∀ id, id ∉ (number ids slot out2).map (·.1) → updL look (number ids slot out2) id = look id := by
    intro id hid
    exact updL_notin _ _ fun p hp e => hid (List.mem_map.2 ⟨p, hp, e⟩)
  have keyOf : ∀ id, id ∈ (number ids slot out2).map (·.1) → ∃ (j : Nat) (o2 : O), out2[j]? = some o2 ∧ (back ids slot out2.length j).getD 0 = id := by
    intro id hid
    obtain ⟨p, hp, rfl⟩ := List.mem_map.1 hid
    obtain ⟨q, hq, rfl⟩ := List.mem_map.1 hp
    obtain ⟨o, j⟩ := q
    exact ⟨j, o, (List.mem_zipIdx_iff_getElem?.1 hq), rfl⟩
  have borNot : ∀ id ∈ bor, id ∉ (number ids slot out2).map (·.1) := by
    intro id hid hk
    obtain ⟨j, o2, h1, h2⟩ := keyOf id hk
    obtain ⟨k, els, hl⟩ := hbor id hid
    have hj : j < out2.length := by
      rcases Nat.lt_or_ge j out2.length with h | h
      · exact h
      · rw [List.getElem?_eq_none h] at h1; cases h1
    rcases Nat.lt_or_ge j ids.length with h | h
    · obtain ⟨x, p1, p2, _⟩ := keyLt j h
      rw [p2] at h2; subst h2
      exact hdis _ hid (List.mem_of_getElem? p1)
    · rw [(keyGe j h hj).1] at h2
      have := hext j h hj
      rw [h2, hl] at this; cases this
  have lookKey : ∀ (j : Nat) (o2 : O), out2[j]? = some o2 → look' ((back ids slot out2.length j).getD 0) = conv o2 := by
    intro j o2 hj
    rw [← hL, updL_append, updL_kills, if_neg, atKey j o2 hj]
    intro hb
    have hj' : j < out2.length := by
      rcases Nat.lt_or_ge j out2.length with h | h
      · exact h
      · rw [List.getElem?_eq_none h] at hj; cases hj
    exact borNot _ hb (inU j hj')
  have lookBor : ∀ id ∈ bor, look' id = some .gone := by
    intro id hid
    rw [← hL, updL_append, updL_kills, if_pos hid]
  have lookElse : ∀ id, id ∉ bor → id ∉ (number ids slot out2).map (·.1) → look' id = look id := by
    intro id h1 h2
    rw [← hL, updL_append, updL_kills, if_neg h1, notKey id h2]
  -- where the objects lie
  let β' : Int → Nat := fun | .ofNat id => if look id = none then βd (ids.length + (id - slot) : Nat) else β id | .negSucc id => if look id = none then bs βd (ids.length + (id - slot)) else bs β id
  have βn : ∀ id : Nat, β' id = if look id = none then βd (ids.length + (id - slot) : Nat) else β id := fun _ => rfl
  have βb : ∀ id : Nat, bs β' id = if look id = none then bs βd (ids.length + (id - slot)) else bs β id := fun _ => rfl
  have βold : ∀ (id : Nat) o, look id = some o → β' id = β id := fun id o h => by rw [βn, h, if_neg (by simp)]
  have βolb : ∀ (id : Nat) o, look id = some o → bs β' id = bs β id := fun id o h => by rw [βb, h, if_neg (by simp)]
  have hidIn : ∀ id ∈ ids, id ∈ (number ids slot out2).map (·.1) := by
    intro id hid
    obtain ⟨j, hj⟩ := List.getElem?_of_mem hid
    have hjl : j < ids.length := by
      rcases Nat.lt_or_ge j ids.length with h | h
      · exact h
      · rw [List.getElem?_eq_none h] at hj; cases hj
    obtain ⟨x, p1, p2, _⟩ := keyLt j hjl
    rw [hj] at p1; cases p1
    rw [← p2]
    exact inU j (by omega)
  have hsho : ∀ (j : Nat) (o2 : O), out2[j]? = some o2 → ∃ o : O, out[j]? = some o ∧ renO (back ids slot out.length) o = some o2 ∧ shO o2 = shO o := by
    intro j o2 h
    obtain ⟨o, h1, h2⟩ := (mapO_all2 hr2).get_right h
    exact ⟨o, h1, h2, renO_sh h2⟩
  have hbackE : back ids slot out2.length = back ids slot out.length := by rw [hol]
  have hshc : ∀ o : O, (conv o).bind shO = shO o := by intro o; cases o <;> rfl
  have hshl : ∀ (j : Nat) (o : O), out[j]? = some o → shL (lk out) j = shO o := by
    intro j o h
    unfold shL lk
    rw [h]
    cases o <;> rfl
  have shKey : ∀ (j : Nat) (o2 : O), out2[j]? = some o2 → shL look' ((back ids slot out2.length j).getD 0) = shL (lk out) j := by
    intro j o2 h
    obtain ⟨o, h1, h2, h3⟩ := hsho j o2 h
    rw [hshl j o h1]
    show (look' _).bind shO = _
    rw [lookKey j o2 h, hshc, h3]
  -- an object with number j in the callee, which lives, lies where its number in the caller says
  have βkey : ∀ (j : Nat) (o2 : O), out2[j]? = some o2 → alive o2 = true → β' ((back ids slot out2.length j).getD 0 : Nat) = βd j ∧ bs β' ((back ids slot out2.length j).getD 0) = bs βd j := by
    intro j o2 h ha
    have hj : j < out2.length := by
      rcases Nat.lt_or_ge j out2.length with h' | h'
      · exact h'
      · rw [List.getElem?_eq_none h'] at h; cases h
    rcases Nat.lt_or_ge j ids.length with hlt | hge
    · obtain ⟨x, p1, p2, _⟩ := keyLt j hlt
      obtain ⟨o, o', q1, q2, q3⟩ := prep_get' hm hr p1
      rw [p2, βold x o q1, βolb x o q1]
      have hsc : ∃ s, shL (lk objs') j = some s := by
        have hoh := look_not_hole q3 (fun e => hH x (by rw [q1, e]))
        have : shL (lk objs') j = shO o' := by simp [shL, lk_of q2 hoh]
        rw [this]
        cases o' <;> first | exact ⟨_, rfl⟩ | exact absurd rfl hoh
      obtain ⟨s, hs⟩ := hsc
      have hbc : βc β ids j = β x := by simp [βc_nat, List.getD, p1]
      have hbb : bs (βc β ids) j = bs β x := by simp [βc_bs, List.getD, p1]
      rcases hst.ids j s (by omega) hs with ⟨a, _, _, a'⟩ | ⟨_, g⟩ | ⟨_, g⟩
      · exact ⟨by rw [a, hbc], by rw [a', hbb]⟩
      · rw [← shKey j o2 h] at g
        obtain ⟨s', h1, h2⟩ := alive_sh.1 ha
        have : shL look' ((back ids slot out2.length j).getD 0) = shO o2 := by show (look' _).bind shO = _; rw [lookKey j o2 h, hshc]
        rw [this, h1] at g; cases g; exact absurd rfl h2
      · rw [← shKey j o2 h] at g
        obtain ⟨s', h1, h2⟩ := alive_sh.1 ha
        have : shL look' ((back ids slot out2.length j).getD 0) = shO o2 := by show (look' _).bind shO = _; rw [lookKey j o2 h, hshc]
        rw [this, h1] at g; cases g; exact absurd rfl h2
    · rw [(keyGe j hge hj).1]
      rw [βn, βb, hext j hge hj, if_pos rfl, if_pos rfl]
      have e : ids.length + (slot + (j - ids.length) - slot) = j := by omega
      rw [e]
      exact ⟨rfl, rfl⟩
  have hRen : Ren (back ids slot out.length) βd (shL (lk out)) β' (shL look') := by
    intro j id h
    rw [← hbackE] at h
    have hj : j < out2.length := by
      unfold back at h
      split at h
      · omega
      · split at h
        · assumption
        · cases h
    have hk : (back ids slot out2.length j).getD 0 = id := by rw [h]; rfl
    have ho2 : out2[j]? = some out2[j] := by simp [hj]
    have hal : (∃ s, shL (lk out) j = some s ∧ s ≠ .gone) → alive out2[j] = true := by
      rintro ⟨s, h1, h2⟩
      obtain ⟨o, p1, p2, p3⟩ := hsho j _ ho2
      rw [hshl j o p1] at h1
      exact alive_sh.2 ⟨s, by rw [p3, h1], h2⟩
    refine ⟨by rw [← hk]; exact shKey j _ ho2, fun h => ?_, fun h => ?_⟩
    · rw [← hk]; exact (βkey j _ ho2 (hal h)).1
    · rw [← hk]; exact (βkey j _ ho2 (hal h)).2
  -- which objects live
  have cases' : ∀ (id : Nat) (o : O), look' id = some o → alive o = true → (∃ j : Nat, out2[j]? = some o ∧ (back ids slot out2.length j).getD 0 = id ∧ β' id = βd j ∧ bs β' id = bs βd j) ∨ (id ∉ ids ∧ id ∉ bor ∧ look id = some o ∧ β' id = β id ∧ bs β' id = bs β id) := by
    intro id o h ha
    by_cases hb : id ∈ bor
    · rw [lookBor id hb] at h; cases h; cases ha
    · by_cases hk : id ∈ (number ids slot out2).map (·.1)
      · obtain ⟨j, o2, h1, h2⟩ := keyOf id hk
        have := lookKey j o2 h1
        rw [h2, h] at this
        have : o2 = o := conv_some this.symm
        subst this
        exact .inl ⟨j, h1, h2, by rw [← h2]; exact βkey j _ h1 ha⟩
      · rw [lookElse id hb hk] at h
        exact .inr ⟨fun hid => hk (hidIn id hid), hb, h, βold id o h, βolb id o h⟩
  have liveD : ∀ (j : Nat) (o2 : O), out2[j]? = some o2 → alive o2 = true → ∃ o, lk out j = some o ∧ alive o = true ∧ renO (back ids slot out.length) o = some o2 := by
    intro j o2 h ha
    obtain ⟨o, h1, h2, h3⟩ := hsho j o2 h
    have hao : alive o = true := by rw [alive_sh, ← h3, ← alive_sh]; exact ha
    exact ⟨o, lk_of h1 (by rintro rfl; cases hao), hao, h2⟩
  have hlive' : ∀ b, Live β' look' b → Live βd (lk out) b ∨ (Fc F β look ids bor b ∧ Live β look b) := by
    rintro b ⟨id, o, h1, h2, rfl⟩
    rcases cases' id o h1 h2 with ⟨j, p1, p2, p3⟩ | ⟨p1, p2, p3, p4⟩
    · obtain ⟨o', q1, q2, _⟩ := liveD j o p1 h2
      exact .inl ⟨j, o', q1, q2, p3.1.symm⟩
    · rw [p4.1]
      exact .inr ⟨.inr ⟨id, o, p3, h2, p1, p2, rfl⟩, ⟨id, o, p3, h2, rfl⟩⟩
  have hN : ∀ b, Nn w' (Fc F β look ids bor) βd (lk out) b → Nn w' F β' look' b := by
    rintro b ⟨h1, h2, h3⟩
    refine ⟨h1, fun h => h2 (.inl h), fun h => ?_⟩
    rcases hlive' b h with h | h
    · exact h3 h
    · exact h2 h.1
  have notLiveC : ∀ b, ¬ Live β look b → ¬ Live (βc β ids) (lk objs') b := by
    intro b hb h
    obtain ⟨id, o, _, h1, h2, h3⟩ := hlivec b h
    exact hb ⟨id, o, h1, h2, h3⟩
  have keepBlock : ∀ id o, look id = some o → alive o = true → id ∉ ids → w'.heap[β id]? = w.heap[β id]? := by
    intro id o h1 h2 h3
    refine hst.block _ (hS.live id o h1 h2).1 fun h => ?_
    obtain ⟨id', o', q0, q1, q2, q3⟩ := hlivec _ h
    have := hS.inj id' id o' o q1 h1 q2 h2 q3
    subst this
    exact h3 q0
  have st : St (fun _ => True) w β look w' β' look' := by
    refine ⟨hst.os, hst.tape, hst.output, hst.size, fun b hb hl => hst.block b hb (notLiveC b hl), fun b hb => ?_, fun id s _ hs => ?_⟩
    · rcases hlive' b hb with h | h
      · rcases hst.born b h with h | h
        · obtain ⟨id, o, _, h1, h2, h3⟩ := hlivec b h
          exact .inl ⟨id, o, h1, h2, h3⟩
        · exact .inr h
      · exact .inl h.2
    · obtain ⟨o, ho, hso⟩ := shL_alive hs
      by_cases hid : id ∈ ids
      · obtain ⟨j, hj⟩ := List.getElem?_of_mem hid
        have hjl : j < ids.length := by
          rcases Nat.lt_or_ge j ids.length with h | h
          · exact h
          · rw [List.getElem?_eq_none h] at hj; cases hj
        obtain ⟨x, p1, p2, _⟩ := keyLt j hjl
        rw [hj] at p1; cases p1
        obtain ⟨o1, o', q1, q2, q3⟩ := prep_get' hm hr hj
        rw [ho] at q1; cases q1
        have hoh := look_not_hole q3 (fun e => hH id (by rw [ho, e]))
        have hsc : shL (lk objs') j = some s := by
          have : shL (lk objs') j = shO o' := by simp [shL, lk_of q2 hoh]
          rw [this, renO_sh q3, hso]
        have hbc : βc β ids j = β id := by simp [βc_nat, List.getD, hj]
        have hbb : bs (βc β ids) j = bs β id := by simp [βc_bs, List.getD, hj]
        have ho2 : out2[j]? = some (out2[j]'(by omega)) := by simp
        have hk := shKey j _ ho2
        rw [p2] at hk
        rcases hst.ids j s (by omega) hsc with ⟨a, b, c, d⟩ | ⟨a, g⟩ | ⟨a, g⟩
        · exact .inl ⟨βold id o ho, by rw [hk, b], by rw [← hbc]; exact c, βolb id o ho⟩
        · exact .inr (.inl ⟨a, by rw [hk, g]⟩)
        · exact .inr (.inr ⟨a, by rw [hk, g]⟩)
      · by_cases hb : id ∈ bor
        · obtain ⟨k, els, hl⟩ := hbor id hb
          rw [ho] at hl
          cases hl
          have : s = .arr k els.length := by simpa [shO] using hso.symm
          exact .inr (.inl ⟨⟨_, _, this⟩, by simp [shL, lookBor id hb, shO]⟩)
        · have hnk : id ∉ (number ids slot out2).map (·.1) := by
            intro hk
            obtain ⟨j, o2, h1, h2⟩ := keyOf id hk
            have hj : j < out2.length := by
              rcases Nat.lt_or_ge j out2.length with h | h
              · exact h
              · rw [List.getElem?_eq_none h] at h1; cases h1
            rcases Nat.lt_or_ge j ids.length with h | h
            · obtain ⟨x, p1, p2, _⟩ := keyLt j h
              rw [p2] at h2; subst h2
              exact hid (List.mem_of_getElem? p1)
            · rw [(keyGe j h hj).1] at h2
              have := hext j h hj
              rw [h2, ho] at this; cases this
          have hsl : shL look' id = some s := by simp only [shL, lookElse id hb hnk]; exact hs
          by_cases hg : s = .gone
          · subst hg; exact .inr (.inr ⟨rfl, hsl⟩)
          · exact .inl ⟨βold id o ho, hsl, shape_of_block (keepBlock id o ho (shO_alive hso hg) hid), βolb id o ho⟩
  refine ⟨β', ⟨fun b hb => Nat.lt_of_lt_of_le (hS.flt b hb) hst.size, fun id o h ha => ?_, fun id id' o o' h h' ha ha' hbb => ?_⟩, st, hRen, hN⟩
  · rcases cases' id o h ha with ⟨j, p1, p2, p3⟩ | ⟨p1, p2, p3, p4⟩
    · obtain ⟨o1, q1, q2, q3⟩ := liveD j o p1 ha
      obtain ⟨a, b, c⟩ := hSd.live j o1 q1 q2
      rw [p3.1, p3.2]
      refine ⟨a, fun hf => b (.inl hf), ?_⟩
      exact renO_RO hRen hN c q3
    · obtain ⟨a, b, c⟩ := hS.live id o p3 ha
      rw [p4.1, p4.2]
      exact ⟨Nat.lt_of_lt_of_le a hst.size, b, RO.mono st.keep st.ids (keepBlock id o p3 ha p1) c⟩
  · rcases cases' id o h ha with ⟨j, p1, p2, p3⟩ | ⟨p1, p2, p3, p4⟩ <;> rcases cases' id' o' h' ha' with ⟨j', q1, q2, q3⟩ | ⟨q1, q2, q3, q4⟩
    · obtain ⟨o1, r1, r2, _⟩ := liveD j o p1 ha
      obtain ⟨o2, s1, s2, _⟩ := liveD j' o' q1 ha'
      rw [p3.1, q3.1] at hbb
      have := hSd.inj j j' o1 o2 r1 s1 r2 s2 hbb
      subst this
      rw [← p2, q2]
    · obtain ⟨o1, r1, r2, _⟩ := liveD j o p1 ha
      exfalso
      refine (hSd.live j o1 r1 r2).2.1 (.inr ⟨id', o', q3, ha', q1, q2, ?_⟩)
      rw [← p3.1, ← q4.1, hbb]
    · obtain ⟨o1, r1, r2, _⟩ := liveD j' o' q1 ha'
      exfalso
      refine (hSd.live j' o1 r1 r2).2.1 (.inr ⟨id, o, p3, ha, p1, p2, ?_⟩)
      rw [← q3.1, ← p4.1, hbb]
    · rw [p4.1, q4.1] at hbb
      exact hS.inj id id' o o' p3 q3 ha ha' hbb
end
end Go.Proofs.YteenjodhmppgjaaGreatDoor.Am
end
section
/- The abstract machine: every operation is sound. -/
namespace Go.Proofs.YteenjodhmppgjaaGreatDoor.Am
open Go
section
variable {P : Program} {w : World} {F : Nat → Prop} {β : Int → Nat} {look : Look}
/-- What goes on behind an operation. -/
def Goes (P : Program) (w : World) (F : Nat → Prop) (β : Int → Nat) (look : Look) (a : Act) (o : Oper) (e : Eff) (r : Result Next) : Prop :=
  ∀ (next : Act → World → Prop) (Q : Exit → Act → World → Prop),
    (∀ w' β', Good w F β look e.upd w' β' → match e.res with
      | .val v => ∀ x, RVs w' F β' (updL look e.upd) x v → next (a.put o.dst x) w'
      | .pan x => Q (.panic [{ v := x, recovered := false }]) a w') → o.upon P a next Q r
theorem Runs.goes {a : Act} {o : Oper} {e : Eff} {r : Result Next} (h : Runs w F β look e r) : Goes P w F β look a o e r := by
  intro next Q hq
  obtain ⟨w', β', hg, h⟩ := h
  have := hq w' β' hg
  obtain ⟨res, upd, rd⟩ := e
  cases res with
  | val v =>
    rcases h with ⟨x, rfl, hx⟩ | ⟨rfl, hv⟩
    · exact this x hx
    · dsimp only at hv this
      subst hv
      exact this undef trivial
  | pan x =>
    dsimp only at h
    subst h
    exact this
theorem results1_rep {N : Nat → Prop} {sh : Nat → Option Sh} {a : List Value} {vs : List V} {l : List (Bool × List C)} (h : All2 (RV w N β sh) a vs) (hm : mapO comp vs = some l) : All2 (RPt w N β sh) a l :=
  h.comp (fun v x p h1 h2 => by
    cases x with
    | c y => cases h2; exact ⟨y, rfl, h1⟩
    | agg cs => cases h2; exact h1
    | tup _ => cases h2) (mapO_all2 hm)
theorem res_rep {v : Value} {vs : List V} {x : V} (h : RRes w F β look v vs) (hr : results1 vs = some x) : RVs w F β look v x := by
  unfold results1 at hr
  rcases h with ⟨y, rfl, h⟩ | ⟨hl, a, rfl, h⟩
  · simp only [Option.some.injEq] at hr; subst hr; exact h
  · split at hr
    · simp at hl
    · cases hm : mapO comp vs with
      | none => simp [hm] at hr
      | some l =>
        simp only [hm, Option.some.injEq] at hr
        subst hr
        exact ⟨a, rfl, results1_rep h hm⟩
theorem rres_ren {F' : Nat → Prop} {β' : Int → Nat} {look' : Look} {r : Nat → Option Nat} (hr : Ren r β (shL look) β' (shL look')) (hN : ∀ b, Nn w F β look b → Nn w F' β' look' b) {v : Value} {vs vs' : List V} (h : RRes w F β look v vs) (hm : mapO (renV r) vs = some vs') : RRes w F' β' look' v vs' := by
  have hl := mapO_all2 hm
  rcases h with ⟨y, rfl, h⟩ | ⟨hlen, a, rfl, h⟩
  · cases hl with
    | cons h1 h2 => cases h2; exact .inl ⟨_, rfl, renV_rep hr hN h h1⟩
  · exact .inr ⟨by rw [← hl.length]; exact hlen, a, rfl, All2.comp (R := RVs w F β look) (S := fun a b => renV r a = some b) (T := RVs w F' β' look') (fun _ _ _ p q => renV_rep hr hN p q) h hl⟩
theorem scalar_ren {r : Nat → Option Nat} {x x' : V} (hs : scalarV x = true) (h : renV r x = some x') : x' = x := by
  have hc : ∀ c c' : C, scalarC c = true → renC r c = some c' → c' = c := by
    intro c c' h1 h2
    cases c <;> first | (cases h1; done) | (cases h2; rfl)
  cases x with
  | c y =>
    simp only [renV] at h
    cases e : renC r y with
    | none => simp [e] at h
    | some z => simp only [e, Option.some.injEq] at h; subst h; rw [hc _ _ hs e]
  | agg cs =>
    simp only [renV] at h
    cases e : mapO (renC r) cs with
    | none => simp [e] at h
    | some z =>
      simp only [e, Option.some.injEq] at h
      subst h
      congr 1
      have : ∀ {cs z : List C}, cs.all scalarC = true → All2 (fun a b => renC r a = some b) cs z → z = cs := by
        intro cs z h1 h2
        induction h2 with
        | nil => rfl
        | cons p _ ih =>
          simp only [List.all_cons, Bool.and_eq_true] at h1
          rw [hc _ _ h1.1 p, ih h1.2]
      exact this hs (mapO_all2 e)
  | tup vs => cases hs
theorem scalar_rep {N N' : Nat → Prop} {sh sh' : Nat → Option Sh} {w' : World} {β' : Int → Nat} {v : Value} {x : V} (hs : scalarV x = true) (h : RV w N β sh v x) : RV w' N' β' sh' v x := by
  have hc : ∀ {v : Value} {c : C}, scalarC c = true → RC w N β sh v c → RC w' N' β' sh' v c := by
    intro v c h1 h2
    cases c with
    | d y => cases y with
      | v z => cases h2 with | v h3 => exact .v h3
      | s k els => cases h1
      | i t xs => cases h1
    | _ => cases h1
  cases x with
  | c y => exact hc hs h
  | agg cs =>
    obtain ⟨a, rfl, h⟩ := h
    refine ⟨a, rfl, ?_⟩
    have : ∀ {l : List Value} {cs : List C}, cs.all scalarC = true → All2 (RK w N β sh) l cs → All2 (RK w' N' β' sh') l cs := by
      intro l cs h1 h2
      induction h2 with
      | nil => exact .nil
      | cons p _ ih =>
        simp only [List.all_cons, Bool.and_eq_true] at h1
        exact .cons ⟨p.1, hc h1.1 p.2⟩ (ih h1.2)
    exact this hs h
  | tup vs => cases hs
theorem callA_sound {rec : Rec} {f : FuncId} (hrec : ∀ args objs out, rec (.call f args objs) = some out → CallOK P f args objs out) (hS : Sim w F β look) (hH : NoHole look) {slot : Nat} {args : List V} {vals : List Value}
    (hargs : All2 (RVs w F β look) vals args) {e : Eff} (h : callA rec look slot f args = some e) (hfresh : ∀ id, slot ≤ id → id ∈ e.upd.map (·.1) → look id = none) {a : Act} {o : Oper} (next : Act → World → Prop) (Q : Exit → Act → World → Prop)
    (hq : ∀ w' β', Good w F β look e.upd w' β' → match e.res with
      | .val v => ∀ x, RVs w' F β' (updL look e.upd) x v → next (a.put o.dst x) w'
      | .pan x => Q (.panic [{ v := x, recovered := false }]) a w') :
    Calls P f vals.toArray w fun
      | .returned v, w'' => next (a.put o.dst v) w''
      | .panicked chain, w'' => Q (.panic chain) a w''
      | .outgrown, _ => LetsOut Q := by
  unfold callA at h
  cases hp : callPrep f look args with
  | none => simp [hp, callFin] at h
  | some p =>
    obtain ⟨ids, bor, args2, objs'⟩ := p
    simp only [hp, callFin, callOut] at h
    cases hr : rec (.call f args2 objs') with
    | none => simp [hr] at h
    | some out =>
      simp only [hr] at h
      -- what was handed on
      unfold callPrep at hp
      cases ha : argVsK (ownF f) look args with
      | none => simp [ha] at hp
      | some q =>
        obtain ⟨args1, bor1⟩ := q
        simp only [ha] at hp
        cases hm1 : mapO (renV (pos (reach look 200 [] (args1.flatMap refsV)))) args1 with
        | none => simp [hm1] at hp
        | some args3 =>
          simp only [hm1] at hp
          cases hm2 : mapO look (reach look 200 [] (args1.flatMap refsV)) with
          | none => simp [hm2] at hp
          | some objs =>
            simp only [hm2] at hp
            cases hm3 : mapO (renO (pos (reach look 200 [] (args1.flatMap refsV)))) objs with
            | none => simp [hm3] at hp
            | some objs3 =>
              simp only [hm3] at hp
              split at hp
              case isFalse => cases hp
              rename_i hcond
              simp only [Option.some.injEq, Prod.mk.injEq] at hp
              obtain ⟨rfl, rfl, rfl, rfl⟩ := hp
              generalize reach look 200 [] (args1.flatMap refsV) = ids at *
              simp only [Bool.and_eq_true, decide_eq_true_eq] at hcond
              obtain ⟨⟨hnd, hdis⟩, _⟩ := hcond
              have hdis' : ∀ id ∈ bor1, id ∉ ids := by
                intro id hid
                have := List.all_eq_true.1 hdis id hid
                simpa using this
              have hbor := argVsK_arr ha
              obtain ⟨hSc, hwide, hren, _⟩ := call_prep hS hH hm2 hm3 hnd hbor hdis'
              have h1 := argVsK_rep hS hargs ha hwide
              have h2 : All2 (RVs w (Fc F β look ids bor1) (βc β ids) (lk objs3)) vals args3 :=
                All2.comp (R := fun v x => RV w (Nn w (Fc F β look ids bor1) (βc β ids) (lk objs3)) β (shL look) v x) (S := fun a b => renV (pos ids) a = some b) (T := RVs w (Fc F β look ids bor1) (βc β ids) (lk objs3)) (fun v x y p q => renV_rep hren (fun _ h => h) p q) h1 (mapO_all2 hm1)
              refine (hrec args3 objs3 out hr w _ _ vals hSc h2).mono fun en w' hout => ?_
              obtain ⟨βd, hout⟩ := hout
              cases out with
              | ret vs outs =>
                obtain ⟨v, rfl, hres, hSd, hst⟩ := hout
                simp only [answer] at h
                cases e1 : mapO (renV (back ids slot outs.length)) vs with
                | none => simp [e1] at h
                | some vs' =>
                  cases e2 : mapO (renO (back ids slot outs.length)) outs with
                  | none => simp [e1, e2] at h
                  | some outs' =>
                    cases e3 : results1 vs' with
                    | none => simp [e1, e2, e3] at h
                    | some x =>
                      simp only [e1, e2, e3] at h
                      split at h
                      · cases h
                      · rename_i hlen
                        simp only [Option.some.injEq] at h
                        subst h
                        by_cases hsc : (vs'.all scalarV && outs'.isEmpty) = true
                        · have hb : (if (vs'.all scalarV && outs'.isEmpty) = true then ([] : List (Nat × O)) else kills bor1) = [] := if_pos hsc
                          simp only [Bool.and_eq_true] at hsc
                          obtain ⟨hs1, hs2⟩ := hsc
                          have ho' : outs' = [] := by simpa using hs2
                          have ho : outs = [] := List.eq_nil_of_length_eq_zero (by rw [(mapO_all2 e2).length, ho']; rfl)
                          have hi : ids = [] := List.eq_nil_of_length_eq_zero (by rw [ho] at hlen; simpa using hlen)
                          subst hi
                          subst ho'
                          have hobj : objs3 = [] := by simp only [mapO, Option.some.injEq] at hm2; subst hm2; simp only [mapO, Option.some.injEq] at hm3; exact hm3.symm
                          subst hobj
                          obtain ⟨g1, g2⟩ := call_apart hS hst.os hst.tape hst.output hst.size (fun b hb => hst.block b hb (by rintro ⟨j, o, h, _⟩; simp [lk] at h))
                          have hupd : number [] slot ([] : List O) ++ (if (vs'.all scalarV && ([] : List O).isEmpty) = true then ([] : List (Nat × O)) else kills bor1) = [] := by rw [hb]; rfl
                          have hg : Good w F β look (number [] slot ([] : List O) ++ (if (vs'.all scalarV && ([] : List O).isEmpty) = true then ([] : List (Nat × O)) else kills bor1)) w' β := by rw [hupd]; exact ⟨g1, g2⟩
                          refine hq w' β hg v ?_
                          rw [hupd]
                          have hvs : RRes w' F β look v vs' := by
                            have hl := mapO_all2 e1
                            have key : ∀ {y y' : V} {u : Value}, scalarV y' = true → renV (back [] slot outs.length) y = some y' → RVs w' (Fc F β look [] bor1) βd (lk outs) u y → RVs w' F β look u y' := by
                              intro y y' u h1 h2 h3
                              have : scalarV y = true := by
                                cases y with
                                | c z =>
                                  simp only [renV] at h2
                                  cases z with
                                  | d q => simp only [renC, Option.some.injEq] at h2; subst h2; exact h1
                                  | ptr id off => simp only [renC] at h2; cases e : back [] slot outs.length id <;> simp [e] at h2; subst h2; cases h1
                                  | elt k els i off => simp only [renC, Option.some.injEq] at h2; subst h2; cases h1
                                  | own id => simp only [renC] at h2; cases e : back [] slot outs.length id <;> simp [e] at h2; subst h2; cases h1
                                  | ap id i off => simp only [renC] at h2; cases e : back [] slot outs.length id <;> simp [e] at h2; subst h2; cases h1
                                  | fn f a b =>
                                    simp only [renC] at h2
                                    cases e : mapO (back [] slot outs.length) a with
                                    | none => simp [e] at h2
                                    | some a' =>
                                      cases e' : mapO (back [] slot outs.length) b with
                                      | none => simp [e, e'] at h2
                                      | some b' => simp [e, e'] at h2; subst h2; cases h1
                                  | rf m id => simp only [renC] at h2; cases e : back [] slot outs.length id <;> simp [e] at h2; subst h2; cases h1
                                  | any => simp only [renC, Option.some.injEq] at h2; subst h2; cases h1
                                | agg cs =>
                                  simp only [renV] at h2
                                  cases e : mapO (renC (back [] slot outs.length)) cs with
                                  | none => simp [e] at h2
                                  | some cs' =>
                                    simp only [e, Option.some.injEq] at h2
                                    subst h2
                                    have hcs : ∀ {cs cs' : List C}, cs'.all scalarC = true → All2 (fun a b => renC (back [] slot outs.length) a = some b) cs cs' → cs.all scalarC = true := by
                                      intro cs cs' h1 h2
                                      induction h2 with
                                      | nil => rfl
                                      | @cons a b _ _ p _ ih =>
                                        simp only [List.all_cons, Bool.and_eq_true] at h1 ⊢
                                        refine ⟨?_, ih h1.2⟩
                                        have hb := h1.1
                                        cases a with
                                        | d q => simp only [renC, Option.some.injEq] at p; subst p; exact hb
                                        | ptr id off => simp only [renC] at p; cases e : back [] slot outs.length id <;> simp [e] at p; subst p; cases hb
                                        | elt k els i off => simp only [renC, Option.some.injEq] at p; subst p; cases hb
                                        | own id => simp only [renC] at p; cases e : back [] slot outs.length id <;> simp [e] at p; subst p; cases hb
                                        | ap id i off => simp only [renC] at p; cases e : back [] slot outs.length id <;> simp [e] at p; subst p; cases hb
                                        | fn f a b =>
                                          simp only [renC] at p
                                          cases e : mapO (back [] slot outs.length) a with
                                          | none => simp [e] at p
                                          | some a' =>
                                            cases e' : mapO (back [] slot outs.length) b with
                                            | none => simp [e, e'] at p
                                            | some b' => simp [e, e'] at p; subst p; cases hb
                                        | rf m id => simp only [renC] at p; cases e : back [] slot outs.length id <;> simp [e] at p; subst p; cases hb
                                        | any => simp only [renC, Option.some.injEq] at p; subst p; cases hb
                                    exact hcs h1 (mapO_all2 e)
                                | tup vs =>
                                  simp only [renV] at h2
                                  cases e : mapO (renP (back [] slot outs.length)) vs with
                                  | none => simp [e] at h2
                                  | some z => simp [e] at h2; subst h2; cases h1
                              rw [scalar_ren this h2]
                              exact scalar_rep this h3
                            rcases hres with ⟨y, rfl, h3⟩ | ⟨hll, av, rfl, h3⟩
                            · cases hl with
                              | @cons _ y' _ _ p q =>
                                cases q
                                exact .inl ⟨y', rfl, key (by simpa using hs1) p h3⟩
                            · refine .inr ⟨by rw [← hl.length]; exact hll, av, rfl, ?_⟩
                              have : ∀ {us : List Value} {vs vs' : List V}, vs'.all scalarV = true → All2 (fun a b => renV (back [] slot outs.length) a = some b) vs vs' → All2 (RVs w' (Fc F β look [] bor1) βd (lk outs)) us vs → All2 (RVs w' F β look) us vs' := by
                                intro us vs vs' h1 h2
                                induction h2 generalizing us with
                                | nil => intro h; cases h; exact .nil
                                | cons p _ ih =>
                                  intro h
                                  simp only [List.all_cons, Bool.and_eq_true] at h1
                                  cases h with | cons u v => exact .cons (key h1.1 p u) (ih h1.2 v)
                              exact this hs1 hl h3
                          exact res_rep hvs e3
                        · have hb : (if (vs'.all scalarV && outs'.isEmpty) = true then ([] : List (Nat × O)) else kills bor1) = kills bor1 := if_neg hsc
                          rw [hb] at hq hfresh
                          obtain ⟨β', b1, b2, b3, b4⟩ := call_back hS hH hm2 hm3 hnd hbor hdis' hSd hst e2 (by omega) (fun id h1 h2 => hfresh id h1 (by simp only [List.map_append, List.mem_append]; exact .inl h2))
                          refine hq w' β' ⟨b1, b2⟩ v ?_
                          exact res_rep (rres_ren b3 b4 hres e1) e3
              | pan x outs =>
                obtain ⟨rfl, hSd, hst⟩ := hout
                simp only [answer] at h
                cases e2 : mapO (renO (back ids slot outs.length)) outs with
                | none => simp [e2] at h
                | some outs' =>
                  simp only [e2] at h
                  split at h
                  · cases h
                  · rename_i hlen
                    simp only [Option.some.injEq] at h
                    subst h
                    obtain ⟨β', b1, b2, _, _⟩ := call_back hS hH hm2 hm3 hnd hbor hdis' hSd hst e2 (by omega) (fun id h1 h2 => hfresh id h1 (by simp only [List.map_append, List.mem_append]; exact .inl h2))
                    exact hq w' β' ⟨b1, b2⟩
end
end Go.Proofs.YteenjodhmppgjaaGreatDoor.Am
end
section
/- The abstract machine: slots; what is kept at the end of a function and at the head of a loop. -/
namespace Go.Proofs.YteenjodhmppgjaaGreatDoor.Am
open Go
theorem gt_pt (v : V) (t : Nat) : ∀ (env : Env) (u : Nat), gt (pt env t v) u = if u = t then v else gt env u
  | [], u => by
    simp only [pt, gt]
    by_cases h : u = t
    · simp [h]
    · simp [h, Ne.symm h]
  | (a, x) :: r, u => by
    simp only [pt]
    split
    · rename_i h
      subst h
      simp only [gt]
      by_cases h2 : u = a
      · simp [h2]
      · simp [h2, Ne.symm h2]
    · rename_i h
      split
      · simp only [gt]
        by_cases h2 : u = t
        · simp [h2]
        · simp [h2, Ne.symm h2]
      · simp only [gt, gt_pt v t r u]
        by_cases h2 : u = t
        · subst h2; simp [h]
        · simp [h2]
section
variable {P : Program} {w : World} {F : Nat → Prop} {β : Int → Nat} {look : Look}
def EnvR (w : World) (F : Nat → Prop) (β : Int → Nat) (look : Look) (tmps : Array Value) (env : Env) : Prop := ∀ t, RVs w F β look (tmps.getD t undef) (gt env t)
theorem rv_und : RVs w F β look undef (.tup []) := ⟨#[], rfl, .nil⟩
theorem ofValue_rep (x : Value) : RVs w F β look x (ofValue x) := by
  unfold ofValue
  split
  · rename_i a
    split
    · rename_i h
      refine ⟨a, rfl, ?_⟩
      have key : ∀ l : List Value, l.all cellB = true → All2 (RK w (Nn w F β look) β (shL look)) l (l.map fun y => C.d (D.v y)) := by
        intro l
        induction l with
        | nil => intro _; exact .nil
        | cons y l ih =>
          intro hy
          simp only [List.all_cons, Bool.and_eq_true] at hy
          exact .cons ⟨hy.1, .v hy.1⟩ (ih hy.2)
      exact key _ h
    · trivial
  · trivial
  · rename_i h1 h2
    refine RepD.v ?_
    cases x with
    | agg a => exact absurd rfl (h1 a)
    | tuple a => exact absurd rfl (h2 a)
    | _ => rfl
theorem ev_rep {a : Act} {env : Env} (h : EnvR w F β look a.tmps env) (y : Operand) : RVs w F β look (a.eval y) (ev env y) := by
  cases y with
  | tmp t => exact h t
  | const x => exact ofValue_rep x
  | global g => trivial
  | func f => exact ⟨rfl, by simp⟩
theorem EnvR.mono {w' : World} {β' : Int → Nat} {look' : Look} (hst : St (fun _ => True) w β look w' β' look') {tmps : Array Value} {env : Env} (h : EnvR w F β look tmps env) : EnvR w' F β' look' tmps env :=
  fun t => RV.mono hst.keep hst.ids (h t)
theorem EnvR.put {a : Act} {env : Env} (h : EnvR w F β look a.tmps env) {dst : Option Nat} {x : Value} {v : V} (hx : RVs w F β look x v) (hd : dstOk a.tmps.size dst = true) : EnvR w F β look (a.put dst x).tmps (putO env dst v) := by
  intro t
  cases dst with
  | none => exact h t
  | some d =>
    simp only [dstOk, decide_eq_true_eq] at hd
    simp only [Act.put, putO, gt_pt]
    by_cases e : t = d
    · subst e
      simp only [if_true]
      rw [show (a.tmps.setIfInBounds t x).getD t undef = x by simp [Array.getD, hd]]
      exact hx
    · simp only [e, if_false]
      have : (a.tmps.setIfInBounds d x).getD t undef = a.tmps.getD t undef := by
        simp only [Array.getD_eq_getD_getElem?, Array.getElem?_setIfInBounds]
        rw [if_neg (fun h => e h.symm)]
      rw [this]
      exact h t
theorem put_size (a : Act) (dst : Option Nat) (x : Value) : (a.put dst x).tmps.size = a.tmps.size := by cases dst <;> simp [Act.put]
theorem put_defers (a : Act) (dst : Option Nat) (x : Value) : (a.put dst x).defers = a.defers := by cases dst <;> rfl

/-! ### forgetting -/
theorem cleanC_rep {v : Value} {c : C} {N : Nat → Prop} {sh : Nat → Option Sh} (h : RC w N β sh v c) : RC w N β sh v (cleanC look c) := by
  unfold cleanC
  split
  · split
    · trivial
    · exact h
  · split
    · trivial
    · exact h
  · exact h
theorem cleanK_rep {l : List Value} {cs : List C} {N : Nat → Prop} {sh : Nat → Option Sh} (h : All2 (RK w N β sh) l cs) : All2 (RK w N β sh) l (cs.map (cleanC look)) := by
  induction h with
  | nil => exact .nil
  | cons p _ ih => exact .cons ⟨p.1, cleanC_rep p.2⟩ ih
theorem cleanV_rep {v : Value} {x : V} {N : Nat → Prop} {sh : Nat → Option Sh} (h : RV w N β sh v x) : RV w N β sh v (cleanV look x) := by
  cases x with
  | c y => exact cleanC_rep h
  | agg cs => obtain ⟨a, rfl, h⟩ := h; exact ⟨a, rfl, cleanK_rep h⟩
  | tup vs =>
    obtain ⟨a, rfl, h⟩ := h
    refine ⟨a, rfl, ?_⟩
    generalize a.toList = l at h
    induction h with
    | nil => exact .nil
    | @cons u p _ _ h1 _ ih =>
      refine .cons ?_ ih
      obtain ⟨b, cs⟩ := p
      cases b with
      | true => obtain ⟨a', rfl, h3⟩ := h1; exact ⟨a', rfl, cleanK_rep h3⟩
      | false => obtain ⟨y, h4, h3⟩ := h1; dsimp only at h4; subst h4; exact ⟨_, rfl, cleanC_rep h3⟩
theorem cleanO_sh (o : O) : shO (cleanO look o) = shO o := by cases o <;> rfl
theorem cleanO_rep {vals : Array Value} {z : Nat} {o : O} {N : Nat → Prop} {sh : Nat → Option Sh} (h : ROc w N β sh vals z o) : ROc w N β sh vals z (cleanO look o) := by
  cases o with
  | box cs => exact cleanK_rep h
  | _ => exact h
theorem lk_map (loc : List O) (f : O → O) (hf : ∀ o, shO (f o) = shO o) (id : Nat) : lk (loc.map f) id = (lk loc id).map f := by
  unfold lk
  rw [List.getElem?_map]
  cases h : loc[id]? with
  | none => rfl
  | some o =>
    have := hf o
    simp only [Option.map_some]
    cases o with
    | hole => cases e : f .hole <;> simp_all [shO]
    | box cs => cases e : f (.box cs) <;> simp_all [shO]
    | arr k els => cases e : f (.arr k els) <;> simp_all [shO]
    | raw x => cases e : f (.raw x) <;> simp_all [shO]
    | gone => cases e : f .gone <;> simp_all [shO]
theorem sim_clean {loc : List O} {lk0 : Look} (hS : Sim w F β (lk loc)) : Sim w F β (lk (loc.map (cleanO lk0))) ∧ St (fun _ => True) w β (lk loc) w β (lk (loc.map (cleanO lk0))) ∧
    shL (lk (loc.map (cleanO lk0))) = shL (lk loc) ∧ ∀ b, Nn w F β (lk loc) b ↔ Nn w F β (lk (loc.map (cleanO lk0))) b := by
  have hl := lk_map loc (cleanO lk0) cleanO_sh
  have hsh : shL (lk (loc.map (cleanO lk0))) = shL (lk loc) := by
    funext id
    unfold shL
    rw [hl id]
    cases lk loc id with
    | none => rfl
    | some o => exact cleanO_sh o
  have hal : ∀ o, alive (cleanO lk0 o) = alive o := by intro o; cases o <;> rfl
  have hLive : ∀ b, Live β (lk (loc.map (cleanO lk0))) b ↔ Live β (lk loc) b := by
    intro b
    constructor
    · rintro ⟨id, o, h1, h2, h3⟩
      rw [hl id] at h1
      obtain ⟨o', p1, p2⟩ := Option.map_eq_some_iff.1 h1
      exact ⟨id, o', p1, by rw [← hal, p2]; exact h2, h3⟩
    · rintro ⟨id, o, h1, h2, h3⟩
      exact ⟨id, cleanO lk0 o, by rw [hl id, h1]; rfl, by rw [hal]; exact h2, h3⟩
  have hNn : ∀ b, Nn w F β (lk loc) b ↔ Nn w F β (lk (loc.map (cleanO lk0))) b := by
    intro b; unfold Nn; rw [hLive b]
  refine ⟨⟨hS.flt, fun id o h ha => ?_, fun id id' o o' h h' ha ha' hb => ?_⟩, ⟨rfl, rfl, rfl, Nat.le_refl _, fun _ _ _ => rfl, fun b hb => .inl ((hLive b).1 hb), fun id s _ hs => .inl ⟨rfl, by rw [hsh]; exact hs, rfl, rfl⟩⟩, hsh, hNn⟩
  · rw [hl id] at h
    obtain ⟨o', p1, rfl⟩ := Option.map_eq_some_iff.1 h
    rw [hal] at ha
    obtain ⟨a, b, c⟩ := hS.live id o' p1 ha
    refine ⟨a, b, ?_⟩
    rw [hsh]
    by_cases hce : celled o' = true
    · obtain ⟨vals, ty, hb, hc⟩ := (RO_iff hce).1 c
      rw [RO_iff (by rw [show celled (cleanO lk0 o') = celled o' by cases o' <;> rfl]; exact hce)]
      exact ⟨vals, ty, hb, cleanO_rep (ROc.mono (keep_wide fun b hb => (hNn b).1 hb) (Ids.refl _ _ _ _) hc)⟩
    · cases o' with
      | raw x => exact c
      | box cs => exact absurd rfl hce
      | arr k els => exact absurd rfl hce
      | gone => cases ha
      | hole => cases ha
  · rw [hl id] at h
    rw [hl id'] at h'
    obtain ⟨x, p1, rfl⟩ := Option.map_eq_some_iff.1 h
    obtain ⟨y, q1, rfl⟩ := Option.map_eq_some_iff.1 h'
    rw [hal] at ha ha'
    exact hS.inj id id' x y p1 q1 ha ha' hb
theorem reach_prefix (look : Look) : ∀ (n : Nat) (seen todo : List Nat), ∃ t, reach look n seen todo = seen ++ t
  | 0, seen, _ => ⟨[], by simp [reach]⟩
  | n + 1, seen, [] => ⟨[], by simp [reach]⟩
  | n + 1, seen, id :: todo => by
    simp only [reach]
    split
    · exact reach_prefix look n seen todo
    · obtain ⟨t, ht⟩ := reach_prefix look n (seen ++ [id]) (todo ++ refsO (look id))
      exact ⟨id :: t, by rw [ht]; simp⟩
theorem sim_keep {loc os : List O} (hS : Sim w F β (lk loc)) {ids : List Nat} (hnd : ids.Nodup) {m : Nat} (hm : m ≤ loc.length) {roots : List Nat} (hids : ids = kept m roots loc) (hk : keptO ids loc = some os) :
    Sim w F (βc β ids) (lk os) ∧ St (· < m) w β (lk loc) w (βc β ids) (lk os) ∧ Ren (pos ids) β (shL (lk loc)) (βc β ids) (shL (lk os)) ∧ ∀ b, Nn w F β (lk loc) b → Nn w F (βc β ids) (lk os) b := by
  unfold keptO at hk
  cases hm2 : mapO (lk loc) ids with
  | none => simp [hm2] at hk
  | some objs =>
    simp only [hm2] at hk
    have hget : ∀ j o', lk os j = some o' → ∃ id o, ids[j]? = some id ∧ lk loc id = some o ∧ renO (pos ids) o = some o' ∧ βc β ids j = β id ∧ bs (βc β ids) j = bs β id := by
      intro j o' h
      obtain ⟨id, o, h1, h2, h3⟩ := prep_get hm2 hk (lk_some h)
      exact ⟨id, o, h1, h2, h3, by simp [βc_nat, List.getD, h1], by simp [βc_bs, List.getD, h1]⟩
    have halive : ∀ {o o' : O}, renO (pos ids) o = some o' → (alive o' = true ↔ alive o = true) := by
      intro o o' h
      rw [alive_sh, alive_sh, renO_sh h]
    have hlive : ∀ b, Live (βc β ids) (lk os) b → Live β (lk loc) b := by
      rintro b ⟨j, o', h1, h2, h3⟩
      obtain ⟨id, o, p1, p2, p3, p4, _⟩ := hget j o' h1
      exact ⟨id, o, p2, (halive p3).1 h2, by rw [← p4, h3]⟩
    have hsh : ∀ j id, ids[j]? = some id → shL (lk os) j = shL (lk loc) id := by
      intro j id h1
      obtain ⟨o, o', h2, h3, h4⟩ := prep_get' hm2 hk h1
      have ho' := look_not_hole h4 (fun e => noHole_lk loc id (by rw [h2, e]))
      simp [shL, lk_of h3 ho', h2, renO_sh h4]
    have hren : Ren (pos ids) β (shL (lk loc)) (βc β ids) (shL (lk os)) := by
      intro id j h
      have h1 := pos_get h
      exact ⟨hsh j id h1, fun _ => by simp [βc_nat, List.getD, h1], fun _ => by simp [βc_bs, List.getD, h1]⟩
    have hall : ∀ b, Nn w F β (lk loc) b → Nn w F (βc β ids) (lk os) b := fun b ⟨h1, h2, h3⟩ => ⟨h1, h2, fun h => h3 (hlive b h)⟩
    refine ⟨⟨hS.flt, fun j o' h ha => ?_, fun j j' o1 o2 h1 h2 ha1 ha2 hb => ?_⟩, ⟨rfl, rfl, rfl, Nat.le_refl _, fun _ _ _ => rfl, fun b hb => .inl (hlive b hb), fun id s hid hs => ?_⟩, hren, hall⟩
    · obtain ⟨id, o, p1, p2, p3, p4, p5⟩ := hget j o' h
      obtain ⟨a, b, c⟩ := hS.live id o p2 ((halive p3).1 ha)
      rw [p4, p5]
      refine ⟨a, b, ?_⟩
      exact renO_RO hren hall c p3
    · obtain ⟨id1, q1, p1, p2, p3, p4, _⟩ := hget j o1 h1
      obtain ⟨id2, q2, r1, r2, r3, r4, _⟩ := hget j' o2 h2
      rw [p4, r4] at hb
      have := hS.inj id1 id2 q1 q2 p2 r2 ((halive p3).1 ha1) ((halive r3).1 ha2) hb
      subst this
      exact nodup_get hnd p1 r1
    · have hpre : ids[id]? = some id := by
        obtain ⟨t, ht⟩ := reach_prefix (lk loc) 200 (List.range m) (((List.range m).flatMap fun id => refsO (lk loc id)) ++ roots)
        rw [hids]
        unfold kept
        rw [ht, List.getElem?_append_left (by simpa using hid), List.getElem?_range hid]
      exact .inl ⟨by simp [βc_nat, List.getD, hpre], by rw [hsh id id hpre]; exact hs, rfl, by simp [βc_bs, List.getD, hpre]⟩
end
end Go.Proofs.YteenjodhmppgjaaGreatDoor.Am
end
section
/- The abstract machine: the end of a function; the head of a loop. -/
namespace Go.Proofs.YteenjodhmppgjaaGreatDoor.Am
open Go
section
variable {P : Program} {w : World} {F : Nat → Prop} {β : Int → Nat}
def readRes (tmps : Array Value) : ResultVar → Sem Value
  | .tmp t => pure (tmps.getD t undef)
  | .cell a t => do loadVar t (← asAddr (tmps.getD a undef))
def one1 : List Value → Value
  | [v] => v
  | l => .tuple l.toArray
theorem run_results (fn : Func) (tmps : Array Value) {l : List Value} (h : (fn.results.toList.mapM (readRes tmps)).run P w = .ok l w) :
    (results fn tmps).run P w = .ok (one1 l) w := by
  have e : results fn tmps = (fn.results.mapM (readRes tmps) >>= fun vs => pure (if h : vs.size = 1 then vs[0] else .tuple vs)) := by
    unfold results
    congr 1
  rw [e, Sem.run_bind, Array.mapM_eq_mapM_toList, Sem.run_map, h]
  simp only [Result.andThen_ok, Sem.run_pure]
  congr 1
  match l with
  | [] => rfl
  | [v] => rfl
  | a :: b :: r => simp [one1]
theorem reads_ok {loc : List O} (hS : Sim w F β (lk loc)) {tmps : Array Value} {env : Env} (hE : EnvR w F β (lk loc) tmps env) : ∀ {rs : List ResultVar} {vs : List V}, mapO (resultA P env loc) rs = some vs →
    ∃ l, (rs.mapM (readRes tmps)).run P w = .ok l w ∧ All2 (RVs w F β (lk loc)) l vs
  | [], vs, h => by simp only [mapO, Option.some.injEq] at h; subst h; exact ⟨[], rfl, .nil⟩
  | r :: rs, vs, h => by
    simp only [mapO] at h
    cases e1 : resultA P env loc r with
    | none => simp [e1] at h
    | some x =>
      cases e2 : mapO (resultA P env loc) rs with
      | none => simp [e1, e2] at h
      | some xs =>
        simp only [e1, e2, Option.some.injEq] at h
        subst h
        obtain ⟨l, h1, h2⟩ := reads_ok hS hE e2
        have : ∃ y, (readRes tmps r).run P w = .ok y w ∧ RVs w F β (lk loc) y x := by
          cases r with
          | tmp t => simp only [resultA, Option.some.injEq] at e1; subst e1; exact ⟨_, rfl, hE t⟩
          | cell a t =>
            simp only [resultA] at e1
            cases e3 : loadA P (lk loc) t (gt env a) with
            | none => simp [e3] at e1
            | some e =>
              obtain ⟨ad, y, u, rd, p1, rfl, p3, p4⟩ := load_val hS (hE a) e3
              simp only [e3, Option.some.injEq] at e1
              subst e1
              exact ⟨y, by simp [readRes, p1, asAddr, p3], p4⟩
        obtain ⟨y, p1, p2⟩ := this
        exact ⟨y :: l, by simp [List.mapM_cons, p1, h1], .cons p2 h2⟩
theorem finish_ok {cf : Cf} {env : Env} {loc0 : List O} {out : Out} (hS : Sim w F β (lk loc0)) {tmps : Array Value} (hE : EnvR w F β (lk loc0) tmps env) {fn : Func} (hres : fn.results.toList = cf.res) (h : finishA P cf env loc0 = some out) :
    ∃ vs os v β', out = .ret vs os ∧ (results fn tmps).run P w = .ok v w ∧ RRes w F β' (lk os) v vs ∧ Sim w F β' (lk os) ∧ St (· < cf.m) w β (lk loc0) w β' (lk os) := by
  unfold finishA at h
  cases e1 : mapO (resultA P env loc0) cf.res with
  | none => simp [e1] at h
  | some vs0 =>
    simp only [e1] at h
    cases e2 : argVsK cf.keep (lk loc0) vs0 with
    | none => simp [e2] at h
    | some p =>
      obtain ⟨vs1, own⟩ := p
      simp only [e2] at h
      generalize hL1 : updO loc0 (kills own) = loc1 at h
      generalize hL : loc1.map (cleanO (lk loc1)) = loc at h
      generalize hI : kept cf.m (vs1.flatMap refsV) loc = ids at h
      split at h
      case isFalse => cases h
      rename_i hc
      simp only [Bool.and_eq_true, decide_eq_true_eq] at hc
      cases e3 : mapO (renV (pos ids)) vs1 with
      | none => simp [e3] at h
      | some vs2 =>
        simp only [e3] at h
        cases e4 : keptO ids loc with
        | none => simp [e4] at h
        | some os =>
          simp only [e4, Option.some.injEq] at h
          subst h
          obtain ⟨l, h1, h2⟩ := reads_ok hS hE e1
          have hown := argVsK_arr e2
          have hL1' : lk loc1 = updL (lk loc0) (kills own) := by rw [← hL1, lk_updO]
          obtain ⟨hS1, st1⟩ := sim_kills (F := F) own hS (kills_ok hown)
          have hwide := wide_kills hS hown
          rw [← hL1'] at hS1 st1 hwide
          have h3 := argVsK_rep hS h2 e2 hwide
          obtain ⟨hS2, st2, hsh2, hN2⟩ := sim_clean (lk0 := lk loc1) hS1
          rw [hL] at hS2 st2 hsh2 hN2
          obtain ⟨hS3, st3, hren, hN3⟩ := sim_keep hS2 hc.1 hc.2 hI.symm e4
          have h4 : All2 (RVs w F (βc β ids) (lk os)) l vs2 := by
            refine All2.comp (R := fun v x => RV w (Nn w F β (lk loc1)) β (shL (lk loc0)) v x) (S := fun a b => renV (pos ids) a = some b) (T := RVs w F (βc β ids) (lk os)) (fun v x y p q => ?_) h3 (mapO_all2 e3)
            have p1 : RV w (Nn w F β (lk loc)) β (shL (lk loc)) v x := by
              rw [hsh2]
              exact RV.mono (keep_wide fun b hb => (hN2 b).1 hb) st1.ids p
            exact renV_rep hren hN3 p1 q
          refine ⟨vs2, os, _, βc β ids, rfl, run_results fn tmps (by rw [hres]; exact h1), ?_, hS3, ((st1.trans st2).some).trans st3⟩
          cases h4 with
          | nil => exact .inr ⟨by simp, #[], rfl, .nil⟩
          | cons a r =>
            cases r with
            | nil => exact .inl ⟨_, rfl, a⟩
            | cons b r => exact .inr ⟨by simp, _, rfl, by simpa using All2.cons a (All2.cons b r)⟩
theorem panic_ok {cf : Cf} {x : Value} {loc1 : List O} {out : Out} (hS : Sim w F β (lk loc1)) (h : panicOut cf x loc1 = some out) :
    ∃ os β', out = .pan x os ∧ Sim w F β' (lk os) ∧ St (· < cf.m) w β (lk loc1) w β' (lk os) := by
  unfold panicOut at h
  dsimp only at h
  generalize hL : loc1.map (cleanO (lk loc1)) = loc at h
  generalize hI : kept cf.m [] loc = ids at h
  split at h
  case isFalse => cases h
  rename_i hc
  simp only [Bool.and_eq_true, decide_eq_true_eq] at hc
  cases e4 : keptO ids loc with
  | none => simp [e4] at h
  | some os =>
    simp only [e4, Option.some.injEq] at h
    subst h
    obtain ⟨hS2, st2, hsh2, hN2⟩ := sim_clean (lk0 := lk loc1) hS
    rw [hL] at hS2 st2 hsh2 hN2
    obtain ⟨hS3, st3, hren, hN3⟩ := sim_keep hS2 hc.1 hc.2 hI.symm e4
    exact ⟨os, βc β ids, rfl, hS3, st2.some.trans st3⟩
theorem gt_filter (p : Nat → Bool) : ∀ (env : Env) (t : Nat), gt (env.filter fun q => p q.1) t = if p t = true then gt env t else .c .any
  | [], t => by simp [gt]
  | (a, x) :: r, t => by
    simp only [List.filter_cons]
    by_cases h : p a = true
    · simp only [h, if_true, gt]
      by_cases e : a = t
      · subst e; simp [h]
      · simp only [e, if_false]; exact gt_filter p r t
    · simp only [h, gt]
      by_cases e : a = t
      · subst e; simp [h]; have := gt_filter p r a; simpa [h] using this
      · simp only [e, if_false]; simpa using gt_filter p r t
theorem gt_map (f : V → V) (hf : f (.c .any) = .c .any) : ∀ (env : Env) (t : Nat), gt (env.map fun q => (q.1, f q.2)) t = f (gt env t)
  | [], t => by simp [gt, hf]
  | (a, x) :: r, t => by
    simp only [List.map_cons, gt]
    by_cases e : a = t
    · simp [e]
    · simp only [e, if_false]; exact gt_map f hf r t
theorem gt_ren (r : Nat → Option Nat) : ∀ (env env' : Env), All2 (fun (p q : Nat × V) => p.1 = q.1 ∧ renV r p.2 = some q.2) env env' → ∀ t, renV r (gt env t) = some (gt env' t) ∨ gt env' t = .c .any := by
  intro env env' h
  induction h with
  | nil => intro t; exact .inr rfl
  | @cons p q _ _ h1 _ ih =>
    intro t
    obtain ⟨a, x⟩ := p
    obtain ⟨b, y⟩ := q
    obtain ⟨rfl, h2⟩ := h1
    simp only [gt]
    by_cases e : a = t
    · simp only [e, if_true]; exact .inl h2
    · simp only [e, if_false]; exact ih t
theorem gt_none {env : Env} {t : Nat} (h : env.any (fun p => p.1 == t) = false) : gt env t = .c .any := by
  induction env with
  | nil => rfl
  | cons p r ih =>
    obtain ⟨u, v⟩ := p
    simp only [List.any_cons, Bool.or_eq_false_iff, beq_eq_false_iff_ne] at h
    simp only [gt, if_neg h.1]
    exact ih h.2
theorem gt_pad (t : Nat) : ∀ (l : List Nat) (env : Env), gt (padE l env) t = gt env t
  | [], env => rfl
  | u :: l, env => by
    rw [padE, gt_pad t l]
    split
    · rfl
    · rename_i h
      rw [gt_pt]
      split
      · rename_i e; subst e; exact (gt_none (Bool.eq_false_iff.2 h)).symm
      · rfl
theorem EnvR.pad {tmps : Array Value} {env : Env} {loc : List O} (h : EnvR w F β (lk loc) tmps env) (l : List Nat) : EnvR w F β (lk loc) tmps (padE l env) := by
  intro t
  rw [gt_pad]
  exact h t
theorem head_ok {m : Nat} {forget : List Nat} {env0 env' : Env} {loc1 os : List O} (hS : Sim w F β (lk loc1)) {tmps : Array Value} (hE : EnvR w F β (lk loc1) tmps env0) (h : headA m forget env0 loc1 = some (env', os)) :
    ∃ β', Sim w F β' (lk os) ∧ EnvR w F β' (lk os) tmps env' ∧ St (· < m) w β (lk loc1) w β' (lk os) := by
  unfold headA at h
  dsimp only at h
  generalize hL : loc1.map (cleanO (lk loc1)) = loc at h
  generalize hEn : ((env0.filter fun p => !forget.contains p.1).map fun p => (p.1, cleanV (lk loc1) p.2)) = env at h
  generalize hI : kept m (env.flatMap fun p => refsV p.2) loc = ids at h
  split at h
  case isFalse => cases h
  rename_i hc
  simp only [Bool.and_eq_true, decide_eq_true_eq] at hc
  cases e3 : mapO (renPair (pos ids)) env with
  | none => simp [e3] at h
  | some env2 =>
    simp only [e3] at h
    cases e4 : keptO ids loc with
    | none => simp [e4] at h
    | some os' =>
      simp only [e4, Option.some.injEq, Prod.mk.injEq] at h
      obtain ⟨rfl, rfl⟩ := h
      obtain ⟨hS2, st2, hsh2, hN2⟩ := sim_clean (lk0 := lk loc1) hS
      rw [hL] at hS2 st2 hsh2 hN2
      obtain ⟨hS3, st3, hren, hN3⟩ := sim_keep hS2 hc.1 hc.2 hI.symm e4
      refine ⟨βc β ids, hS3, fun t => ?_, st2.some.trans st3⟩
      have h1 : RVs w F β (lk loc) (tmps.getD t undef) (gt env t) := by
        rw [← hEn, gt_map (cleanV (lk loc1)) rfl, gt_filter (fun t => !forget.contains t)]
        split
        · have := hE t
          have h2 : RV w (Nn w F β (lk loc)) β (shL (lk loc)) (tmps.getD t undef) (gt env0 t) := by
            rw [hsh2]
            exact RV.mono (keep_wide fun b hb => (hN2 b).1 hb) (Ids.refl _ _ _ _) this
          exact cleanV_rep h2
        · trivial
      have h2 : All2 (fun (p q : Nat × V) => p.1 = q.1 ∧ renV (pos ids) p.2 = some q.2) env env2 := by
        refine (mapO_all2 e3).mono fun p q hpq => ?_
        unfold renPair at hpq
        cases e : renV (pos ids) p.2 with
        | none => simp [e] at hpq
        | some v => simp only [e, Option.some.injEq] at hpq; subst hpq; exact ⟨rfl, rfl⟩
      rcases gt_ren _ _ _ h2 t with h3 | h3
      · exact renV_rep hren hN3 h1 h3
      · rw [h3]; trivial
end
end Go.Proofs.YteenjodhmppgjaaGreatDoor.Am
end
section
/- The abstract machine: one operation in a statement; steps of the machine. -/
namespace Go.Proofs.YteenjodhmppgjaaGreatDoor.Am
open Go
inductive FinK where
  | ret
  | pan (chain : List PanicEntry)
def FinK.mode : FinK → FrameMode
  | .ret => .returning
  | .pan ch => .panicking ch
/-- From these items on the function ends, and Post holds at the end. -/
def Reach (P : Program) (items : List Item) (a : Act) (w : World) (Post : FinK → Act → World → Prop) : Prop :=
  ∀ (b : Frame) (cs : List Frame), ∃ fk a' w' todo, Post fk a' w' ∧ Steps P (lone (b.at a items) cs w) (lone { b.at a' todo with mode := fk.mode } cs w')
section
variable {P : Program}
theorem Reach.mono {items : List Item} {a : Act} {w : World} {Post Post' : FinK → Act → World → Prop} (h : Reach P items a w Post) (hp : ∀ fk a w, Post fk a w → Post' fk a w) : Reach P items a w Post' :=
  fun b cs => let ⟨fk, a', w', todo, p, s⟩ := h b cs; ⟨fk, a', w', todo, hp _ _ _ p, s⟩
theorem reach_step {items items' : List Item} {a : Act} {w : World} {Post : FinK → Act → World → Prop} (hs : ∀ (b : Frame) (cs : List Frame), step P (lone (b.at a items) cs w) = .next (lone (b.at a items') cs w)) (h : Reach P items' a w Post) : Reach P items a w Post :=
  fun b cs => let ⟨fk, a', w', todo, p, s⟩ := h b cs; ⟨fk, a', w', todo, p, .head (hs b cs) s⟩
theorem reach_unstep {items items' : List Item} {a : Act} {w : World} {Post : FinK → Act → World → Prop} (hs : ∀ (b : Frame) (cs : List Frame), step P (lone (b.at a items) cs w) = .next (lone (b.at a items') cs w)) (h : Reach P items a w Post) : Reach P items' a w Post := by
  intro b cs
  obtain ⟨fk, a', w', todo, p, n, hn⟩ := h b cs
  refine ⟨fk, a', w', todo, p, ?_⟩
  cases n with
  | zero =>
    exfalso
    simp only [Go.runN] at hn
    have h1 : lone (b.at a items) cs w = lone { b.at a' todo with mode := fk.mode } cs w' := by injection hn
    have h2 := congrArg (fun m : Machine => (m.gs.getD 0 default).frame.mode) h1
    simp only [lone, Frame.at] at h2
    cases fk <;> simp [FinK.mode, Array.getD] at h2
  | succ n =>
    simp only [Go.runN, hs b cs] at hn
    exact ⟨n, hn⟩
/-- What holds behind the operations of a statement. -/
def Qr (P : Program) (k : List Item) (Post : FinK → Act → World → Prop) : Exit → Act → World → Prop
  | .normal, a, w => Reach P k a w Post
  | .panic ch, a, w => Post (.pan ch) a w
  | _, _, _ => False
theorem reach_ops {all : Array Oper} {is : List Nat} {k : List Item} {a : Act} {w : World} {Post : FinK → Act → World → Prop} (h : wpOps P all (Qr P k Post) is a w) : Reach P (.inRegion all is :: k) a w Post := by
  intro b cs
  obtain ⟨e, a', w', hq, harr⟩ := wp_ops is a w h b k cs
  cases e with
  | normal =>
    obtain ⟨fk, a2, w2, todo, p, s⟩ := hq b cs
    exact ⟨fk, a2, w2, todo, p, Steps.trans harr s⟩
  | panic ch =>
    obtain ⟨todo, s⟩ := harr
    exact ⟨.pan ch, a', w', todo, hq, s⟩
  | exit _ => exact hq.elim
  | goto _ => exact hq.elim
  | ret => exact hq.elim
  | outgrown => exact hq.elim
theorem calls_of_reach {f : FuncId} {fn : Func} {c : Code} {args : Array Value} {w : World} {R : Ending → World → Prop} (hf : P.funcs[f]? = some fn) (hb : fn.body = some c)
    (h : Reach P [.code c] { tmps := args ++ Array.replicate (fn.ntmps - args.size) undef, defers := [] } w fun fk a' w' => a'.defers = [] ∧ match fk with
      | .ret => ∃ v, (results fn a'.tmps).run P w' = .ok v w' ∧ R (.returned v) w'
      | .pan ch => R (.panicked ch) w') : Calls P f args w R := by
  intro cs
  let b : Frame := { (default : Frame) with fn := f, kind := .normal }
  have henter : Frame.enter P f args .normal = b.at { tmps := args ++ Array.replicate (fn.ntmps - args.size) undef, defers := [] } [.code c] := by
    simp [Frame.enter, Frame.at, hf, hb, b]
  obtain ⟨fk, a', w', todo, ⟨hd, hq⟩, hs⟩ := h b cs
  rw [← henter] at hs
  cases fk with
  | ret =>
    obtain ⟨v, hr, hR⟩ := hq
    exact ⟨.returned v, w', _, hR, hs, rfl, rfl, hd, rfl, fn, hf, hr⟩
  | pan ch => exact ⟨.panicked ch, w', _, hq, hs, rfl, rfl, hd, fn, hf⟩
/-- No function is one that the machine takes apart by its name. -/
def Named (P : Program) : Prop := P.funcs.all (fun fn => !(fn.name == "runtime.NumGoroutine")) = true
def Bodied (P : Program) (f : FuncId) : Prop := ∃ fn, P.funcs[f]? = some fn ∧ fn.body.isSome = true
theorem run_callFunc (hN : Named P) {f : FuncId} (hB : Bodied P f) (args : Array Value) (w : World) : (callFunc f args).run P w = .ok (.enter f args) w := by
  obtain ⟨fn, hf, hb⟩ := hB
  have hn : (fn.name == "runtime.NumGoroutine") = false := by
    have := Array.all_eq_true_iff_forall_mem.1 hN fn (Array.mem_of_getElem? hf)
    simpa using this
  have hb' : fn.body.isNone = false := by cases h : fn.body <;> simp_all
  simp only [callFunc, Sem.run_bind, run_program, Result.andThen_ok, hf, hn, hb']
  rfl
/-- What is known of the calls that a run makes. -/
def scV (x : Value) : V := .c (.d (.v x))
/-- A function without a body of Go's, on scalars: what the model's own row answers. -/
def NatOK (P : Program) (f : FuncId) (args : List V) (objs : List O) (out : Out) : Prop :=
  ∃ (xs : List Value) (y : Value), args = xs.map scV ∧ objs = [] ∧ out = .ret [scV y] [] ∧ cellB y = true ∧ ∀ w, (callFunc f xs.toArray).run P w = .ok (.value y) w
def RecOK (P : Program) (rec : Rec) : Prop := ∀ f args objs out, rec (.call f args objs) = some out → (Bodied P f ∧ CallOK P f args objs out) ∨ NatOK P f args objs out
theorem argV_scal {look : Look} {r : Nat → Option Nat} {v v' : V} {a : List Nat} {x : Value} (h1 : argV look v = some (v', a)) (h2 : renV r v' = some (scV x)) : v = scV x ∧ a = [] := by
  cases v with
  | tup vs => cases h1
  | agg cs =>
    simp only [argV] at h1
    cases e : argCs look cs with
    | none => simp [e] at h1
    | some p =>
      simp only [e, Option.some.injEq, Prod.mk.injEq] at h1
      obtain ⟨rfl, rfl⟩ := h1
      simp only [renV] at h2
      split at h2
      · cases h2
      · cases h2
  | c z =>
    simp only [argV] at h1
    cases e : argC look z with
    | none => simp [e] at h1
    | some p =>
      simp only [e, Option.some.injEq, Prod.mk.injEq] at h1
      obtain ⟨rfl, rfl⟩ := h1
      simp only [renV] at h2
      cases e2 : renC r p.1 with
      | none => simp [e2] at h2
      | some y =>
        simp only [e2, Option.some.injEq, scV, V.c.injEq] at h2
        subst h2
        cases z with
        | own id =>
          simp only [argC] at e
          split at e
          · cases e; cases e2
          · cases e
        | any => cases e
        | d q => cases e; simp only [renC, Option.some.injEq] at e2; exact ⟨by rw [scV, ← e2], rfl⟩
        | ptr id off => cases e; simp only [renC] at e2; split at e2 <;> cases e2
        | elt k els i off => cases e; cases e2
        | ap id i off => cases e; simp only [renC] at e2; split at e2 <;> cases e2
        | rf m id => cases e; simp only [renC] at e2; split at e2 <;> cases e2
        | fn f b c =>
          cases e
          simp only [renC] at e2
          split at e2
          · split at e2 <;> cases e2
          · cases e2
theorem argVs_scal {look : Look} {r : Nat → Option Nat} : ∀ {vs vs' : List V} {a : List Nat} {xs : List Value}, argVs look vs = some (vs', a) → mapO (renV r) vs' = some (xs.map scV) → vs = xs.map scV ∧ a = []
  | [], vs', a, xs, h1, h2 => by
    simp only [argVs, Option.some.injEq, Prod.mk.injEq] at h1
    obtain ⟨rfl, rfl⟩ := h1
    simp only [mapO, Option.some.injEq] at h2
    exact ⟨h2, rfl⟩
  | v :: vs, vs', a, xs, h1, h2 => by
    simp only [argVs] at h1
    cases e : argV look v with
    | none => simp [e] at h1
    | some p =>
      obtain ⟨v1, a1⟩ := p
      cases e' : argVs look vs with
      | none => simp [e, e'] at h1
      | some q =>
        obtain ⟨vs1, a2⟩ := q
        simp only [e, e', Option.some.injEq, Prod.mk.injEq] at h1
        obtain ⟨rfl, rfl⟩ := h1
        simp only [mapO] at h2
        cases e2 : renV r v1 with
        | none => simp [e2] at h2
        | some y =>
          cases e3 : mapO (renV r) vs1 with
          | none => simp [e2, e3] at h2
          | some ys =>
            simp only [e2, e3, Option.some.injEq] at h2
            cases xs with
            | nil => cases h2
            | cons x xs =>
              simp only [List.map_cons, List.cons.injEq] at h2
              obtain ⟨rfl, rfl⟩ := h2
              obtain ⟨rfl, rfl⟩ := argV_scal e e2
              obtain ⟨h3, rfl⟩ := argVs_scal e' e3
              exact ⟨by rw [List.map_cons, ← h3], rfl⟩
theorem renC_scal {r : Nat → Option Nat} {z : C} {x : Value} (h : renC r z = some (.d (.v x))) : z = .d (.v x) := by
  cases z with
  | d q => simp only [renC, Option.some.injEq] at h; exact h
  | ptr id off => simp only [renC] at h; split at h <;> cases h
  | elt k els i off => cases h
  | own id => simp only [renC] at h; split at h <;> cases h
  | ap id i off => simp only [renC] at h; split at h <;> cases h
  | rf m id => simp only [renC] at h; split at h <;> cases h
  | fn f b c =>
    simp only [renC] at h
    split at h
    · split at h <;> cases h
    · cases h
  | any => cases h
theorem renVs_scal {r : Nat → Option Nat} : ∀ {vs : List V} {xs : List Value}, mapO (renV r) vs = some (xs.map scV) → vs = xs.map scV
  | [], xs, h => by
    simp only [mapO, Option.some.injEq] at h
    exact h
  | v :: vs, xs, h => by
    simp only [mapO] at h
    cases e2 : renV r v with
    | none => simp [e2] at h
    | some y =>
      cases e3 : mapO (renV r) vs with
      | none => simp [e2, e3] at h
      | some ys =>
        simp only [e2, e3, Option.some.injEq] at h
        cases xs with
        | nil => cases h
        | cons x xs =>
          simp only [List.map_cons, List.cons.injEq] at h
          obtain ⟨rfl, rfl⟩ := h
          rw [List.map_cons, ← renVs_scal e3]
          cases v with
          | c z =>
            simp only [renV] at e2
            cases e : renC r z with
            | none => simp [e] at e2
            | some q =>
              simp only [e, Option.some.injEq, scV, V.c.injEq] at e2
              subst e2
              rw [renC_scal e]; rfl
          | agg cs => simp only [renV] at e2; split at e2 <;> cases e2
          | tup ts => simp only [renV] at e2; split at e2 <;> cases e2
theorem argVsK_scal {look : Look} {keep : Bool} {r : Nat → Option Nat} {vs vs' : List V} {a : List Nat} {xs : List Value} (h1 : argVsK keep look vs = some (vs', a)) (h2 : mapO (renV r) vs' = some (xs.map scV)) : vs = xs.map scV ∧ a = [] := by
  cases keep with
  | true => simp only [argVsK, Option.some.injEq, Prod.mk.injEq] at h1; obtain ⟨rfl, rfl⟩ := h1; exact ⟨renVs_scal h2, rfl⟩
  | false => exact argVs_scal h1 h2
theorem prep_scal {f : FuncId} {look : Look} {vs : List V} {ids bor : List Nat} {xs : List Value} {os : List O} (h : callPrep f look vs = some (ids, bor, xs.map scV, os)) : vs = xs.map scV := by
  unfold callPrep at h
  cases e : argVsK (ownF f) look vs with
  | none => simp [e] at h
  | some p =>
    obtain ⟨as, b⟩ := p
    simp only [e] at h
    split at h
    · cases h
    · rename_i as2 e2
      split at h
      · cases h
      · split at h
        · cases h
        · split at h
          · simp only [Option.some.injEq, Prod.mk.injEq] at h
            obtain ⟨_, _, rfl, _⟩ := h
            exact (argVsK_scal e e2).1
          · cases h
theorem answer_scal {ids bor : List Nat} {slot : Nat} {y : Value} {e : Eff} (h : answer ids bor slot (.ret [scV y] []) = some e) : ∃ rd, e = ⟨.val (scV y), [], rd⟩ := by
  simp only [answer, scV, mapO, renV, renC, results1, List.length_nil] at h
  split at h
  · cases h
  · simp only [Option.some.injEq] at h
    subst h
    exact ⟨_, rfl⟩
variable {w : World} {F : Nat → Prop} {β : Int → Nat} {look : Look}
theorem ptrV_rep {id : Nat} (h : shL look id = some .box) : RVs w F β look (addrV (β id)) (ptrV id) := ⟨h, rfl⟩
theorem op_goes (hN : Named P) {rec : Rec} (hrec : RecOK P rec) (hS : Sim w F β look) (hH : NoHole look) {slot : Nat} (hs : look slot = none) {a : Act} {ρ : Operand → V} (hE : ∀ y, RVs w F β look (a.eval y) (ρ y)) {o : Oper} {e : Eff}
    (h : opA P rec look slot ρ o.op = some e) (hfresh : ∀ id, slot ≤ id → id ∈ e.upd.map (·.1) → look id = none) : Goes P w F β look a o e ((execOp a.eval o).run P w) := by
  by_cases hc : isCallV o.op = false
  · exact (op_runs hS hs hE hc h).goes
  · intro next Q hq
    obtain ⟨dst, op, ty, ps, af, g⟩ := o
    cases op <;> (dsimp only at hc h) <;> try (exact absurd rfl hc)
    case call c =>
      obtain ⟨callee, args, types⟩ := c
      cases callee with
      | builtin b => exact absurd rfl hc
      | invoke _ _ => exact absurd rfl hc
      | value f =>
        simp only [opA, callOpA, callV] at h
        cases ht : target (ρ f) (args.toList.map ρ) with
        | none => simp [ht] at h
        | some p =>
          obtain ⟨g', vs⟩ := p
          simp only [ht] at h
          unfold target at ht
          split at ht
          · rename_i fid first caps hf
            simp only [Option.some.injEq, Prod.mk.injEq] at ht
            obtain ⟨rfl, rfl⟩ := ht
            have hfv := hE f
            rw [hf] at hfv
            obtain ⟨hfv1, hfv2⟩ := hfv
            have hargs : All2 (RVs w F β look) (first.map (fun id : Nat => addrV (β id)) ++ args.toList.map a.eval ++ caps.map (fun id : Nat => addrV (β id))) (first.map ptrV ++ args.toList.map ρ ++ caps.map ptrV) := by
              have hp : ∀ l : List Nat, (∀ id ∈ l, shL look id = some .box) → All2 (RVs w F β look) (l.map fun id : Nat => addrV (β id)) (l.map ptrV) := by
                intro l
                induction l with
                | nil => intro _; exact .nil
                | cons x l ih => intro hl; exact .cons (ptrV_rep (hl x List.mem_cons_self)) (ih fun id hid => hl id (List.mem_cons_of_mem _ hid))
              exact ((hp first fun id hid => hfv2 id (.inl hid)).append (args_rep hE args.toList)).append (hp caps fun id hid => hfv2 id (.inr hid))
            have e1 : (first.map (fun id : Nat => addrV (β id))).toArray ++ args.map a.eval ++ (caps.map (fun id : Nat => addrV (β id))).toArray = (first.map (fun id : Nat => addrV (β id)) ++ args.toList.map a.eval ++ caps.map (fun id : Nat => addrV (β id))).toArray := by
              rw [← toArr]; simp
            have hor : Bodied P fid ∨ ∃ (xs : List Value) (y : Value), first.map ptrV ++ args.toList.map ρ ++ caps.map ptrV = xs.map scV ∧ cellB y = true ∧ (∀ w, (callFunc fid xs.toArray).run P w = .ok (.value y) w) ∧ ∃ rd, e = ⟨.val (scV y), [], rd⟩ := by
              unfold callA at h
              cases hp : callPrep fid look (first.map ptrV ++ args.toList.map ρ ++ caps.map ptrV) with
              | none => rw [hp] at h; cases h
              | some p =>
                obtain ⟨ids, bor, as, os⟩ := p
                rw [hp] at h
                simp only [callFin, callOut] at h
                cases hr : rec (.call fid as os) with
                | none => simp [hr] at h
                | some out =>
                  simp only [hr] at h
                  rcases hrec _ _ _ _ hr with ⟨hB, _⟩ | ⟨xs, y, rfl, rfl, rfl, hy, hn⟩
                  · exact .inl hB
                  · exact .inr ⟨xs, y, prep_scal hp, hy, hn, answer_scal h⟩
            rcases hor with hB | ⟨xs, y, hxs, hy, hn, rd, rfl⟩
            · have hrun : (execOp a.eval { dst := dst, op := .call { callee := .value f, args := args, argTypes := types }, type := ty, pos := ps, after := af, guard := g }).run P w =
                  .ok (.enter fid (first.map (fun id : Nat => addrV (β id)) ++ args.toList.map a.eval ++ caps.map (fun id : Nat => addrV (β id))).toArray) w := by
                simp only [execOp, resolve, hfv1, Deferred.ofValue, pure_bind, invoke]
                rw [e1]
                exact run_callFunc hN hB _ _
              show Oper.upon P _ a next Q ((execOp a.eval _).run P w)
              rw [hrun]
              refine callA_sound (fun args objs out hr => ?_) hS hH hargs h hfresh next Q hq
              rcases hrec fid args objs out hr with ⟨_, h⟩ | ⟨xs, y, _, _, _, _, hn⟩
              · exact h
              · have h1 := hn w
                rw [run_callFunc hN hB] at h1
                cases h1
            · have hv : first.map (fun id : Nat => addrV (β id)) ++ args.toList.map a.eval ++ caps.map (fun id : Nat => addrV (β id)) = xs := by
                rw [hxs] at hargs
                have key : ∀ (us : List Value) (xs : List Value), All2 (RVs w F β look) us (xs.map scV) → us = xs := by
                  intro us xs
                  induction xs generalizing us with
                  | nil => intro h; cases h; rfl
                  | cons x xs ih => intro h; cases h with | cons h1 h2 => rw [(rv_v h1).1, ih _ h2]
                exact key _ _ hargs
              have hrun : (execOp a.eval { dst := dst, op := .call { callee := .value f, args := args, argTypes := types }, type := ty, pos := ps, after := af, guard := g }).run P w = .ok (.value y) w := by
                simp only [execOp, resolve, hfv1, Deferred.ofValue, pure_bind, invoke]
                rw [e1, hv]
                exact hn w
              have hR : Runs w F β look ⟨.val (scV y), [], rd⟩ ((execOp a.eval { dst := dst, op := .call { callee := .value f, args := args, argTypes := types }, type := ty, pos := ps, after := af, guard := g }).run P w) := ⟨w, β, Good.refl hS, .inl ⟨y, hrun, RepD.v hy⟩⟩
              exact hR.goes next Q hq
          · cases ht
end
end Go.Proofs.YteenjodhmppgjaaGreatDoor.Am
end
section
/- The abstract machine: an operation's answer hangs on what it reads alone. -/
namespace Go.Proofs.YteenjodhmppgjaaGreatDoor.Am
open Go
section
variable {P : Program} {rec : Rec} {look look' : Look} {slot : Nat}
theorem toD_congr {c : C} {x : D} {own : List Nat} (h : toD look c = some (x, own)) (hl : ∀ id ∈ own, look' id = look id) : toD look' c = some (x, own) := by
  cases c with
  | d y => exact h
  | own id =>
    simp only [toD] at h ⊢
    cases e : look id with
    | none => simp [e] at h
    | some o =>
      cases o <;> simp [e] at h
      obtain ⟨rfl, rfl⟩ := h
      rw [hl id (by simp), e]
  | _ => cases h
theorem toDs_congr : ∀ {cs : List C} {xs : List D} {own : List Nat}, toDs look cs = some (xs, own) → (∀ id ∈ own, look' id = look id) → toDs look' cs = some (xs, own) := by
  intro cs
  induction cs with
  | nil => intro xs own h _; exact h
  | cons c cs ih =>
    intro xs own hd hl
    simp only [toDs] at hd ⊢
    cases e1 : toD look c with
    | none => simp [e1] at hd
    | some p =>
      obtain ⟨d, a⟩ := p
      cases e2 : toDs look cs with
      | none => simp [e1, e2] at hd
      | some q =>
        obtain ⟨ds, b⟩ := q
        simp only [e1, e2, Option.some.injEq, Prod.mk.injEq] at hd
        obtain ⟨rfl, rfl⟩ := hd
        rw [toD_congr e1 (fun id hid => hl id (List.mem_append_left _ hid)), ih e2 (fun id hid => hl id (List.mem_append_right _ hid))]
theorem toDss_congr : ∀ {vs : List V} {xs : List (List D)} {own : List Nat}, toDss look vs = some (xs, own) → (∀ id ∈ own, look' id = look id) → toDss look' vs = some (xs, own) := by
  intro vs
  induction vs with
  | nil => intro xs own h _; exact h
  | cons v vs ih =>
    intro xs own hd hl
    simp only [toDss] at hd ⊢
    cases e0 : cells v with
    | none => simp [e0] at hd
    | some cs =>
      cases e1 : toDs look cs with
      | none => simp [e0, e1] at hd
      | some p =>
        obtain ⟨d, a⟩ := p
        cases e2 : toDss look vs with
        | none => simp [e0, e1, e2] at hd
        | some q =>
          obtain ⟨ds, b⟩ := q
          simp only [e0, e1, e2, Option.some.injEq, Prod.mk.injEq] at hd
          obtain ⟨rfl, rfl⟩ := hd
          try dsimp only
          rw [toDs_congr e1 (fun id hid => hl id (List.mem_append_left _ hid)), ih e2 (fun id hid => hl id (List.mem_append_right _ hid))]
theorem argC_congr {c c' : C} {own : List Nat} (h : argC look c = some (c', own)) (hl : ∀ id ∈ own, look' id = look id) : argC look' c = some (c', own) := by
  cases c with
  | own id =>
    simp only [argC] at h ⊢
    cases e : look id with
    | none => simp [e] at h
    | some o =>
      cases o <;> simp [e] at h
      obtain ⟨rfl, rfl⟩ := h
      rw [hl id (by simp), e]
  | _ => exact h
theorem argCs_congr : ∀ {cs cs' : List C} {own : List Nat}, argCs look cs = some (cs', own) → (∀ id ∈ own, look' id = look id) → argCs look' cs = some (cs', own) := by
  intro cs
  induction cs with
  | nil => intro xs own h _; exact h
  | cons c cs ih =>
    intro xs own hd hl
    simp only [argCs] at hd ⊢
    cases e1 : argC look c with
    | none => simp [e1] at hd
    | some p =>
      obtain ⟨d, a⟩ := p
      cases e2 : argCs look cs with
      | none => simp [e1, e2] at hd
      | some q =>
        obtain ⟨ds, b⟩ := q
        simp only [e1, e2, Option.some.injEq, Prod.mk.injEq] at hd
        obtain ⟨rfl, rfl⟩ := hd
        rw [argC_congr e1 (fun id hid => hl id (List.mem_append_left _ hid)), ih e2 (fun id hid => hl id (List.mem_append_right _ hid))]
theorem argV_congr {x x' : V} {own : List Nat} (h : argV look x = some (x', own)) (hl : ∀ id ∈ own, look' id = look id) : argV look' x = some (x', own) := by
  cases x with
  | c y =>
    simp only [argV] at h ⊢
    cases e : argC look y with
    | none => simp [e] at h
    | some p => obtain ⟨z, a⟩ := p; simp only [e, Option.some.injEq, Prod.mk.injEq] at h; obtain ⟨rfl, rfl⟩ := h; rw [argC_congr e hl]
  | agg cs =>
    simp only [argV] at h ⊢
    cases e : argCs look cs with
    | none => simp [e] at h
    | some p => obtain ⟨z, a⟩ := p; simp only [e, Option.some.injEq, Prod.mk.injEq] at h; obtain ⟨rfl, rfl⟩ := h; rw [argCs_congr e hl]
  | tup vs => cases h
theorem argVs_congr : ∀ {xs xs' : List V} {own : List Nat}, argVs look xs = some (xs', own) → (∀ id ∈ own, look' id = look id) → argVs look' xs = some (xs', own) := by
  intro cs
  induction cs with
  | nil => intro xs own h _; exact h
  | cons c cs ih =>
    intro xs own hd hl
    simp only [argVs] at hd ⊢
    cases e1 : argV look c with
    | none => simp [e1] at hd
    | some p =>
      obtain ⟨d, a⟩ := p
      cases e2 : argVs look cs with
      | none => simp [e1, e2] at hd
      | some q =>
        obtain ⟨ds, b⟩ := q
        simp only [e1, e2, Option.some.injEq, Prod.mk.injEq] at hd
        obtain ⟨rfl, rfl⟩ := hd
        rw [argV_congr e1 (fun id hid => hl id (List.mem_append_left _ hid)), ih e2 (fun id hid => hl id (List.mem_append_right _ hid))]
theorem reach_congr : ∀ (n : Nat) (seen todo : List Nat), (∀ id ∈ Am.reach look n seen todo, look' id = look id) → Am.reach look' n seen todo = Am.reach look n seen todo
  | 0, _, _, _ => rfl
  | _ + 1, _, [], _ => rfl
  | n + 1, seen, id :: todo, h => by
    simp only [Am.reach] at h ⊢
    split
    · rename_i hc
      rw [if_pos hc] at h
      exact reach_congr n seen todo h
    · rename_i hc
      rw [if_neg hc] at h
      have hid : look' id = look id := by
        apply h
        obtain ⟨t, ht⟩ := reach_prefix look n (seen ++ [id]) (todo ++ refsO (look id))
        rw [ht]; simp
      rw [hid]
      exact reach_congr n _ _ h
theorem mapO_congr {α γ : Type} {f g : α → Option γ} : ∀ {l : List α}, (∀ x ∈ l, g x = f x) → mapO g l = mapO f l
  | [], _ => rfl
  | x :: l, h => by simp only [mapO]; rw [h x List.mem_cons_self, mapO_congr fun y hy => h y (List.mem_cons_of_mem _ hy)]
theorem argVsK_congr {keep : Bool} {xs xs' : List V} {own : List Nat} (h : argVsK keep look xs = some (xs', own)) (hl : ∀ id ∈ own, look' id = look id) : argVsK keep look' xs = some (xs', own) := by
  cases keep with
  | true => exact h
  | false => exact argVs_congr h hl
theorem callPrep_congr {f : FuncId} {args : List V} {ids bor : List Nat} {args' : List V} {objs : List O} (h : callPrep f look args = some (ids, bor, args', objs)) (h1 : ∀ id ∈ ids, look' id = look id) (h2 : ∀ id ∈ bor, look' id = look id) : callPrep f look' args = some (ids, bor, args', objs) := by
  unfold callPrep at h ⊢
  cases ha : argVsK (ownF f) look args with
  | none => simp [ha] at h
  | some q =>
    obtain ⟨args1, bor1⟩ := q
    simp only [ha] at h
    cases hm1 : mapO (renV (pos (Am.reach look 200 [] (args1.flatMap refsV)))) args1 with
    | none => simp [hm1] at h
    | some args3 =>
      simp only [hm1] at h
      cases hm2 : mapO look (Am.reach look 200 [] (args1.flatMap refsV)) with
      | none => simp [hm2] at h
      | some objs1 =>
        simp only [hm2] at h
        cases hm3 : mapO (renO (pos (Am.reach look 200 [] (args1.flatMap refsV)))) objs1 with
        | none => simp [hm3] at h
        | some objs3 =>
          simp only [hm3] at h
          split at h
          case isFalse => cases h
          rename_i hc
          simp only [Option.some.injEq, Prod.mk.injEq] at h
          obtain ⟨rfl, rfl, rfl, rfl⟩ := h
          rw [argVsK_congr ha h2]
          simp only [reach_congr 200 [] (args1.flatMap refsV) h1, hm1, mapO_congr h1, hm2, hm3]
          rw [if_pos hc]
theorem answer_rd {ids bor : List Nat} {out : Out} {e : Eff} (h : answer ids bor slot out = some e) : e.rd = ids ++ bor := by
  cases out with
  | ret vs objs =>
    simp only [answer] at h
    cases e1 : mapO (renV (back ids slot objs.length)) vs with
    | none => simp [e1] at h
    | some vs' =>
      cases e2 : mapO (renO (back ids slot objs.length)) objs with
      | none => simp [e1, e2] at h
      | some objs' =>
        cases e3 : results1 vs' with
        | none => simp [e1, e2, e3] at h
        | some v =>
          simp only [e1, e2, e3] at h
          split at h
          · cases h
          · simp only [Option.some.injEq] at h; subst h; rfl
  | pan x objs =>
    simp only [answer] at h
    cases e2 : mapO (renO (back ids slot objs.length)) objs with
    | none => simp [e2] at h
    | some objs' =>
      simp only [e2] at h
      split at h
      · cases h
      · simp only [Option.some.injEq] at h; subst h; rfl
theorem callA_congr {f : FuncId} {args : List V} {e : Eff} (h : callA rec look slot f args = some e) (hl : ∀ id ∈ e.rd, look' id = look id) : callA rec look' slot f args = some e := by
  unfold callA at h ⊢
  cases hp : callPrep f look args with
  | none => rw [hp] at h; cases h
  | some p =>
    obtain ⟨ids, bor, as, os⟩ := p
    rw [hp] at h
    simp only [callFin, callOut] at h
    cases hr : rec (.call f as os) with
    | none => simp [hr] at h
    | some out =>
      simp only [hr] at h
      have hrd := answer_rd h
      rw [callPrep_congr hp (fun id hid => hl id (by rw [hrd]; exact List.mem_append_left _ hid)) (fun id hid => hl id (by rw [hrd]; exact List.mem_append_right _ hid))]
      simp only [callFin, callOut, hr, h]
theorem ifaceD_congr {t : TypeId} {a : V} {e : Eff} (h : ifaceD look t a = some e) (hl : ∀ id ∈ e.rd, look' id = look id) : ifaceD look' t a = some e := by
  cases a with
  | agg cs =>
    simp only [ifaceD] at h ⊢
    cases hd : toDs look cs with
    | none => simp [hd] at h
    | some p =>
      obtain ⟨ds, own⟩ := p
      simp only [hd, Option.some.injEq] at h
      subst h
      simp only [toDs_congr hd hl]
  | c x => exact h
  | tup vs => exact h
theorem makeInterface_congr {t : TypeId} {a : V} {e : Eff} (h : makeInterfaceA P look t a = some e) (hl : ∀ id ∈ e.rd, look' id = look id) : makeInterfaceA P look' t a = some e := by
  unfold makeInterfaceA at h ⊢
  split at h
  · cases h
  · cases h
  · split at h
    · exact h
    · exact ifaceD_congr h hl
theorem load_congr {t : TypeId} {a : V} {e : Eff} (h : loadA P look t a = some e) (hl : ∀ id ∈ e.rd, look' id = look id) : loadA P look' t a = some e := by
  unfold loadA at h ⊢
  split at h
  · rename_i id off
    cases hk : look id with
    | none => simp [hk] at h
    | some o =>
      cases o <;> simp only [hk] at h <;> try (cases h; done)
      rename_i cs
      cases hc : cutC P t cs off with
      | none => simp [hc] at h
      | some v =>
        simp only [hc] at h
        have := h
        cases this
        try dsimp only
        rw [hl id (by simp), hk]
        simp only [hc]; rfl
  · rename_i id i off
    cases hk : look id with
    | none => simp [hk] at h
    | some o =>
      cases o <;> simp only [hk] at h <;> try (cases h; done)
      rename_i k els
      cases he : els[i]? with
      | none => simp [he] at h
      | some l =>
        simp only [he] at h
        cases hc : cutC P t (l.map .d) off with
        | none => simp [hc] at h
        | some v =>
          simp only [hc] at h
          have := h
          cases this
          try dsimp only
          rw [hl id (by simp), hk]
          simp only [he, hc]; rfl
  · exact h
  · cases h
theorem store_congr {t : TypeId} {a x : V} {e : Eff} (h : storeA P look t a x = some e) (hl : ∀ id ∈ e.rd, look' id = look id) : storeA P look' t a x = some e := by
  unfold storeA at h ⊢
  cases hc : cells x with
  | none => simp [hc] at h
  | some ys =>
    simp only [hc] at h ⊢
    split at h
    case isFalse => cases h
    rename_i hs
    rw [if_pos hs]
    split at h
    · rename_i id off
      cases hk : look id with
      | none => simp [hk] at h
      | some o =>
        cases o <;> simp only [hk] at h <;> try (cases h; done)
        rename_i cs
        split at h
        case isFalse => cases h
        rename_i hle
        have := h
        cases this
        try dsimp only
        rw [hl id (by simp), hk]
        simp only [if_pos hle]
    · rename_i id i off
      cases hk : look id with
      | none => simp [hk] at h
      | some o =>
        cases o <;> simp only [hk] at h <;> try (cases h; done)
        rename_i k els
        cases he : els[i]? with
        | none => simp [he] at h
        | some l =>
          simp only [he] at h
          cases hd : toDs look ys with
          | none => simp [hd] at h
          | some p =>
            obtain ⟨ds, own⟩ := p
            simp only [hd] at h
            split at h
            case isFalse => cases h
            rename_i hh
            have := h
            cases this
            dsimp only at hl ⊢
            rw [hl id (by simp), hk]
            simp only [he]
            rw [toDs_congr hd (fun id hid => hl id (by simp [hid]))]
            simp only [if_pos hh]
    · cases h
theorem added_congr {k : Nat} {v : V} {new : List (List D)} {o2 : List Nat} (h : addedA look k v = some (new, o2)) (hl : ∀ id ∈ o2, look' id = look id) : addedA look' k v = some (new, o2) := by
  unfold addedA at h ⊢
  split at h
  · exact h
  · exact h
  · rename_i id
    cases hk : look id with
    | none => simp [hk] at h
    | some o =>
      cases o <;> simp only [hk] at h <;> try (cases h; done)
      rename_i k' els
      split at h
      case isFalse => cases h
      rename_i hh
      have := h
      cases this
      try dsimp only
      rw [hl id (by simp), hk]
      simp only [if_pos hh]
  · cases h
theorem append_congr {ts : List TypeId} {vs : List V} {e : Eff} (h : appendA P look slot ts vs = some e) (hl : ∀ id ∈ e.rd, look' id = look id) : appendA P look' slot ts vs = some e := by
  unfold appendA at h ⊢
  split at h
  case h_2 => cases h
  rename_i t u s x
  try dsimp only
  by_cases htu : t ≠ u
  · rw [if_pos htu] at h; cases h
  rw [if_neg htu] at h ⊢
  cases he : elemT P t with
  | none => simp [he] at h
  | some el =>
    simp only [he] at h ⊢
    cases hsz : sizeT P el with
    | none => simp [hsz] at h
    | some k =>
      cases hby : bytesT P el with
      | none => simp [hsz, hby] at h
      | some b =>
        simp only [hsz, hby] at h ⊢
        split at h
        case isFalse => cases h
        rename_i hh
        rw [if_pos hh]
        cases ha : addedA look k x with
        | none => simp [ha] at h
        | some p =>
          obtain ⟨new, o2⟩ := p
          simp only [ha] at h
          split at h
          · cases new with
            | nil =>
              have := h
              cases this
              rw [added_congr ha hl]
            | cons n0 new =>
              dsimp only at h
              split at h
              case isFalse => cases h
              rename_i hb
              have := h
              cases this
              rw [added_congr ha hl]
              simp only [if_pos hb]
          · rename_i id
            cases hk : look id with
            | none => simp [hk] at h
            | some o =>
              cases o <;> simp only [hk] at h <;> try (cases h; done)
              rename_i k' els
              split at h
              case isFalse => cases h
              rename_i hb
              have := h
              cases this
              dsimp only at hl
              rw [added_congr ha (fun id hid => hl id (List.mem_append_left _ hid))]
              try dsimp only
              rw [hl id (by simp), hk]
              simp only [if_pos hb]
          · cases h
theorem slice_congr {t : TypeId} {x : V} {lo hi mx : Option V} {e : Eff} (h : sliceA P look slot t x lo hi mx = some e) (hl : ∀ id ∈ e.rd, look' id = look id) : sliceA P look' slot t x lo hi mx = some e := by
  unfold sliceA at h ⊢
  split at h
  · exact h
  · rename_i el hu
    cases hs : sizeT P el with
    | none => simp [hs] at h
    | some k =>
      simp only [hs] at h ⊢
      split at h
      case isFalse => cases h
      rename_i hk0
      rw [if_pos hk0]
      split at h
      · exact h
      · rename_i id
        try dsimp only
        cases hk : look id with
        | none => simp [hk] at h
        | some o =>
          cases o <;> simp only [hk] at h <;> try (cases h; done)
          rename_i k' els
          have hrd : id ∈ e.rd := by
            split at h
            case isFalse => cases h
            cases hh : bound hi els.length els.length with
            | none => simp [hh] at h
            | some hN =>
              simp only [hh] at h
              split at h
              · cases h; simp
              · cases h
          rw [hl id hrd, hk]
          exact h
      · cases h
  · cases h
theorem indexAddr_congr {t : TypeId} {x i : V} {e : Eff} (h : indexAddrA P look t x i = some e) (hl : ∀ id ∈ e.rd, look' id = look id) : indexAddrA P look' t x i = some e := by
  unfold indexAddrA at h ⊢
  cases hn : num i with
  | none => simp [hn] at h
  | some n =>
    simp only [hn] at h ⊢
    split at h
    · rename_i el hu
      cases hs : sizeT P el with
      | none => simp [hs] at h
      | some k =>
        simp only [hs] at h ⊢
        split at h
        · exact h
        · rename_i id
          try dsimp only
          cases hk : look id with
          | none => simp [hk] at h
          | some o =>
            cases o <;> simp only [hk] at h <;> try (cases h; done)
            rename_i k' els
            split at h
            case isFalse => cases h
            rename_i hh
            have := h
            cases this
            rw [hl id (by simp), hk]
            simp only [if_pos hh]; rfl
        · cases h
    · exact h
    · cases h
theorem fieldAddr_congr {t : TypeId} {x : V} {f : Nat} {e : Eff} (h : fieldAddrA P look t x f = some e) (hl : ∀ id ∈ e.rd, look' id = look id) : fieldAddrA P look' t x f = some e := by
  unfold fieldAddrA at h ⊢
  cases hf : fieldT P t f with
  | none => simp [hf] at h
  | some p =>
    obtain ⟨off, u⟩ := p
    cases hs : sizeT P u with
    | none => simp [hf, hs] at h
    | some n =>
      simp only [hf, hs] at h ⊢
      split at h
      case isFalse => cases h
      rename_i hn
      rw [if_pos hn]
      split at h
      · exact h
      · rename_i id i o
        try dsimp only
        cases hk : look id with
        | none => simp [hk] at h
        | some q =>
          cases q <;> simp only [hk] at h <;> try (cases h; done)
          have := h
          cases this
          rw [hl id (by simp), hk]
          rfl
      · exact h
      · cases h
theorem nilCheck_congr {x : V} {e : Eff} (h : nilCheckA look x = some e) (hl : ∀ id ∈ e.rd, look' id = look id) : nilCheckA look' x = some e := by
  unfold nilCheckA at h ⊢
  split at h
  · exact h
  · exact h
  · rename_i id i o
    try dsimp only
    cases hk : look id with
    | none => simp [hk] at h
    | some q =>
      cases q <;> simp only [hk] at h <;> try (cases h; done)
      have := h
      cases this
      rw [hl id (by simp), hk]
      rfl
  · exact h
  · cases h
theorem len_congr {x : V} {e : Eff} (h : lenA look x = some e) (hl : ∀ id ∈ e.rd, look' id = look id) : lenA look' x = some e := by
  unfold lenA at h ⊢
  split at h
  · exact h
  · exact h
  · rename_i id
    try dsimp only
    cases hk : look id with
    | none => simp [hk] at h
    | some q =>
      cases q <;> simp only [hk] at h <;> try (cases h; done)
      have := h
      cases this
      rw [hl id (by simp), hk]
      rfl
  · cases h
theorem buildSlice_congr {t : TypeId} {len : Nat} {parts : List (Nat × V)} {e : Eff} (h : buildSliceA P look slot t len parts = some e) (hl : ∀ id ∈ e.rd, look' id = look id) : buildSliceA P look' slot t len parts = some e := by
  unfold buildSliceA at h ⊢
  cases he : elemT P t with
  | none => simp [he] at h
  | some el =>
    cases hs : sizeT P el with
    | none => simp [he, hs] at h
    | some k =>
      simp only [he, hs] at h ⊢
      cases hd : toDss look (parts.map (·.2)) with
      | none => rw [hd] at h; cases h
      | some p =>
        obtain ⟨els, own⟩ := p
        rw [hd] at h
        dsimp only at h
        split at h
        case isFalse => cases h
        rename_i hh
        have := h
        cases this
        rw [toDss_congr hd hl]
        simp only [if_pos hh]
theorem builtin_congr {b : Builtin} {ts : List TypeId} {vs : List V} {e : Eff} (h : builtinA P look slot b ts vs = some e) (hl : ∀ id ∈ e.rd, look' id = look id) : builtinA P look' slot b ts vs = some e := by
  unfold builtinA at h ⊢
  cases b <;> dsimp only at h ⊢ <;> try (first | exact h | (cases h; done))
  case append => exact append_congr h hl
  case len =>
    split at h
    case h_2 => cases h
    split at h
    case h_2 => cases h
    try dsimp only
    split at h
    · rename_i hu; exact h
    · rename_i el hu; exact len_congr h hl
    · cases h
theorem mapUpdate_rd {t : TypeId} {m k x : V} {e : Eff} (h : mapUpdateA P look t m k x = some e) : ∃ id, m = .c (.rf true id) ∧ id ∈ e.rd := by
  unfold mapUpdateA at h
  split at h
  case h_2 => cases h
  rename_i id _ _ _ _
  refine ⟨id, rfl, ?_⟩
  repeat' (split at h)
  all_goals first | (cases h; done) | (cases h; simp)
theorem mapUpdate_congr {t : TypeId} {m k x : V} {e : Eff} (h : mapUpdateA P look t m k x = some e) (hl : ∀ id ∈ e.rd, look' id = look id) : mapUpdateA P look' t m k x = some e := by
  obtain ⟨id, rfl, hid⟩ := mapUpdate_rd h
  rw [← h]
  unfold mapUpdateA
  cases scal k with
  | none => rfl
  | some a => cases scal x with
    | none => rfl
    | some b => dsimp only; rw [hl id hid]
theorem lookup_rd {t : TypeId} {m k : V} {ok : Bool} {e : Eff} (h : lookupA P look t m k ok = some e) : ∃ id, m = .c (.rf true id) ∧ id ∈ e.rd := by
  unfold lookupA at h
  split at h
  case h_2 => cases h
  rename_i id _ _
  refine ⟨id, rfl, ?_⟩
  repeat' (split at h)
  all_goals first | (cases h; done) | (cases h; simp)
theorem lookup_congr {t : TypeId} {m k : V} {ok : Bool} {e : Eff} (h : lookupA P look t m k ok = some e) (hl : ∀ id ∈ e.rd, look' id = look id) : lookupA P look' t m k ok = some e := by
  obtain ⟨id, rfl, hid⟩ := lookup_rd h
  rw [← h]
  unfold lookupA
  cases scal k with
  | none => rfl
  | some a => dsimp only; rw [hl id hid]
theorem next_rd {m : V} {s : Bool} {e : Eff} (h : nextA look m s = some e) : ∃ id, m = .c (.rf false id) ∧ id ∈ e.rd := by
  unfold nextA at h
  split at h
  case h_2 => cases h
  rename_i id
  refine ⟨id, rfl, ?_⟩
  repeat' (split at h)
  all_goals first | (cases h; done) | (cases h; simp)
theorem next_congr {m : V} {s : Bool} {e : Eff} (h : nextA look m s = some e) (hl : ∀ id ∈ e.rd, look' id = look id) : nextA look' m s = some e := by
  obtain ⟨id, rfl, hid⟩ := next_rd h
  rw [← h]
  unfold nextA
  cases s with
  | false => rfl
  | true => dsimp only; rw [hl id hid]
theorem opA_congr {ρ ρ' : Operand → V} {o : Op} {e : Eff} (h : opA P rec look slot ρ o = some e) (hρ : ∀ y ∈ o.operands.toList, ρ' y = ρ y) (hl : ∀ id ∈ e.rd, look' id = look id) : opA P rec look' slot ρ' o = some e := by
  have hmap : ∀ l : List Operand, (∀ y ∈ l, ρ' y = ρ y) → l.map ρ' = l.map ρ := fun l hl => List.map_congr_left hl
  cases o <;> unfold opA at h ⊢ <;> dsimp only at h ⊢ <;> try (cases h; done)
  case move x => rw [hρ x (by simp [Op.operands])]; exact h
  case assign x => rw [hρ x (by simp [Op.operands])]; exact h
  case pick c a b => rw [hρ c (by simp [Op.operands]), hρ a (by simp [Op.operands]), hρ b (by simp [Op.operands])]; exact h
  case alloc t => exact h
  case box t x => rw [hρ x (by simp [Op.operands])]; exact h
  case build t parts =>
    rw [show (parts.toList.map fun p => (p.1, ρ' p.2)) = parts.toList.map fun p => (p.1, ρ p.2) from List.map_congr_left fun p hp => by rw [hρ p.2 (by simp only [Op.operands, List.toList_toArray]; exact List.mem_map_of_mem hp)]]
    exact h
  case buildSlice t len parts =>
    rw [show (parts.toList.map fun p => (p.1, ρ' p.2)) = parts.toList.map fun p => (p.1, ρ p.2) from List.map_congr_left fun p hp => by rw [hρ p.2 (by simp only [Op.operands, List.toList_toArray]; exact List.mem_map_of_mem hp)]]
    exact buildSlice_congr h hl
  case load t a => rw [hρ a (by simp [Op.operands])]; exact load_congr h hl
  case store t a x => rw [hρ a (by simp [Op.operands]), hρ x (by simp [Op.operands])]; exact store_congr h hl
  case nilCheck x => rw [hρ x (by simp [Op.operands])]; exact nilCheck_congr h hl
  case binOp op t x y u => rw [hρ x (by simp [Op.operands]), hρ y (by simp [Op.operands])]; exact h
  case unOp op t x => rw [hρ x (by simp [Op.operands])]; exact h
  case convert a b x => rw [hρ x (by simp [Op.operands])]; exact h
  case makeInterface t x => rw [hρ x (by simp [Op.operands])]; exact makeInterface_congr h hl
  case makeFunc fn first caps =>
    rw [hmap _ (fun y hy => hρ y (by simp [Op.operands]; left; simpa using hy)), hmap _ (fun y hy => hρ y (by simp [Op.operands]; right; simpa using hy))]; exact h
  case makeSlice t l c => rw [hρ l (by simp [Op.operands]), hρ c (by simp [Op.operands])]; exact h
  case slice t x lo hi mx =>
    have ho : ∀ z : Option Operand, (∀ y, z = some y → ρ' y = ρ y) → z.map ρ' = z.map ρ := by
      intro z hz; cases z with
      | none => rfl
      | some y => simp [hz y rfl]
    rw [hρ x (by simp [Op.operands]), ho lo (fun y hy => hρ y (by subst hy; simp [Op.operands])), ho hi (fun y hy => hρ y (by subst hy; simp [Op.operands])), ho mx (fun y hy => hρ y (by subst hy; simp [Op.operands]))]
    exact slice_congr h hl
  case fieldAddr t x f => rw [hρ x (by simp [Op.operands])]; exact fieldAddr_congr h hl
  case field t x f => rw [hρ x (by simp [Op.operands])]; exact h
  case indexAddr t x i => rw [hρ x (by simp [Op.operands]), hρ i (by simp [Op.operands])]; exact indexAddr_congr h hl
  case index t x i => rw [hρ x (by simp [Op.operands]), hρ i (by simp [Op.operands])]; exact h
  case extract x i => rw [hρ x (by simp [Op.operands])]; exact h
  case panic x => rw [hρ x (by simp [Op.operands])]; exact h
  case makeMap t r =>
    rw [show r.map ρ' = r.map ρ by cases r with | none => rfl | some y => simp [hρ y (by simp [Op.operands])]]; exact h
  case mapUpdate t m k x => rw [hρ m (by simp [Op.operands]), hρ k (by simp [Op.operands]), hρ x (by simp [Op.operands])]; exact mapUpdate_congr h hl
  case insert t m k x => rw [hρ m (by simp [Op.operands]), hρ k (by simp [Op.operands]), hρ x (by simp [Op.operands])]; exact mapUpdate_congr h hl
  case lookup t x ix ok => rw [hρ x (by simp [Op.operands]), hρ ix (by simp [Op.operands])]; exact lookup_congr h hl
  case range t x => rw [hρ x (by simp [Op.operands])]; exact h
  case next it s => rw [hρ it (by simp [Op.operands])]; exact next_congr h hl
  case call c =>
    obtain ⟨callee, args, types⟩ := c
    unfold callOpA at h ⊢
    have ha : args.toList.map ρ' = args.toList.map ρ := hmap _ fun y hy => hρ y (by simp [Op.operands, Call.operands]; right; simpa using hy)
    cases callee with
    | builtin b => dsimp only at h ⊢; rw [ha]; exact builtin_congr h hl
    | invoke _ _ => cases h
    | value f =>
      dsimp only at h ⊢
      rw [ha, hρ f (by simp [Op.operands, Call.operands])]
      unfold callV at h ⊢
      cases ht : target (ρ f) (args.toList.map ρ) with
      | none => rw [ht] at h; cases h
      | some p =>
        obtain ⟨g, vs⟩ := p
        rw [ht] at h
        exact callA_congr h hl
end
end Go.Proofs.YteenjodhmppgjaaGreatDoor.Am
end
section
/- The abstract machine: a statement whose order is open: all orders come to one. -/
namespace Go.Proofs.YteenjodhmppgjaaGreatDoor.Am
open Go
/-- What the operation with number i did, in the text's order. -/
def Did (P : Program) (rec : Rec) (nt : Nat) (all : Array Oper) (slot : Nat) (o : Oper) (env env' : Env) (loc loc' : List O) (fp : List Nat × List Nat) : Prop :=
  dstOk nt o.dst = true ∧ ((wantedA all env o.guard = some false ∧ env' = putO env o.dst (.tup []) ∧ loc' = loc ∧ fp = ([], [slot])) ∨
    (wantedA all env o.guard = some true ∧ ∃ v upd rd, opA P rec (lk loc) slot (ev env) o.op = some ⟨.val v, upd, rd⟩ ∧ (∀ p ∈ upd, p.1 ≤ slot) ∧ env' = putO env o.dst v ∧ loc' = updO loc upd ∧ fp = (rd, slot :: upd.map (·.1))))
theorem trace {P : Program} {rec : Rec} {nt : Nat} {all : Array Oper} {base : Nat} : ∀ (l : List Oper) (i : Nat) (env : Env) (loc : List O) {env' : Env} {loc' : List O} {fps : List (List Nat × List Nat)}, drawA P rec nt all base l i env loc = some (env', loc', fps) →
    ∃ (E : Nat → Env) (L : Nat → List O), E 0 = env ∧ L 0 = loc ∧ E l.length = env' ∧ L l.length = loc' ∧ fps.length = l.length ∧
      ∀ (j : Nat) (o : Oper), l[j]? = some o → ∃ fp, fps[j]? = some fp ∧ Did P rec nt all (base + (i + j)) o (E j) (E (j + 1)) (L j) (L (j + 1)) fp
  | [], i, env, loc, env', loc', fps, h => by
    simp only [drawA, Option.some.injEq, Prod.mk.injEq] at h
    obtain ⟨rfl, rfl, rfl⟩ := h
    exact ⟨fun _ => env, fun _ => loc, rfl, rfl, rfl, rfl, rfl, fun j o h => by simp at h⟩
  | o :: l, i, env, loc, env', loc', fps, h => by
    simp only [drawA] at h
    split at h
    case isFalse => cases h
    rename_i hd
    have fin : ∀ (env1 : Env) (loc1 : List O) (fp : List Nat × List Nat), Did P rec nt all (base + i) o env env1 loc loc1 fp → (∃ fps', drawA P rec nt all base l (i + 1) env1 loc1 = some (env', loc', fps') ∧ fps = fp :: fps') →
        ∃ (E : Nat → Env) (L : Nat → List O), E 0 = env ∧ L 0 = loc ∧ E (o :: l).length = env' ∧ L (o :: l).length = loc' ∧ fps.length = (o :: l).length ∧
          ∀ (j : Nat) (o' : Oper), (o :: l)[j]? = some o' → ∃ fp, fps[j]? = some fp ∧ Did P rec nt all (base + (i + j)) o' (E j) (E (j + 1)) (L j) (L (j + 1)) fp := by
      rintro env1 loc1 fp hdid ⟨fps', hr, rfl⟩
      obtain ⟨E, L, h1, h2, h3, h4, h5, h6⟩ := trace l (i + 1) env1 loc1 hr
      refine ⟨fun k => match k with | 0 => env | k + 1 => E k, fun k => match k with | 0 => loc | k + 1 => L k, rfl, rfl, h3, h4, by simp [h5], fun j o' hj => ?_⟩
      cases j with
      | zero =>
        simp only [List.getElem?_cons_zero, Option.some.injEq] at hj
        subst hj
        refine ⟨fp, rfl, ?_⟩
        dsimp only
        rw [h1, h2]
        exact hdid
      | succ j =>
        obtain ⟨fp', p1, p2⟩ := h6 j o' (by simpa using hj)
        refine ⟨fp', by simpa using p1, ?_⟩
        have e : base + (i + (j + 1)) = base + (i + 1 + j) := by omega
        rw [e]
        exact p2
    cases hw : wantedA all env o.guard with
    | none => simp [hw] at h
    | some b =>
      simp only [hw] at h
      cases b with
      | false =>
        dsimp only at h
        cases hr : drawA P rec nt all base l (i + 1) (putO env o.dst (.tup [])) loc with
        | none => simp [hr] at h
        | some x =>
          obtain ⟨e, lo, fps'⟩ := x
          simp only [hr, Option.some.injEq, Prod.mk.injEq] at h
          obtain ⟨rfl, rfl, rfl⟩ := h
          exact fin _ _ _ ⟨hd, .inl ⟨hw, rfl, rfl, rfl⟩⟩ ⟨fps', hr, rfl⟩
      | true =>
        dsimp only at h
        cases hop : opA P rec (lk loc) (base + i) (ev env) o.op with
        | none => simp [hop] at h
        | some ef =>
          obtain ⟨res, upd, rd⟩ := ef
          cases res with
          | pan x => simp [hop] at h
          | val v =>
            simp only [hop] at h
            split at h
            case isFalse => cases h
            rename_i hu
            cases hr : drawA P rec nt all base l (i + 1) (putO env o.dst v) (updO loc upd) with
            | none => simp [hr] at h
            | some x =>
              obtain ⟨e, lo, fps'⟩ := x
              simp only [hr, Option.some.injEq, Prod.mk.injEq] at h
              obtain ⟨rfl, rfl, rfl⟩ := h
              exact fin _ _ _ ⟨hd, .inr ⟨hw, v, upd, rd, hop, fun p hp => by simpa using List.all_eq_true.1 hu p hp, rfl, rfl, rfl⟩⟩ ⟨fps', hr, rfl⟩

/-- Behind the last operation below k that is in S and writes. -/
def lw (S W : Nat → Bool) : Nat → Nat
  | 0 => 0
  | k + 1 => if (S k && W k) = true then k + 1 else lw S W k
theorem lw_congr {S W S' W' : Nat → Bool} : ∀ {k : Nat}, (∀ j, j < k → (S j && W j) = (S' j && W' j)) → lw S W k = lw S' W' k
  | 0, _ => rfl
  | k + 1, h => by simp only [lw]; rw [h k (by omega), lw_congr fun j hj => h j (by omega)]
theorem lw_below {S W : Nat → Bool} {i : Nat} : ∀ {k : Nat}, i ≤ k → (∀ j, i ≤ j → j < k → (S j && W j) = false) → lw S W k = lw S W i
  | 0, h, _ => by have : i = 0 := by omega
                  rw [this]
  | k + 1, h, hf => by
    rcases Nat.lt_or_ge i (k + 1) with h1 | h1
    · simp only [lw]
      rw [hf k (by omega) (by omega), if_neg (by simp), lw_below (by omega) fun j h2 h3 => hf j h2 (by omega)]
    · have : i = k + 1 := by omega
      rw [this]
theorem lw_top {S W : Nat → Bool} {i k : Nat} (hi : i < k) (h : (S i && W i) = true) (hf : ∀ j, i < j → j < k → (S j && W j) = false) : lw S W k = i + 1 := by
  rw [lw_below (i := i + 1) (by omega) (fun j h1 h2 => hf j (by omega) h2)]
  simp only [lw, h, if_true]
theorem lw_zero {S W : Nat → Bool} {k : Nat} (hf : ∀ j, j < k → (S j && W j) = false) : lw S W k = 0 := by
  rw [lw_below (i := 0) (by omega) (fun j _ h => hf j h)]; rfl
/-- A value that only the writers turn, at the last writer. -/
theorem lw_value {γ : Type} {f : Nat → γ} {W : Nat → Bool} {n : Nat} (h : ∀ j, j < n → W j = false → f (j + 1) = f j) : ∀ k, k ≤ n → f k = f (lw (fun _ => true) W k)
  | 0, _ => rfl
  | k + 1, hk => by
    simp only [lw, Bool.true_and]
    by_cases hw : W k = true
    · rw [if_pos hw]
    · rw [if_neg hw, h k (by omega) (by simpa using hw)]
      exact lw_value h k (by omega)
/-! ### bits -/
theorem mask_bit {acc : List Nat} {i : Nat} : ∀ {es : List Edge}, (mask acc es).testBit i = true → ∃ e ∈ es, Region.binds .any e = true ∧ (e.on = i ∨ (acc.getD e.on 0).testBit i = true)
  | [], h => by simp [mask] at h
  | e :: r, h => by
    simp only [mask] at h
    split at h
    · rename_i hb
      simp only [Nat.testBit_or, Bool.or_eq_true] at h
      rcases h with (h | h) | h
      · rw [Nat.testBit_two_pow] at h
        exact ⟨e, List.mem_cons_self, hb, .inl (by simpa using h)⟩
      · exact ⟨e, List.mem_cons_self, hb, .inr h⟩
      · obtain ⟨e', h1, h2⟩ := mask_bit h
        exact ⟨e', List.mem_cons_of_mem _ h1, h2⟩
    · obtain ⟨e', h1, h2⟩ := mask_bit h
      exact ⟨e', List.mem_cons_of_mem _ h1, h2⟩
theorem befs_prefix : ∀ (l : List Oper) (acc : List Nat), ∃ t, befs acc l = acc ++ t ∧ t.length = l.length
  | [], acc => ⟨[], by simp [befs], rfl⟩
  | o :: l, acc => by
    obtain ⟨t, h1, h2⟩ := befs_prefix l (acc ++ [mask acc o.after.toList])
    exact ⟨mask acc o.after.toList :: t, by rw [befs, h1]; simp, by simp [h2]⟩
theorem befs_get : ∀ (l : List Oper) (acc : List Nat) (j : Nat) (o : Oper), l[j]? = some o → (befs acc l).getD (acc.length + j) 0 = mask ((befs acc l).take (acc.length + j)) o.after.toList
  | [], _, _, _, h => by simp at h
  | x :: l, acc, j, o, h => by
    cases j with
    | zero =>
      simp only [List.getElem?_cons_zero, Option.some.injEq] at h
      subst h
      obtain ⟨t, h1, h2⟩ := befs_prefix l (acc ++ [mask acc x.after.toList])
      rw [befs, h1]
      simp [List.getD]
    | succ j =>
      have := befs_get l (acc ++ [mask acc x.after.toList]) j o (by simpa using h)
      rw [befs]
      simp only [List.length_append, List.length_cons, List.length_nil] at this
      have e : acc.length + (j + 1) = acc.length + (0 + 1) + j := by omega
      rw [e]
      exact this
theorem bef_bit {all : Array Oper} {j i : Nat} {o : Oper} (ho : all[j]? = some o) (h : ((befs [] all.toList).getD j 0).testBit i = true) :
    ∃ e ∈ o.after.toList, Region.binds .any e = true ∧ (e.on = i ∨ ((befs [] all.toList).getD e.on 0).testBit i = true) := by
  have := befs_get all.toList [] j o (by simpa using ho)
  simp only [List.length_nil, Nat.zero_add] at this
  rw [this] at h
  obtain ⟨e, h1, h2, h3⟩ := mask_bit h
  refine ⟨e, h1, h2, h3.imp id fun h4 => ?_⟩
  simp only [List.getD, List.getElem?_take] at h4 ⊢
  split at h4
  · exact h4
  · simp at h4
theorem back_edge : ∀ {l : List Oper} {n : Nat}, backOk n l = true → ∀ {j : Nat} {o : Oper}, l[j]? = some o → ∀ e ∈ o.after.toList, Region.binds .any e = true → e.on < n + j
  | [], _, _, _, _, h, _, _, _ => by simp at h
  | x :: l, n, hb, j, o, h, e, he, hbind => by
    simp only [backOk, Bool.and_eq_true] at hb
    cases j with
    | zero =>
      simp only [List.getElem?_cons_zero, Option.some.injEq] at h
      subst h
      have := List.all_eq_true.1 hb.1 e he
      rw [hbind] at this
      simpa using this
    | succ j =>
      have := back_edge hb.2 (j := j) (o := o) (by simpa using h) e he hbind
      omega
theorem feet_get {all : Array Oper} : ∀ {l : List Oper} {fps : List (List Nat × List Nat)}, fps.length = l.length → ∀ {j : Nat} {o : Oper} {fp : List Nat × List Nat}, l[j]? = some o → fps[j]? = some fp → (feet all l fps)[j]? = some (foot all o fp)
  | [], _, _, _, _, _, h, _ => by simp at h
  | x :: l, [], h, _, _, _, _, _ => by simp at h
  | x :: l, y :: fps, hl, j, o, fp, h1, h2 => by
    cases j with
    | zero => simp at h1 h2; subst h1 h2; rfl
    | succ j => exact feet_get (l := l) (by simpa using hl) (by simpa using h1) (by simpa using h2)
theorem feet_len {all : Array Oper} : ∀ {l : List Oper} {fps : List (List Nat × List Nat)}, fps.length = l.length → (feet all l fps).length = l.length
  | [], fps, _ => by cases fps <;> rfl
  | x :: l, [], h => by simp at h
  | x :: l, y :: fps, hl => by simp [feet, feet_len (l := l) (by simpa using hl)]
theorem apart_no {a b : List Nat} (h : apart a b = true) {x : Nat} (ha : x ∈ a) : x ∉ b := by
  have := List.all_eq_true.1 h x ha
  simpa using this
theorem updL_key : ∀ (u : List (Nat × O)) (l1 l2 : Look) {id : Nat}, id ∈ u.map (·.1) → updL l1 u id = updL l2 u id
  | [], _, _, _, h => by simp at h
  | (j, o) :: r, l1, l2, id, h => by
    simp only [updL]
    by_cases hr : id ∈ r.map (·.1)
    · exact updL_key r _ _ hr
    · have : id = j := by simpa [hr] using h
      subst this
      have hn : ∀ p ∈ r, p.1 ≠ id := fun p hp e => hr (List.mem_map.2 ⟨p, hp, e⟩)
      rw [updL_notin r _ hn, updL_notin r _ hn, upd1_self, upd1_self]
theorem lk_holes (loc : List O) (n : Nat) : lk (loc ++ holes n) = lk loc := by
  funext id
  unfold lk holes
  rcases Nat.lt_or_ge id loc.length with h | h
  · rw [List.getElem?_append_left h]
  · rw [List.getElem?_append_right h, List.getElem?_eq_none h, List.getElem?_replicate]
    by_cases hn : id - loc.length < n
    · rw [if_pos hn]
    · rw [if_neg hn]
section
variable {P : Program}
theorem wanted_at {all : Array Oper} {env : Env} {o : Oper} {b : Bool} {w : World} {F : Nat → Prop} {β : Int → Nat} {look : Look} {a : Act} (hE : ∀ t ∈ seen all o, RVs w F β look (a.tmps.getD t undef) (gt env t)) (h : wantedA all env o.guard = some b) : Region.wanted o (yielded all a.tmps) = b := by
  unfold wantedA at h
  unfold Region.wanted
  cases hg : o.guard with
  | none => rw [hg] at h; simpa using h
  | some p =>
    obtain ⟨j, want⟩ := p
    rw [hg] at h
    dsimp only at h ⊢
    cases hj : all[j]? with
    | none => simp [hj] at h
    | some oj =>
      simp only [hj] at h
      cases hd : oj.dst with
      | none => simp [hd] at h
      | some t =>
        simp only [hd] at h
        split at h
        · rename_i c hc
          simp only [Option.some.injEq] at h
          subst h
          have h1 := hE t (by unfold seen; rw [hg]; simp [hj, hd])
          rw [hc] at h1
          have h2 : a.tmps.getD t undef = .bool c := (rv_v h1).1
          have h3 : a.tmps[t]? = some (.bool c) := by
            rw [Array.getD_eq_getD_getElem?] at h2
            cases h4 : a.tmps[t]? with
            | none => rw [h4] at h2; cases h2
            | some y => rw [h4] at h2; simp at h2; rw [h2]
          have h5 : yielded all a.tmps j = some c := by
            unfold yielded
            rw [hj]
            simp only [Option.bind_some, hd, h3]
          rw [h5]
          cases c <;> cases want <;> rfl
        · rename_i hc
          simp only [Option.some.injEq] at h
          subst h
          have h1 := hE t (by unfold seen; rw [hg]; simp [hj, hd])
          rw [hc] at h1
          obtain ⟨u, h2, _⟩ := h1
          have h5 : yielded all a.tmps j = none := by
            unfold yielded
            rw [hj]
            simp only [Option.bind_some, hd]
            rw [Array.getD_eq_getD_getElem?] at h2
            cases h4 : a.tmps[t]? with
            | none => rfl
            | some y => rw [h4] at h2; simp at h2; rw [h2]
          rw [h5]
          rfl
        · cases h
theorem draw_ok (hN : Named P) {rec : Rec} (hrec : RecOK P rec) {w : World} {F : Nat → Prop} {β : Int → Nat} {loc loc' : List O} {env env' : Env} {fps : List (List Nat × List Nat)} {all : Array Oper} {nt : Nat} (hS : Sim w F β (lk loc)) {a : Act} (hE : EnvR w F β (lk loc) a.tmps env) (ha : a.tmps.size = nt) (hd : a.defers = [])
    (h : drawA P rec nt all loc.length all.toList 0 env (loc ++ holes all.size) = some (env', loc', fps)) (hok : drawOk all fps = true) {Q : Exit → Act → World → Prop}
    (hq : ∀ a' w' β', Sim w' F β' (lk loc') → EnvR w' F β' (lk loc') a'.tmps env' → St (fun _ => True) w β (lk loc) w' β' (lk loc') → a'.tmps.size = nt → a'.defers = [] → Q .normal a' w') :
    wpAny P .any all Q all.size (Array.replicate all.size false) a w := by
  obtain ⟨E, L, hE0, hL0, hEn, hLn, hfl, hdid⟩ := trace all.toList 0 env (loc ++ holes all.size) h
  simp only [Array.length_toList] at hEn hLn hfl
  generalize hn : all.size = n at *
  have hdid' : ∀ j o, all[j]? = some o → ∃ fp, fps[j]? = some fp ∧ Did P rec nt all (loc.length + j) o (E j) (E (j + 1)) (L j) (L (j + 1)) fp := by
    intro j o hj
    obtain ⟨fp, h1, h2⟩ := hdid j o (by simpa using hj)
    rw [Nat.zero_add] at h2
    exact ⟨fp, h1, h2⟩
  unfold drawOk at hok
  simp only [Bool.and_eq_true] at hok
  obtain ⟨hback, hfree⟩ := hok
  generalize hX : feet all all.toList fps = X at hfree
  generalize hB : befs [] all.toList = B at hfree
  have hXl : X.length = n := by rw [← hX, feet_len (by simp [hfl, hn])]; simp [hn]
  have hXg : ∀ (j : Nat) (o : Oper) (fp : List Nat × List Nat), all[j]? = some o → fps[j]? = some fp → X[j]? = some (foot all o fp) := by
    intro j o fp h1 h2
    rw [← hX]
    exact feet_get (by simp [hfl, hn]) (by simpa using h1) h2
  have hops : ∀ j, j < n → ∃ o, all[j]? = some o := by
    intro j hj
    exact ⟨all[j]'(by omega), by simp [hn, hj]⟩
  have hlt : ∀ {j : Nat} {o : Oper}, all[j]? = some o → j < n := by
    intro j o hj
    rcases Nat.lt_or_ge j n with h | h
    · exact h
    · rw [Array.getElem?_eq_none (by omega)] at hj; cases hj
  -- two operations: in order, or apart
  have hpair : ∀ i j x y, i < j → X[i]? = some x → X[j]? = some y → (B.getD j 0).testBit i = true ∨ free2 x y = true := by
    intro i j x y hij hi hj
    unfold freeAll at hfree
    have hjl : j < X.length := by
      rcases Nat.lt_or_ge j X.length with h | h
      · exact h
      · rw [List.getElem?_eq_none h] at hj; cases hj
    have := List.all_eq_true.1 (List.all_eq_true.1 hfree j (List.mem_range.2 hjl)) i (List.mem_range.2 hij)
    rw [hi, hj] at this
    simpa using this
  -- footprints
  let dstOf : Nat → List Nat := fun j => ((X[j]?).map (·.dst)).getD []
  let wrOf : Nat → List Nat := fun j => ((X[j]?).map (·.wr)).getD []
  let Wt : Nat → Nat → Bool := fun t j => (dstOf j).contains t
  let Wi : Nat → Nat → Bool := fun id j => (wrOf j).contains id
  have hEstep : ∀ t j, j < n → Wt t j = false → gt (E (j + 1)) t = gt (E j) t := by
    intro t j hj hw
    obtain ⟨o, ho⟩ := hops j hj
    obtain ⟨fp, hf, _, hdo⟩ := hdid' j o ho
    have hx := hXg j o fp ho hf
    have hne : o.dst ≠ some t := by
      intro e
      simp [Wt, dstOf, hx, foot, e] at hw
    have hput : ∀ v, gt (putO (E j) o.dst v) t = gt (E j) t := by
      intro v
      cases hd : o.dst with
      | none => rfl
      | some d =>
        simp only [putO, gt_pt]
        rw [if_neg (fun e => hne (by rw [hd, e]))]
    rcases hdo with ⟨_, h1, _, _⟩ | ⟨_, v, upd, rd, _, _, h1, _, _⟩
    · rw [h1]; exact hput _
    · rw [h1]; exact hput _
  have hLstep : ∀ id j, j < n → Wi id j = false → lk (L (j + 1)) id = lk (L j) id := by
    intro id j hj hw
    obtain ⟨o, ho⟩ := hops j hj
    obtain ⟨fp, hf, _, hdo⟩ := hdid' j o ho
    have hx := hXg j o fp ho hf
    rcases hdo with ⟨_, _, h1, _⟩ | ⟨_, v, upd, rd, _, _, _, h1, h2⟩
    · rw [h1]
    · rw [h1, lk_updO]
      apply updL_notin
      intro p hp e
      subst h2
      have : p.1 ∈ upd.map (·.1) := List.mem_map.2 ⟨p, hp, rfl⟩
      rw [e] at this
      have hmem : id ∈ (foot all o (rd, (loc.length + j) :: upd.map (·.1))).wr := List.mem_cons_of_mem _ this
      simp only [Wi, wrOf, hx, Option.map_some, Option.getD_some] at hw
      have hc : (foot all o (rd, (loc.length + j) :: upd.map (·.1))).wr.contains id = true := by simpa using hmem
      rw [hc] at hw; cases hw
  have hEval : ∀ t k, k ≤ n → gt (E k) t = gt (E (lw (fun _ => true) (Wt t) k)) t := fun t k hk => lw_value (f := fun k => gt (E k) t) (hEstep t) k hk
  have hLval : ∀ id k, k ≤ n → lk (L k) id = lk (L (lw (fun _ => true) (Wi id) k)) id := fun id k hk => lw_value (f := fun k => lk (L k) id) (hLstep id) k hk
  -- writers of a slot that is new
  have hwrLe : ∀ j id, j < n → id ∈ wrOf j → id ≤ loc.length + j := by
    intro j id hj hid
    obtain ⟨o, ho⟩ := hops j hj
    obtain ⟨fp, hf, _, hdo⟩ := hdid' j o ho
    have hx := hXg j o fp ho hf
    simp only [wrOf, hx, foot, Option.map_some, Option.getD_some] at hid
    rcases hdo with ⟨_, _, _, rfl⟩ | ⟨_, v, upd, rd, _, hle, _, _, rfl⟩
    · simp at hid; omega
    · simp only [List.mem_cons] at hid
      rcases hid with rfl | hid
      · exact Nat.le_refl _
      · obtain ⟨p, hp, rfl⟩ := List.mem_map.1 hid
        exact hle p hp
  have hL0n : ∀ i, lk (L 0) (loc.length + i) = none := by
    intro i
    rw [hL0, lk_holes]
    simp [lk]
  have hslotL : ∀ i, i < n → lk (L i) (loc.length + i) = none := by
    intro i hi
    rw [hLval _ i (by omega), lw_zero, hL0n]
    intro j hj
    have : Wi (loc.length + i) j = false := by
      cases hw : Wi (loc.length + i) j with
      | false => rfl
      | true =>
        have := hwrLe j (loc.length + i) (by omega) (by simpa [Wi] using hw)
        omega
    rw [this, Bool.and_false]
  -- the induction
  let SS : Array Bool → Nat → Bool := fun listed j => listed.getD j false
  let envS : (Nat → Bool) → Nat → V := fun S t => gt (E (lw S (Wt t) n)) t
  let lookS : (Nat → Bool) → Look := fun S id => lk (L (lw S (Wi id) n)) id
  have hlookH : ∀ S, NoHole (lookS S) := fun S id h => noHole_lk _ id h
  have main : ∀ (fuel : Nat) (listed : Array Bool) (a : Act) (w1 : World) (β1 : Int → Nat), listed.size = n → ((List.range n).filter fun j => !SS listed j).length ≤ fuel →
      (∀ j, j < n → SS listed j = true → ∀ i, (B.getD j 0).testBit i = true → SS listed i = true) →
      Sim w1 F β1 (lookS (SS listed)) → (∀ t, RVs w1 F β1 (lookS (SS listed)) (a.tmps.getD t undef) (envS (SS listed) t)) → a.tmps.size = nt → a.defers = [] → St (fun _ => True) w β (lk loc) w1 β1 (lookS (SS listed)) →
      wpAny P .any all Q fuel listed a w1 := by
    intro fuel
    -- when all are listed
    have final : ∀ (listed : Array Bool) (a : Act) (w1 : World) (β1 : Int → Nat), listed.size = n → (∀ j, j < n → SS listed j = true) → Sim w1 F β1 (lookS (SS listed)) → (∀ t, RVs w1 F β1 (lookS (SS listed)) (a.tmps.getD t undef) (envS (SS listed) t)) → a.tmps.size = nt → a.defers = [] → St (fun _ => True) w β (lk loc) w1 β1 (lookS (SS listed)) → Q .normal a w1 := by
      intro listed a w1 β1 hls hall h1 h2 h3 h4 h5
      have e1 : lookS (SS listed) = lk loc' := by
        funext id
        show lk (L (lw (SS listed) (Wi id) n)) id = _
        rw [← hLn, hLval id n (Nat.le_refl _)]
        rw [lw_congr fun j hj => by rw [hall j hj]]
      have e2 : ∀ t, envS (SS listed) t = gt env' t := by
        intro t
        show gt (E (lw (SS listed) (Wt t) n)) t = _
        rw [← hEn, hEval t n (Nat.le_refl _)]
        rw [lw_congr fun j hj => by rw [hall j hj]]
      rw [e1] at h1 h5
      refine hq a w1 β1 h1 (fun t => ?_) h5 h3 h4
      have := h2 t
      rw [e1, e2] at this
      exact this
    have noReady : ∀ listed : Array Bool, listed.size = n → Region.ready .any all listed = [] → ∀ j, j < n → SS listed j = true := by
      intro listed hls hr
      have key : ∀ j, j < n → (∀ i, i < j → SS listed i = true) → SS listed j = true := by
        intro j hj hbelow
        cases hs : SS listed j with
        | true => rfl
        | false =>
          exfalso
          obtain ⟨o, ho⟩ := hops j hj
          have : j ∈ Region.ready .any all listed := by
            unfold Region.ready
            rw [List.mem_filter]
            refine ⟨List.mem_range.2 (by omega), ?_⟩
            have h1 : listed.getD j true = false := by
              have : listed.getD j false = false := hs
              simp only [Array.getD_eq_getD_getElem?] at this ⊢
              rw [Array.getElem?_eq_getElem (by omega)] at this ⊢
              simpa using this
            rw [h1, ho]
            simp only [Bool.not_false, Option.map_some, Option.getD_some, Bool.true_and]
            rw [Array.all_eq_true_iff_forall_mem]
            intro e he
            cases hb : Region.binds .any e with
            | false => rfl
            | true =>
              have := back_edge hback (j := j) (o := o) (by simpa using ho) e (by simpa using he) hb
              have := hbelow e.on (by omega)
              simpa [SS] using this
          rw [hr] at this
          simp at this
      intro j
      induction j using Nat.strongRecOn with
      | _ j ih => exact fun hj => key j hj fun i hi => ih i hi (by omega)
    induction fuel with
    | zero =>
      intro listed a w1 β1 hls hc hdc h1 h2 h3 h4 h5
      have hall : ∀ j, j < n → SS listed j = true := by
        intro j hj
        cases hs : SS listed j with
        | true => rfl
        | false =>
          have : j ∈ (List.range n).filter fun j => !SS listed j := List.mem_filter.2 ⟨List.mem_range.2 hj, by simp [hs]⟩
          have hnil : ((List.range n).filter fun j => !SS listed j) = [] := List.eq_nil_of_length_eq_zero (by omega)
          rw [hnil] at this
          simp at this
      refine ⟨?_, final listed a w1 β1 hls hall h1 h2 h3 h4 h5⟩
      unfold Region.ready
      rw [List.filter_eq_nil_iff]
      intro j hj
      have hj' := List.mem_range.1 hj
      have := hall j (by omega)
      have h1 : listed.getD j true = true := by
        have : listed.getD j false = true := this
        simp only [Array.getD_eq_getD_getElem?] at this ⊢
        rw [Array.getElem?_eq_getElem (by omega)] at this ⊢
        simpa using this
      rw [h1]
      simp
    | succ fuel ih =>
      intro listed a w1 β1 hls hc hdc h1 h2 h3 h4 h5
      refine ⟨fun hr => final listed a w1 β1 hls (noReady listed hls hr) h1 h2 h3 h4 h5, fun i hi => ?_⟩
      -- operation i, which may go next
      unfold Region.ready at hi
      rw [List.mem_filter] at hi
      obtain ⟨hir, hi2⟩ := hi
      have hin : i < n := by have := List.mem_range.1 hir; omega
      obtain ⟨o, ho⟩ := hops i hin
      simp only [ho, Option.map_some, Option.getD_some, Bool.and_eq_true, Bool.not_eq_true'] at hi2
      obtain ⟨hnl, hpre⟩ := hi2
      have hSi : SS listed i = false := by
        show listed.getD i false = false
        simp only [Array.getD_eq_getD_getElem?] at hnl ⊢
        rw [Array.getElem?_eq_getElem (by omega)] at hnl ⊢
        simpa using hnl
      have hpre' : ∀ e ∈ o.after.toList, Region.binds .any e = true → SS listed e.on = true := by
        intro e he hb
        have := Array.all_eq_true_iff_forall_mem.1 hpre e (by simpa using he)
        rw [hb] at this
        simpa [SS] using this
      have hbits : ∀ j, (B.getD i 0).testBit j = true → SS listed j = true := by
        intro j hb
        rw [← hB] at hb
        obtain ⟨e, p1, p2, p3⟩ := bef_bit ho hb
        have hon := hpre' e p1 p2
        rcases p3 with rfl | p3
        · exact hon
        · rw [hB] at p3
          have hlt' := back_edge hback (j := i) (o := o) (by simpa using ho) e p1 p2
          exact hdc e.on (by omega) hon j p3
      obtain ⟨fp, hfp, hdst, hdo⟩ := hdid' i o ho
      have hx := hXg i o fp ho hfp
      -- what conflicts with i is before it and listed, or behind it and not
      have conflict : ∀ j y, j < n → X[j]? = some y → j ≠ i → (j < i → free2 y (foot all o fp) = false) → (i < j → free2 (foot all o fp) y = false) → SS listed j = decide (j < i) := by
        intro j y hj hy hne h1 h2
        rcases Nat.lt_or_gt_of_ne hne with hlt | hgt
        · rcases hpair j i y _ hlt hy hx with hb | hf
          · rw [hbits j hb]; simp [hlt]
          · rw [h1 hlt] at hf; cases hf
        · rcases hpair i j _ y hgt hx hy with hb | hf
          · have : SS listed j ≠ true := by
              intro hs
              have := hdc j hj hs i hb
              rw [hSi] at this; cases this
            have hnd : decide (j < i) = false := by simp; omega
            rw [hnd]
            simpa using this
          · rw [h2 hgt] at hf; cases hf
      have notFree : ∀ {x y : Foot} {l1 l2 : List Nat} {z : Nat}, z ∈ l1 → z ∈ l2 → apart l1 l2 = true → False := by
        intro x y l1 l2 z h1 h2 h3
        exact apart_no h3 h1 h2
      have dst_of : ∀ j t, Wt t j = true → ∃ y, X[j]? = some y ∧ t ∈ y.dst := by
        intro j t hw
        simp only [Wt, dstOf] at hw
        cases hy : X[j]? with
        | none => simp [hy] at hw
        | some y => exact ⟨y, rfl, by simpa [hy] using hw⟩
      have wr_of : ∀ j id, Wi id j = true → ∃ y, X[j]? = some y ∧ id ∈ y.wr := by
        intro j id hw
        simp only [Wi, wrOf] at hw
        cases hy : X[j]? with
        | none => simp [hy] at hw
        | some y => exact ⟨y, rfl, by simpa [hy] using hw⟩
      have agree : ∀ (W : Nat → Bool), (∀ j, j < n → j ≠ i → W j = true → SS listed j = decide (j < i)) → lw (SS listed) W n = lw (fun _ => true) W i := by
        intro W hW
        have e1 : lw (SS listed) W n = lw (fun j => decide (j < i)) W n := by
          apply lw_congr
          intro j hj
          by_cases hji : j = i
          · subst hji; rw [hSi]; simp
          · cases hw : W j with
            | false => simp
            | true => rw [hW j hj hji hw]
        rw [e1, lw_below (i := i) (by omega) (fun j h1 _ => by
          have : decide (j < i) = false := by simp; omega
          rw [this, Bool.false_and])]
        apply lw_congr
        intro j hj
        simp [hj]
      have envA : ∀ t ∈ seen all o, envS (SS listed) t = gt (E i) t := by
        intro t ht
        show gt (E (lw (SS listed) (Wt t) n)) t = _
        rw [agree (Wt t), ← hEval t i (by omega)]
        intro j hj hne hw
        obtain ⟨y, hy, hty⟩ := dst_of j t hw
        refine conflict j y hj hy hne (fun _ => ?_) (fun _ => ?_)
        · cases hf : free2 y (foot all o fp) with
          | false => rfl
          | true =>
            simp only [free2, Bool.and_eq_true] at hf
            exact absurd ht (apart_no hf.1.1.1.1.1 hty)
        · cases hf : free2 (foot all o fp) y with
          | false => rfl
          | true =>
            simp only [free2, Bool.and_eq_true] at hf
            exact absurd ht (apart_no hf.1.1.1.1.2 hty)
      have lookA : ∀ id ∈ fp.1, lookS (SS listed) id = lk (L i) id := by
        intro id hid
        show lk (L (lw (SS listed) (Wi id) n)) id = _
        rw [agree (Wi id), ← hLval id i (by omega)]
        intro j hj hne hw
        obtain ⟨y, hy, hty⟩ := wr_of j id hw
        refine conflict j y hj hy hne (fun _ => ?_) (fun _ => ?_)
        · cases hf : free2 y (foot all o fp) with
          | false => rfl
          | true =>
            simp only [free2, Bool.and_eq_true] at hf
            exact absurd hid (apart_no hf.1.1.2 hty)
        · cases hf : free2 (foot all o fp) y with
          | false => rfl
          | true =>
            simp only [free2, Bool.and_eq_true] at hf
            exact absurd hid (apart_no hf.1.2 hty)
      have slotW : (loc.length + i) ∈ fp.2 := by
        rcases hdo with ⟨_, _, _, rfl⟩ | ⟨_, v, upd, rd, _, _, _, _, rfl⟩ <;> simp
      have wrBehind : ∀ id ∈ fp.2, ∀ j, i < j → j < n → Wi id j = true → SS listed j = false := by
        intro id hid j hij hj hw
        obtain ⟨y, hy, hty⟩ := wr_of j id hw
        have := conflict j y hj hy (by omega) (fun h => by omega) (fun _ => by
          cases hf : free2 (foot all o fp) y with
          | false => rfl
          | true =>
            simp only [free2, Bool.and_eq_true] at hf
            exact absurd hty (apart_no hf.2 hid))
        rw [this]; simp; omega
      have slotS : lookS (SS listed) (loc.length + i) = none := by
        show lk (L (lw (SS listed) (Wi (loc.length + i)) n)) _ = none
        rw [lw_zero, hL0n]
        intro j hj
        cases hw : Wi (loc.length + i) j with
        | false => simp
        | true =>
          have hle := hwrLe j (loc.length + i) hj (by simpa [Wi] using hw)
          by_cases hji : j = i
          · subst hji; rw [hSi]; rfl
          · rw [wrBehind _ slotW j (by omega) hj hw]; rfl
      -- the state behind
      have hSS' : ∀ j, SS (listed.setIfInBounds i true) j = (SS listed j || decide (j = i)) := by
        intro j
        show (listed.setIfInBounds i true).getD j false = _
        simp only [Array.getD_eq_getD_getElem?, Array.getElem?_setIfInBounds, SS]
        by_cases hji : i = j
        · subst hji; simp [hls, hin]
        · rw [if_neg hji]
          have : decide (j = i) = false := by simp; omega
          rw [this, Bool.or_false]
      have lwIn : ∀ W : Nat → Bool, W i = true → (∀ j, i < j → j < n → W j = true → SS listed j = false) → lw (SS (listed.setIfInBounds i true)) W n = i + 1 := by
        intro W hw hb
        refine lw_top hin (by rw [hSS', hw]; simp) (fun j h1 h2 => ?_)
        rw [hSS']
        have : decide (j = i) = false := by simp; omega
        rw [this, Bool.or_false]
        cases hwj : W j with
        | false => simp
        | true => rw [hb j h1 h2 hwj]; rfl
      have lwOut : ∀ W : Nat → Bool, W i = false → lw (SS (listed.setIfInBounds i true)) W n = lw (SS listed) W n := by
        intro W hw
        apply lw_congr
        intro j hj
        rw [hSS']
        by_cases hji : j = i
        · subst hji; rw [hw]; simp
        · have : decide (j = i) = false := by simp [hji]
          rw [this, Bool.or_false]
      have dstBehind : ∀ t, o.dst = some t → ∀ j, i < j → j < n → Wt t j = true → SS listed j = false := by
        intro t ht j hij hj hw
        obtain ⟨y, hy, hty⟩ := dst_of j t hw
        have := conflict j y hj hy (by omega) (fun h => by omega) (fun _ => by
          cases hf : free2 (foot all o fp) y with
          | false => rfl
          | true =>
            simp only [free2, Bool.and_eq_true] at hf
            exact absurd hty (apart_no hf.1.1.1.2 (by simp [foot, ht])))
        rw [this]; simp; omega
      have WtI : ∀ t, Wt t i = true ↔ o.dst = some t := by
        intro t
        simp only [Wt, dstOf, hx, foot, Option.map_some, Option.getD_some]
        cases o.dst <;> simp [eq_comm]
      have env' : ∀ t, envS (SS (listed.setIfInBounds i true)) t = if o.dst = some t then gt (E (i + 1)) t else envS (SS listed) t := by
        intro t
        show gt (E (lw (SS (listed.setIfInBounds i true)) (Wt t) n)) t = _
        by_cases ht : o.dst = some t
        · rw [if_pos ht, lwIn _ ((WtI t).2 ht) (dstBehind t ht)]
        · rw [if_neg ht, lwOut]
          cases hw : Wt t i with
          | false => rfl
          | true => exact absurd ((WtI t).1 hw) ht
      have WiI : ∀ id, Wi id i = true ↔ id ∈ fp.2 := by
        intro id
        simp [Wi, wrOf, hx, foot]
      have look' : ∀ id, lookS (SS (listed.setIfInBounds i true)) id = if id ∈ fp.2 then lk (L (i + 1)) id else lookS (SS listed) id := by
        intro id
        show lk (L (lw (SS (listed.setIfInBounds i true)) (Wi id) n)) id = _
        by_cases hid : id ∈ fp.2
        · rw [if_pos hid, lwIn _ ((WiI id).2 hid) (wrBehind id hid)]
        · rw [if_neg hid, lwOut]
          cases hw : Wi id i with
          | false => rfl
          | true => exact absurd ((WiI id).1 hw) hid
      have hcnt : ((List.range n).filter fun j => !SS (listed.setIfInBounds i true) j).length ≤ fuel := by
        have hmem : i ∈ (List.range n).filter fun j => !SS listed j := List.mem_filter.2 ⟨List.mem_range.2 hin, by simp [hSi]⟩
        have e1 : ((List.range n).filter fun j => !SS (listed.setIfInBounds i true) j) = ((List.range n).filter fun j => !SS listed j).erase i := by
          rw [((List.nodup_range).sublist List.filter_sublist).erase_eq_filter, List.filter_filter]
          apply List.filter_congr
          intro j _
          rw [hSS']
          by_cases hji : j = i
          · simp [hji]
          · simp [hji]
        rw [e1, List.length_erase_of_mem hmem]
        omega
      have hdc' : ∀ j, j < n → SS (listed.setIfInBounds i true) j = true → ∀ k, (B.getD j 0).testBit k = true → SS (listed.setIfInBounds i true) k = true := by
        intro j hj hs k hb
        rw [hSS'] at hs ⊢
        simp only [Bool.or_eq_true, decide_eq_true_eq] at hs ⊢
        rcases hs with hs | rfl
        · exact .inl (hdc j hj hs k hb)
        · exact .inl (hbits k hb)
      have hseenE : ∀ t ∈ seen all o, RVs w1 F β1 (lookS (SS listed)) (a.tmps.getD t undef) (gt (E i) t) := by
        intro t ht
        rw [← envA t ht]
        exact h2 t
      unfold wpOp
      rw [ho]
      dsimp only
      have putE : ∀ {w2 : World} {β2 : Int → Nat} {x : Value} {v : V}, Sim w2 F β2 (lookS (SS (listed.setIfInBounds i true))) → St (fun _ => True) w1 β1 (lookS (SS listed)) w2 β2 (lookS (SS (listed.setIfInBounds i true))) → RVs w2 F β2 (lookS (SS (listed.setIfInBounds i true))) x v → E (i + 1) = putO (E i) o.dst v →
          ∀ t, RVs w2 F β2 (lookS (SS (listed.setIfInBounds i true))) ((a.put o.dst x).tmps.getD t undef) (envS (SS (listed.setIfInBounds i true)) t) := by
        intro w2 β2 x v g1 g2 g3 g4 t
        rw [env' t]
        by_cases ht : o.dst = some t
        · rw [if_pos ht, g4, ht]
          have hlt' : t < a.tmps.size := by rw [h3]; rw [ht] at hdst; simpa [dstOk] using hdst
          simp only [putO, gt_pt, if_true, Act.put]
          have e1 : (a.tmps.setIfInBounds t x).getD t undef = x := by simp [Array.getD, hlt']
          rw [e1]
          exact g3
        · rw [if_neg ht]
          have e1 : (a.put o.dst x).tmps.getD t undef = a.tmps.getD t undef := by
            cases hd : o.dst with
            | none => rfl
            | some d =>
              simp only [Act.put, Array.getD_eq_getD_getElem?, Array.getElem?_setIfInBounds]
              rw [if_neg (fun e => ht (by rw [hd, e]))]
          rw [e1]
          exact RV.mono g2.keep g2.ids (h2 t)
      rcases hdo with ⟨hw, hE1, hL1, hfpe⟩ | ⟨hw, v, upd, rd, hop, hle, hE1, hL1, hfpe⟩
      · rw [wanted_at hseenE hw]
        simp only [Bool.false_eq_true, if_false]
        have e1 : lookS (SS (listed.setIfInBounds i true)) = lookS (SS listed) := by
          funext id
          rw [look' id]
          split
          · rename_i hid
            rw [hfpe] at hid
            simp at hid
            subst hid
            rw [hL1, hslotL i hin, slotS]
          · rfl
        refine ih (listed.setIfInBounds i true) (a.put o.dst undef) w1 β1 (by simp [hls]) hcnt hdc' (by rw [e1]; exact h1) ?_ (by rw [put_size]; exact h3) (by rw [put_defers]; exact h4) (by rw [e1]; exact h5)
        exact putE (by rw [e1]; exact h1) (by rw [e1]; exact St.refl _ _ _ _) rv_und hE1
      · rw [wanted_at hseenE hw]
        simp only [if_true]
        left
        let ρ' : Operand → V := fun y => match y with | .tmp t => envS (SS listed) t | y => ev [] y
        have hop' : opA P rec (lookS (SS listed)) (loc.length + i) ρ' o.op = some ⟨.val v, upd, rd⟩ := by
          refine opA_congr hop (fun y hy => ?_) (fun id hid => lookA id (by rw [hfpe]; exact hid))
          cases y with
          | tmp t =>
            refine envA t ?_
            unfold seen
            exact List.mem_append_left _ (List.mem_filterMap.2 ⟨.tmp t, hy, rfl⟩)
          | const x => rfl
          | global g => rfl
          | func f => rfl
        have hE' : ∀ y, RVs w1 F β1 (lookS (SS listed)) (a.eval y) (ρ' y) := by
          intro y
          cases y with
          | tmp t => exact h2 t
          | const x => exact ofValue_rep x
          | global g => trivial
          | func f => exact ⟨rfl, by simp⟩
        have hgo := op_goes hN hrec h1 (hlookH _) slotS (a := a) hE' hop' (fun id p1 p2 => by
          obtain ⟨p, hp, rfl⟩ := List.mem_map.1 p2
          have := hle p hp
          have e : p.1 = loc.length + i := by omega
          rw [e]; exact slotS)
        have e1 : lookS (SS (listed.setIfInBounds i true)) = updL (lookS (SS listed)) upd := by
          funext id
          rw [look' id]
          split
          · rename_i hid
            rw [hL1, lk_updO]
            by_cases hk : id ∈ upd.map (·.1)
            · exact updL_key upd _ _ hk
            · have hid' : id = loc.length + i := by
                rw [hfpe] at hid
                rcases List.mem_cons.1 hid with h | h
                · exact h
                · exact absurd h hk
              have hno : ∀ p ∈ upd, p.1 ≠ id := fun p hp e => hk (List.mem_map.2 ⟨p, hp, e⟩)
              rw [updL_notin upd _ hno, updL_notin upd _ hno, hid', hslotL i hin, slotS]
          · rename_i hid
            rw [updL_notin]
            intro p hp e
            exact hid (by rw [hfpe]; exact List.mem_cons_of_mem _ (List.mem_map.2 ⟨p, hp, e⟩))
        refine hgo _ _ fun w2 β2 hg => ?_
        obtain ⟨g1, g2⟩ := hg
        dsimp only at g1 g2
        rw [← e1] at g1 g2
        intro x hxr
        dsimp only at hxr
        rw [← e1] at hxr
        exact ih (listed.setIfInBounds i true) (a.put o.dst x) w2 β2 (by simp [hls]) hcnt hdc' g1 (putE g1 g2 hxr hE1) (by rw [put_size]; exact h3) (by rw [put_defers]; exact h4) (h5.trans g2)
  have hSS0 : ∀ j, SS (Array.replicate n false) j = false := by
    intro j
    show (Array.replicate n false).getD j false = false
    simp [Array.getD_eq_getD_getElem?, Array.getElem?_replicate]
    split <;> rfl
  have e0 : lookS (SS (Array.replicate n false)) = lk loc := by
    funext id
    show lk (L (lw _ (Wi id) n)) id = _
    rw [lw_zero fun j _ => by rw [hSS0]; rfl, hL0, lk_holes]
  refine main n (Array.replicate n false) a w β (by simp) (by have := List.length_filter_le (fun j => !SS (Array.replicate n false) j) (List.range n); simpa using this) (fun j _ hs => by rw [hSS0] at hs; cases hs) (by rw [e0]; exact hS) (fun t => ?_) ha hd (by rw [e0]; exact St.refl _ _ _ _)
  rw [e0]
  show RVs w F β (lk loc) _ (gt (E (lw _ (Wt t) n)) t)
  rw [lw_zero fun j _ => by rw [hSS0]; rfl, hE0]
  exact hE t
end
end Go.Proofs.YteenjodhmppgjaaGreatDoor.Am
end
