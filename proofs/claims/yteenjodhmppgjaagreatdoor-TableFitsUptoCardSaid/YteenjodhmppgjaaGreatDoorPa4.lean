/- Part 4 of the proof of the card of TableFits, second form: no statement of its own; no conditions. -/
import Derived.Test.YteenjodhmppgjaaGreatDoorPa3
import Derived.Test.YteenjodhmppgjaaGreatDoorRows
import Derived.ChangeShapes
import Derived.RowKit3
import Derived.RowKit
import Derived.ChangeSame
import Derived.WalkKit
import Derived.LaidEql
import Derived.Stop.Asserts
set_option linter.unusedSimpArgs false
set_option linter.unusedVariables false
set_option linter.defProp false
set_option linter.unusedSectionVars false
section
/- What arguments read as, as data of the other model. -/
namespace Go.Proofs.YteenjodhmppgjaaGreatDoor.Am
open Go Go.ChangeShapes Go.WideShapes
theorem list_of {α : Type} {p : Nat → α → Prop} : ∀ {n : Nat}, (∀ i, i < n → ∃ a, p i a) → ∃ l : List α, l.length = n ∧ ∀ i a, l[i]? = some a → p i a
  | 0, _ => ⟨[], rfl, fun i a h => by simp at h⟩
  | n + 1, h => by
    obtain ⟨l, h1, h2⟩ := list_of (n := n) (fun i hi => h i (by omega))
    obtain ⟨a, ha⟩ := h n (by omega)
    refine ⟨l ++ [a], by simp [h1], fun i b hb => ?_⟩
    by_cases hi : i < l.length
    · rw [List.getElem?_append_left hi] at hb
      exact h2 i b hb
    · rw [List.getElem?_append_right (by omega)] at hb
      have : i = n := by
        rcases Nat.lt_or_ge (i - l.length) 1 with h | h
        · omega
        · rw [List.getElem?_eq_none (by simpa using h)] at hb; cases hb
      subst this
      rw [h1] at hb
      simp at hb
      subst hb
      exact ha
theorem cell?_lt {W : World} {b o : Nat} {v : Value} (h : W.cell? ⟨b, o, none⟩ = some v) : b < W.heap.size := by
  unfold World.cell? at h
  rcases Nat.lt_or_ge b W.heap.size with h' | h'
  · exact h'
  · simp [h'] at h
section
variable {H : Type} {en : TypeId × Value → H} {P : Program} {W : World} {N : Nat → Prop} (hN : ∀ b, b < W.heap.size → N b)
include hN
theorem readSlice {t e : TypeId} {k fuel : Nat} {cs : List Value} {x : DataW H × List MemPlace} (ht : P.underlying t = some (.slice e)) (hc : P.cellsOf e = k) (hk : 0 < k) {α : Type} (encA : α → List D) (henc : ∀ a, (encA a).length = k) (Q : α → DataW H → Prop)
    (h : DataW.trod en P W 0 (fun _ => true) true fuel t cs = some x)
    (hel : ∀ (n : Nat) (cs' : List Value) (y : DataW H × List MemPlace), fuel = n + 1 → DataW.trod en P W 0 (fun _ => true) true n e cs' = some y → ∃ a : α, All2 (RepD W N) cs' (encA a) ∧ Q a y.1) :
    ∃ (z : Bool) (l : List α) (v : Value), cs = [v] ∧ RepD W N v (if z = true ∧ l.map encA = [] then .v (.slice none 0 0) else .s k (l.map encA)) ∧
      ∃ ds : List (DataW H), l.length = ds.length ∧ (∀ (i : Nat) (a : α) (d : DataW H), l[i]? = some a → ds[i]? = some d → Q a d) ∧ Rows.uptoBulkAll ds + 1 ≤ Rows.uptoBulk x.1 := by
  rcases DataW.trod_slice ht h with ⟨rfl, rfl⟩ | ⟨a0, len, cap, elems, rest, n, hfu, rfl, rfl, _, hlc, _, hlen, hel1, _, _⟩
  · refine ⟨true, [], _, rfl, ?_, [], rfl, fun i a d h => by simp at h, by simp [Rows.uptoBulkAll, Rows.uptoBulk]⟩
    rw [if_pos ⟨rfl, rfl⟩]
    exact .v rfl
  · rw [hc] at hel1
    have hp : ∀ i, i < len → ∃ a : α, ∃ csi, W.cells? 0 (a0.add (i * k)) k = some csi ∧ All2 (RepD W N) csi (encA a) ∧ ∃ d, elems[i]? = some d ∧ Q a d.1 := by
      intro i hi
      have h1 := hel1 i hi
      have h2 : elems[i]? = some elems[i] := by simp [hlen, hi]
      rw [h2] at h1
      obtain ⟨csi, h3, h4⟩ := Option.bind_eq_some_iff.1 h1
      obtain ⟨a, h5, h6⟩ := hel n csi _ hfu h4
      exact ⟨a, csi, h3, h5, _, h2, h6⟩
    obtain ⟨l, hl, hp'⟩ := list_of hp
    refine ⟨false, l, _, rfl, ?_, elems.map (·.1), by simp [hl, hlen], fun i a d h1 h2 => ?_, ?_⟩
    · rw [if_neg (by simp)]
      cases hl0 : l with
      | nil =>
        rw [hl0] at hl
        have : len = 0 := by simpa using hl.symm
        subst this
        exact .e _ _ _
      | cons a1 l1 =>
        rw [← hl0]
        have hpos : 0 < len := by rw [← hl, hl0]; simp
        have ha1 : l[0]? = some a1 := by rw [hl0]; rfl
        obtain ⟨cs0, g1, g2, _⟩ := hp' 0 a1 ha1
        obtain ⟨_, g3, g4⟩ := World.cells?_some g1
        have g5 := g4 0 hk
        obtain ⟨v0, hv0⟩ : ∃ v0, cs0[0]? = some v0 := ⟨cs0[0], by simp [g3, hk]⟩
        rw [hv0] at g5
        obtain ⟨b, o, spot⟩ := a0
        have hs : spot = none := by
          have := World.cell?_spot g5
          simpa [Addr.add] using this
        subst hs
        have hcell : ∀ (i : Nat) (a : α), l[i]? = some a → ∀ (j : Nat) (x : D), (encA a)[j]? = some x → ∃ v, W.cell? ⟨b, o + i * k + j, none⟩ = some v ∧ RepD W N v x := by
          intro i a ha j x hx
          obtain ⟨csi, q1, q2, _⟩ := hp' i a ha
          obtain ⟨_, q3, q4⟩ := World.cells?_some q1
          have hj : j < k := by
            rcases Nat.lt_or_ge j k with h | h
            · exact h
            · rw [List.getElem?_eq_none (by rw [henc]; exact h)] at hx; cases hx
          have q5 := q4 j hj
          rw [add_plain, add_plain] at q5
          obtain ⟨v, hv⟩ : ∃ v, csi[j]? = some v := ⟨csi[j], by simp [q3, hj]⟩
          rw [hv] at q5
          exact ⟨v, q5, q2.get hv hx⟩
        have hb : b < W.heap.size := by
          rw [add_plain, add_plain] at g5
          exact cell?_lt g5
        have hlen' : len = (l.map encA).length := by simp [hl]
        rw [hlen']
        refine .s (fun i j => (W.cell? ⟨b, o + i * k + j, none⟩).getD (.int .i64 0)) (hN b hb) (by simpa [hl] using hlc) (fun r hr => ?_) (fun i r j x h1 h2 => ?_) (fun i r j x h1 h2 => ?_)
        · obtain ⟨a, _, rfl⟩ := List.mem_map.1 hr; exact henc a
        · rw [List.getElem?_map] at h1
          obtain ⟨a, h3, rfl⟩ := Option.map_eq_some_iff.1 h1
          obtain ⟨v, q1, q2⟩ := hcell i a h3 j x h2
          rw [q1]; rfl
        · rw [List.getElem?_map] at h1
          obtain ⟨a, h3, rfl⟩ := Option.map_eq_some_iff.1 h1
          obtain ⟨v, q1, q2⟩ := hcell i a h3 j x h2
          rw [q1]; exact q2
    · obtain ⟨_, _, _, d', h3, h4⟩ := hp' i a h1
      rw [List.getElem?_map, h3] at h2
      simp at h2
      subst h2
      exact h4
    · simp only [Rows.uptoBulk]; omega
end
end Go.Proofs.YteenjodhmppgjaaGreatDoor.Am
end
section
/- What a table, a list of levels reads as. -/
namespace Go.Proofs.YteenjodhmppgjaaGreatDoor.Am
open Go Go.ChangeShapes Go.WideShapes
theorem bulk_one {H : Type} (d : DataW H) : 1 ≤ Rows.uptoBulk d := by
  cases d with
  | lit l => cases l <;> simp [Rows.uptoBulk]
  | nil => simp [Rows.uptoBulk]
  | ptr d => simp [Rows.uptoBulk]
  | slice elems spare => simp [Rows.uptoBulk]
  | agg parts => simp [Rows.uptoBulk]
  | iface t d => simp [Rows.uptoBulk]
  | map entries => simp [Rows.uptoBulk]
  | held h => simp [Rows.uptoBulk]
theorem bulk_len {H : Type} : ∀ (ds : List (DataW H)), ds.length ≤ Rows.uptoBulkAll ds
  | [] => by simp [Rows.uptoBulkAll]
  | d :: ds => by have := bulk_len ds; have := bulk_one d; simp only [Rows.uptoBulkAll, List.length_cons]; omega
theorem sum_le {α H : Type} (f : α → Nat) : ∀ (l : List α) (ds : List (DataW H)), l.length = ds.length → (∀ (i : Nat) a d, l[i]? = some a → ds[i]? = some d → f a ≤ Rows.uptoBulk d) → (l.map f).sum ≤ Rows.uptoBulkAll ds
  | [], [], _, _ => by simp [Rows.uptoBulkAll]
  | [], _ :: _, h, _ => by cases h
  | _ :: _, [], h, _ => by cases h
  | a :: l, d :: ds, h, hq => by
    have h1 := hq 0 a d rfl rfl
    have h2 := sum_le f l ds (by simpa using h) (fun i x y hx hy => hq (i + 1) x y hx hy)
    simp only [List.map_cons, List.sum_cons, Rows.uptoBulkAll]
    omega
theorem len1 {α : Type} : ∀ {l : List α}, l.length = 1 → ∃ a, l = [a]
  | [a], _ => ⟨a, rfl⟩
theorem len2 {α : Type} : ∀ {l : List α}, l.length = 2 → ∃ a b, l = [a, b]
  | [a, b], _ => ⟨a, b, rfl⟩
theorem len5 {α : Type} : ∀ {l : List α}, l.length = 5 → ∃ a b c d e, l = [a, b, c, d, e]
  | [a, b, c, d, e], _ => ⟨a, b, c, d, e, rfl⟩
theorem len6 {α : Type} : ∀ {l : List α}, l.length = 6 → ∃ a b c d e f, l = [a, b, c, d, e, f]
  | [a, b, c, d, e, f], _ => ⟨a, b, c, d, e, f, rfl⟩
theorem len9 {α : Type} : ∀ {l : List α}, l.length = 9 → ∃ a b c d e f g h i, l = [a, b, c, d, e, f, g, h, i]
  | [a, b, c, d, e, f, g, h, i], _ => ⟨a, b, c, d, e, f, g, h, i, rfl⟩
theorem len23 {α : Type} : ∀ {l : List α}, l.length = 23 → ∃ a0 a1 a2 a3 a4 a5 a6 a7 a8 a9 a10 a11 a12 a13 a14 a15 a16 a17 a18 a19 a20 a21 a22, l = [a0, a1, a2, a3, a4, a5, a6, a7, a8, a9, a10, a11, a12, a13, a14, a15, a16, a17, a18, a19, a20, a21, a22]
  | [a0, a1, a2, a3, a4, a5, a6, a7, a8, a9, a10, a11, a12, a13, a14, a15, a16, a17, a18, a19, a20, a21, a22], _ => ⟨_, _, _, _, _, _, _, _, _, _, _, _, _, _, _, _, _, _, _, _, _, _, _, rfl⟩
theorem cells3 : Tryz.prog.cellsOf 3 = 1 := by kernel_rfl
theorem cells9 : Tryz.prog.cellsOf 9 = 1 := by kernel_rfl
theorem cells22 : Tryz.prog.cellsOf 22 = 1 := by kernel_rfl
theorem cells24 : Tryz.prog.cellsOf 24 = 1 := by kernel_rfl
theorem cells30 : Tryz.prog.cellsOf 30 = 1 := by kernel_rfl
theorem cells31 : Tryz.prog.cellsOf 31 = 1 := by kernel_rfl
theorem cells33 : Tryz.prog.cellsOf 33 = 5 := by kernel_rfl
theorem cells34 : Tryz.prog.cellsOf 34 = 1 := by kernel_rfl
theorem cells36 : Tryz.prog.cellsOf 36 = 2 := by kernel_rfl
theorem cells37 : Tryz.prog.cellsOf 37 = 1 := by kernel_rfl
theorem cells39 : Tryz.prog.cellsOf 39 = 23 := by kernel_rfl
theorem cells98 : Tryz.prog.cellsOf 98 = 6 := by kernel_rfl
theorem cells110 : Tryz.prog.cellsOf 110 = 2 := by kernel_rfl
section
variable {H : Type} {en : TypeId × Value → H} {W : World} {N : Nat → Prop} (hN : ∀ b, b < W.heap.size → N b)
include hN
theorem readLV {fuel : Nat} {cs : List Value} {x : DataW H × List MemPlace} (h : DataW.trod en Tryz.prog W 0 (fun _ => true) true fuel 110 cs = some x) : ∃ y : LV, All2 (RepD W N) cs (lvD y) := by
  obtain ⟨xs, n, hfu, rfl, hcl, hxl, hf⟩ := DataW.trod_struct Tryz.underlying110 h
  rw [cells110] at hcl
  obtain ⟨v0, v1, rfl⟩ := len2 hcl
  obtain ⟨x0, x1, rfl⟩ : ∃ x0 x1, xs = [x0, x1] := len2 hxl
  have f0 := hf 0 _ rfl
  have f1 := hf 1 _ rfl
  simp only [cells3, List.drop_zero, List.drop_succ_cons, List.take_succ_cons, List.take_zero, List.getElem_toArray, List.getElem_cons_zero, List.getElem_cons_succ, List.getElem?_cons_zero, List.getElem?_cons_succ] at f0 f1
  obtain ⟨n0, e0, rfl, _⟩ := DataW.trod_int Tryz.underlying3 f0
  obtain ⟨n1, e1, rfl, _⟩ := DataW.trod_int Tryz.underlying3 f1
  replace e0 := List.head_eq_of_cons_eq e0; subst e0; replace e1 := List.head_eq_of_cons_eq e1; subst e1
  exact ⟨⟨n0, n1⟩, .cons (.v rfl) (.cons (.v rfl) .nil)⟩
theorem readLev {fuel : Nat} {cs : List Value} {x : DataW H × List MemPlace} (h : DataW.trod en Tryz.prog W 0 (fun _ => true) true fuel 36 cs = some x) : ∃ u : Lev, All2 (RepD W N) cs (levD u) ∧ u.sz ≤ Rows.uptoBulk x.1 := by
  obtain ⟨xs, n, hfu, rfl, hcl, hxl, hf⟩ := DataW.trod_struct Tryz.underlying36 h
  rw [cells36] at hcl
  obtain ⟨v0, v1, rfl⟩ := len2 hcl
  obtain ⟨x0, x1, rfl⟩ : ∃ x0 x1, xs = [x0, x1] := len2 hxl
  have f0 := hf 0 _ rfl
  have f1 := hf 1 _ rfl
  simp only [cells3, cells34, List.drop_zero, List.drop_succ_cons, List.take_succ_cons, List.take_zero, List.getElem_toArray, List.getElem_cons_zero, List.getElem_cons_succ, List.getElem?_cons_zero, List.getElem?_cons_succ] at f0 f1
  obtain ⟨n0, e0, rfl, _⟩ := DataW.trod_int Tryz.underlying3 f0
  replace e0 := List.head_eq_of_cons_eq e0; subst e0
  obtain ⟨z, l, v, e1, hrep, ds, hl, _, hb⟩ := readSlice hN Tryz.underlying34 cells110 (by decide) lvD (fun _ => rfl) (fun _ _ => True) f1
    (fun n' cs' y _ hy => by obtain ⟨c, k1⟩ := readLV hN hy; exact ⟨c, k1, trivial⟩)
  replace e1 := List.head_eq_of_cons_eq e1; subst e1
  have := bulk_len ds
  refine ⟨⟨n0, l, z⟩, .cons (.v rfl) (.cons hrep .nil), ?_⟩
  simp only [Lev.sz, List.map_cons, List.map_nil, Rows.uptoBulk, Rows.uptoBulkAll]; omega
end
end Go.Proofs.YteenjodhmppgjaaGreatDoor.Am
end
section
/- What is read stays read, where the heap has only grown. -/
namespace Go.Proofs.YteenjodhmppgjaaGreatDoor.Am
open Go Go.ChangeShapes Go.WideShapes Go.RowKit
theorem mapM_of_get {β : Type} {f : Nat → Option β} : ∀ (r : List β) (k : Nat), (∀ i, i < r.length → f (k + i) = r[i]?) → (List.range' k r.length).mapM f = some r
  | [], k, _ => by simp
  | b :: r, k, h => by
    simp only [List.length_cons, List.range'_succ, List.mapM_cons]
    have h0 := h 0 (by simp)
    simp only [Nat.add_zero, List.getElem?_cons_zero] at h0
    have := mapM_of_get r (k + 1) (fun i hi => by
      have := h (i + 1) (by simp; omega)
      simpa [Nat.add_assoc, Nat.add_comm 1 i] using this)
    simp [h0, this]
theorem mapM_range_of {β : Type} {f : Nat → Option β} {r : List β} {n : Nat} (hn : r.length = n) (h : ∀ i, i < n → f i = r[i]?) : (List.range n).mapM f = some r := by
  subst hn
  rw [List.range_eq_range']
  exact mapM_of_get r 0 (fun i hi => by rw [Nat.zero_add]; exact h i hi)
section
variable {H : Type} {en : TypeId × Value → H} {W W' : World} (hw : ∀ b, b < W.heap.size → W'.heap[b]? = W.heap[b]?)
include hw
theorem cell?_keep {a : Addr} {v : Value} (h : W.cell? a = some v) : W'.cell? a = some v := by
  obtain ⟨b, o, spot⟩ := a
  have hs : spot = none := World.cell?_spot h
  subst hs
  rw [World.cell?_of_block (w := W) (hw b (cell?_lt h))]
  exact h
theorem cells?_keep {base n : Nat} {a : Addr} {cs : List Value} (h : W.cells? base a n = some cs) : W'.cells? base a n = some cs := by
  obtain ⟨h1, h2, h3⟩ := World.cells?_some h
  unfold World.cells?
  rw [if_pos h1]
  refine mapM_range_of h2 fun i hi => ?_
  have h4 := h3 i hi
  have h5 : cs[i]? = some cs[i] := by simp [h2, hi]
  rw [h5] at h4 ⊢
  exact cell?_keep hw h4
variable {sp : Nat → Bool}
theorem slice_keep {P : Program} {t e : TypeId} {n : Nat} {cs : List Value} {x : DataW H × List MemPlace} (ht : P.underlying t = some (.slice e)) (hk : 0 < P.cellsOf e)
    (hel : ∀ (cs' : List Value) (y : DataW H × List MemPlace), DataW.trod en P W 0 (fun _ => true) true n e cs' = some y → (∀ p ∈ y.2, sp p.block = true) → DataW.trod en P W' 0 sp true n e cs' = some y)
    (h : DataW.trod en P W 0 (fun _ => true) true (n + 1) t cs = some x) (hsp : ∀ p ∈ x.2, sp p.block = true) : DataW.trod en P W' 0 sp true (n + 1) t cs = some x := by
  rcases DataW.trod_slice ht h with ⟨rfl, rfl⟩ | ⟨a, len, cap, elems, rest, n', hfu, rfl, rfl, hb, hlc, hcm, hlen, h1, h2, _⟩
  · simp [DataW.trod, ht]
  · cases hfu
    obtain ⟨h3, h4⟩ := h2 rfl
    have part : ∀ (i : Nat) (y : DataW H × List MemPlace), y ∈ elems ++ rest → (W.cells? 0 (a.add (i * P.cellsOf e)) (P.cellsOf e)).bind (DataW.trod en P W 0 (fun _ => true) true n e) = some y →
        (W'.cells? 0 (a.add (i * P.cellsOf e)) (P.cellsOf e)).bind (DataW.trod en P W' 0 sp true n e) = some y := by
      intro i y hy hq
      obtain ⟨cs', q1, q2⟩ := Option.bind_eq_some_iff.1 hq
      rw [cells?_keep hw q1]
      refine hel cs' y q2 fun p hp => hsp p ?_
      simp only [List.mem_append, List.mem_flatMap]
      exact .inr ⟨y, by simpa using hy, hp⟩
    have e1 : (List.range len).mapM (fun i => (W'.cells? 0 (a.add (i * P.cellsOf e)) (P.cellsOf e)).bind (DataW.trod en P W' 0 sp true n e)) = some elems := by
      refine mapM_range_of hlen fun i hi => ?_
      have g1 := h1 i hi
      have g2 : elems[i]? = some elems[i] := by simp [hlen, hi]
      rw [g2] at g1 ⊢
      exact part i _ (List.mem_append_left _ (List.getElem_mem _)) g1
    have e2 : (if sp a.block = true then (List.range (cap - len)).mapM fun j => (W'.cells? 0 (a.add ((len + j) * P.cellsOf e)) (P.cellsOf e)).bind (DataW.trod en P W' 0 sp true n e) else some []) = some rest := by
      by_cases hc : cap = 0
      · have : rest = [] := List.length_eq_zero_iff.1 (by omega)
        subst this
        have : cap - len = 0 := by omega
        rw [this]
        simp
      · have hsa : sp a.block = true := by
          refine hsp (.cell a.block (a.off + 0)) ?_
          simp only [List.mem_append]
          refine .inl ?_
          unfold MemPlace.row
          refine List.mem_map.2 ⟨0, List.mem_range.2 (Nat.mul_pos (by omega) hk), rfl⟩
        rw [if_pos hsa]
        refine mapM_range_of h3 fun j hj => ?_
        have g1 := h4 j hj
        have g2 : rest[j]? = some rest[j] := by simp [h3, hj]
        rw [g2] at g1 ⊢
        exact part (len + j) _ (List.mem_append_right _ (List.getElem_mem _)) g1
    simp only [DataW.trod, ht]
    rw [if_pos ⟨hb, hlc, hcm⟩, e1, Option.bind_some, e2]
    rfl
end
section
variable {H : Type} {en : TypeId × Value → H} {W W' : World} (hw : ∀ b, b < W.heap.size → W'.heap[b]? = W.heap[b]?) {sp : Nat → Bool}
include hw
theorem int_keep {t : TypeId} {k : IntKind} (ht : Tryz.prog.underlying t = some (.int k)) {n : Nat} {cs : List Value} {x : DataW H × List MemPlace} (h : DataW.trod en Tryz.prog W 0 (fun _ => true) true n t cs = some x) : DataW.trod en Tryz.prog W' 0 sp true n t cs = some x := by
  obtain ⟨m, rfl, rfl, hwf⟩ := DataW.trod_int ht h
  cases n with
  | zero => simp [DataW.trod] at h
  | succ n => simp [DataW.trod, ht, hwf]
theorem string_keep {n : Nat} {cs : List Value} {x : DataW H × List MemPlace} (h : DataW.trod en Tryz.prog W 0 (fun _ => true) true n 9 cs = some x) : DataW.trod en Tryz.prog W' 0 sp true n 9 cs = some x := by
  obtain ⟨s, rfl, rfl, hm⟩ := DataW.trod_string Tryz.underlying9 h
  cases n with
  | zero => simp [DataW.trod] at h
  | succ n => simp [DataW.trod, Tryz.underlying9, hm]
theorem slice_keep' {t e : TypeId} {n : Nat} {cs : List Value} {x : DataW H × List MemPlace} (ht : Tryz.prog.underlying t = some (.slice e)) (hk : 0 < Tryz.prog.cellsOf e)
    (hel : ∀ (n' : Nat) (cs' : List Value) (y : DataW H × List MemPlace), n' < n → DataW.trod en Tryz.prog W 0 (fun _ => true) true n' e cs' = some y → (∀ p ∈ y.2, sp p.block = true) → DataW.trod en Tryz.prog W' 0 sp true n' e cs' = some y)
    (h : DataW.trod en Tryz.prog W 0 (fun _ => true) true n t cs = some x) (hsp : ∀ p ∈ x.2, sp p.block = true) : DataW.trod en Tryz.prog W' 0 sp true n t cs = some x := by
  cases n with
  | zero => simp [DataW.trod] at h
  | succ n => exact slice_keep hw ht hk (fun cs' y => hel n cs' y (by omega)) h hsp
theorem lv_keep {n : Nat} {cs : List Value} {x : DataW H × List MemPlace} (h : DataW.trod en Tryz.prog W 0 (fun _ => true) true n 110 cs = some x) : DataW.trod en Tryz.prog W' 0 sp true n 110 cs = some x := by
  obtain ⟨xs, m, rfl, rfl, hcl, hxl, hf⟩ := DataW.trod_struct Tryz.underlying110 h
  obtain ⟨x0, x1, rfl⟩ : ∃ x0 x1, xs = [x0, x1] := len2 hxl
  have f0 : DataW.trod en Tryz.prog W 0 (fun _ => true) true m 3 ((cs.drop 0).take (Tryz.prog.cellsOf 3)) = some x0 := hf 0 _ rfl
  have f1 : DataW.trod en Tryz.prog W 0 (fun _ => true) true m 3 ((cs.drop 1).take (Tryz.prog.cellsOf 3)) = some x1 := hf 1 _ rfl
  have g0 := int_keep hw (sp := sp) Tryz.underlying3 f0
  have g1 := int_keep hw (sp := sp) Tryz.underlying3 f1
  exact trod_struct_mk Tryz.underlying110 hcl (by show (List.mapM (fun f : Field => _) [_, _]) = _; simp only [List.mapM_cons, List.mapM_nil, g0, g1]; rfl)
theorem lev_keep {n : Nat} {cs : List Value} {x : DataW H × List MemPlace} (h : DataW.trod en Tryz.prog W 0 (fun _ => true) true n 36 cs = some x) (hsp : ∀ p ∈ x.2, sp p.block = true) : DataW.trod en Tryz.prog W' 0 sp true n 36 cs = some x := by
  obtain ⟨xs, m, rfl, rfl, hcl, hxl, hf⟩ := DataW.trod_struct Tryz.underlying36 h
  obtain ⟨x0, x1, rfl⟩ : ∃ x0 x1, xs = [x0, x1] := len2 hxl
  have f0 : DataW.trod en Tryz.prog W 0 (fun _ => true) true m 3 ((cs.drop 0).take (Tryz.prog.cellsOf 3)) = some x0 := hf 0 _ rfl
  have f1 : DataW.trod en Tryz.prog W 0 (fun _ => true) true m 34 ((cs.drop 1).take (Tryz.prog.cellsOf 34)) = some x1 := hf 1 _ rfl
  have g0 := int_keep hw (sp := sp) Tryz.underlying3 f0
  have g1 := slice_keep' hw Tryz.underlying34 (by rw [cells110]; decide) (fun n' cs' y _ h _ => lv_keep hw (sp := sp) h) f1 (fun p hp => hsp p (by simp [hp]))
  exact trod_struct_mk Tryz.underlying36 hcl (by show (List.mapM (fun f : Field => _) [_, _]) = _; simp only [List.mapM_cons, List.mapM_nil, g0, g1]; rfl)
theorem levs_keep {n : Nat} {cs : List Value} {x : DataW H × List MemPlace} (h : DataW.trod en Tryz.prog W 0 (fun _ => true) true n 30 cs = some x) (hsp : ∀ p ∈ x.2, sp p.block = true) : DataW.trod en Tryz.prog W' 0 sp true n 30 cs = some x :=
  slice_keep' hw Tryz.underlying30 (by rw [cells36]; decide) (fun n' cs' y _ => lev_keep hw) h hsp
theorem tm_keep : ∀ (n : Nat) (cs : List Value) (x : DataW H × List MemPlace), DataW.trod en Tryz.prog W 0 (fun _ => true) true n 33 cs = some x → (∀ p ∈ x.2, sp p.block = true) → DataW.trod en Tryz.prog W' 0 sp true n 33 cs = some x := by
  intro n
  induction n using Nat.strongRecOn with
  | _ n ih =>
    intro cs x h hsp
    obtain ⟨xs, m, rfl, rfl, hcl, hxl, hf⟩ := DataW.trod_struct Tryz.underlying33 h
    obtain ⟨x0, x1, x2, x3, x4, rfl⟩ : ∃ x0 x1 x2 x3 x4, xs = [x0, x1, x2, x3, x4] := len5 hxl
    have f0 : DataW.trod en Tryz.prog W 0 (fun _ => true) true m 3 ((cs.drop 0).take (Tryz.prog.cellsOf 3)) = some x0 := hf 0 _ rfl
    have f1 : DataW.trod en Tryz.prog W 0 (fun _ => true) true m 3 ((cs.drop 1).take (Tryz.prog.cellsOf 3)) = some x1 := hf 1 _ rfl
    have f2 : DataW.trod en Tryz.prog W 0 (fun _ => true) true m 9 ((cs.drop 2).take (Tryz.prog.cellsOf 9)) = some x2 := hf 2 _ rfl
    have f3 : DataW.trod en Tryz.prog W 0 (fun _ => true) true m 30 ((cs.drop 3).take (Tryz.prog.cellsOf 30)) = some x3 := hf 3 _ rfl
    have f4 : DataW.trod en Tryz.prog W 0 (fun _ => true) true m 31 ((cs.drop 4).take (Tryz.prog.cellsOf 31)) = some x4 := hf 4 _ rfl
    have g0 := int_keep hw (sp := sp) Tryz.underlying3 f0
    have g1 := int_keep hw (sp := sp) Tryz.underlying3 f1
    have g2 := string_keep hw (sp := sp) f2
    have g3 := levs_keep hw f3 (fun p hp => hsp p (by simp [hp]))
    have g4 := slice_keep' hw Tryz.underlying31 (by rw [cells33]; decide) (fun n' cs' y hn => ih n' (by omega) cs' y) f4 (fun p hp => hsp p (by simp [hp]))
    exact trod_struct_mk Tryz.underlying33 hcl (by show (List.mapM (fun f : Field => _) [_, _, _, _, _]) = _; simp only [List.mapM_cons, List.mapM_nil, g0, g1, g2, g3, g4]; rfl)
theorem con_keep {n : Nat} {cs : List Value} {x : DataW H × List MemPlace} (h : DataW.trod en Tryz.prog W 0 (fun _ => true) true n 98 cs = some x) (hsp : ∀ p ∈ x.2, sp p.block = true) : DataW.trod en Tryz.prog W' 0 sp true n 98 cs = some x := by
  obtain ⟨xs, m, rfl, rfl, hcl, hxl, hf⟩ := DataW.trod_struct Tryz.underlying98 h
  obtain ⟨x0, x1, rfl⟩ : ∃ x0 x1, xs = [x0, x1] := len2 hxl
  have f0 : DataW.trod en Tryz.prog W 0 (fun _ => true) true m 9 ((cs.drop 0).take (Tryz.prog.cellsOf 9)) = some x0 := hf 0 _ rfl
  have f1 : DataW.trod en Tryz.prog W 0 (fun _ => true) true m 33 ((cs.drop 1).take (Tryz.prog.cellsOf 33)) = some x1 := hf 1 _ rfl
  have g0 := string_keep hw (sp := sp) f0
  have g1 := tm_keep hw m _ _ f1 (fun p hp => hsp p (by simp [hp]))
  exact trod_struct_mk Tryz.underlying98 hcl (by show (List.mapM (fun f : Field => _) [_, _]) = _; simp only [List.mapM_cons, List.mapM_nil, g0, g1]; rfl)
theorem dc_keep {n : Nat} {cs : List Value} {x : DataW H × List MemPlace} (h : DataW.trod en Tryz.prog W 0 (fun _ => true) true n 39 cs = some x) (hsp : ∀ p ∈ x.2, sp p.block = true) : DataW.trod en Tryz.prog W' 0 sp true n 39 cs = some x := by
  obtain ⟨xs, m, rfl, rfl, hcl, hxl, hf⟩ := DataW.trod_struct Tryz.underlying39 h
  obtain ⟨x0, x1, x2, x3, x4, x5, x6, x7, x8, rfl⟩ : ∃ x0 x1 x2 x3 x4 x5 x6 x7 x8, xs = [x0, x1, x2, x3, x4, x5, x6, x7, x8] := len9 hxl
  have f0 : DataW.trod en Tryz.prog W 0 (fun _ => true) true m 9 ((cs.drop 0).take (Tryz.prog.cellsOf 9)) = some x0 := hf 0 _ rfl
  have f1 : DataW.trod en Tryz.prog W 0 (fun _ => true) true m 3 ((cs.drop 1).take (Tryz.prog.cellsOf 3)) = some x1 := hf 1 _ rfl
  have f2 : DataW.trod en Tryz.prog W 0 (fun _ => true) true m 3 ((cs.drop 2).take (Tryz.prog.cellsOf 3)) = some x2 := hf 2 _ rfl
  have f3 : DataW.trod en Tryz.prog W 0 (fun _ => true) true m 33 ((cs.drop 3).take (Tryz.prog.cellsOf 33)) = some x3 := hf 3 _ rfl
  have f4 : DataW.trod en Tryz.prog W 0 (fun _ => true) true m 33 ((cs.drop 8).take (Tryz.prog.cellsOf 33)) = some x4 := hf 4 _ rfl
  have f5 : DataW.trod en Tryz.prog W 0 (fun _ => true) true m 33 ((cs.drop 13).take (Tryz.prog.cellsOf 33)) = some x5 := hf 5 _ rfl
  have f6 : DataW.trod en Tryz.prog W 0 (fun _ => true) true m 36 ((cs.drop 18).take (Tryz.prog.cellsOf 36)) = some x6 := hf 6 _ rfl
  have f7 : DataW.trod en Tryz.prog W 0 (fun _ => true) true m 36 ((cs.drop 20).take (Tryz.prog.cellsOf 36)) = some x7 := hf 7 _ rfl
  have f8 : DataW.trod en Tryz.prog W 0 (fun _ => true) true m 37 ((cs.drop 22).take (Tryz.prog.cellsOf 37)) = some x8 := hf 8 _ rfl
  have g0 := string_keep hw (sp := sp) f0
  have g1 := int_keep hw (sp := sp) Tryz.underlying3 f1
  have g2 := int_keep hw (sp := sp) Tryz.underlying3 f2
  have g3 := tm_keep hw m _ _ f3 (fun p hp => hsp p (by simp [hp]))
  have g4 := tm_keep hw m _ _ f4 (fun p hp => hsp p (by simp [hp]))
  have g5 := tm_keep hw m _ _ f5 (fun p hp => hsp p (by simp [hp]))
  have g6 := lev_keep hw f6 (fun p hp => hsp p (by simp [hp]))
  have g7 := lev_keep hw f7 (fun p hp => hsp p (by simp [hp]))
  have g8 := slice_keep' hw Tryz.underlying37 (by rw [cells98]; decide) (fun n' cs' y _ => con_keep hw) f8 (fun p hp => hsp p (by simp [hp]))
  exact trod_struct_mk Tryz.underlying39 hcl (by show (List.mapM (fun f : Field => _) [_, _, _, _, _, _, _, _, _]) = _; simp only [List.mapM_cons, List.mapM_nil, g0, g1, g2, g3, g4, g5, g6, g7, g8]; rfl)
theorem tb_keep {n : Nat} {cs : List Value} {x : DataW H × List MemPlace} (h : DataW.trod en Tryz.prog W 0 (fun _ => true) true n 24 cs = some x) (hsp : ∀ p ∈ x.2, sp p.block = true) : DataW.trod en Tryz.prog W' 0 sp true n 24 cs = some x := by
  obtain ⟨xs, m, rfl, rfl, hcl, hxl, hf⟩ := DataW.trod_struct Tryz.underlying24 h
  obtain ⟨x0, rfl⟩ : ∃ x0, xs = [x0] := len1 hxl
  have f0 : DataW.trod en Tryz.prog W 0 (fun _ => true) true m 22 ((cs.drop 0).take (Tryz.prog.cellsOf 22)) = some x0 := hf 0 _ rfl
  have g0 := slice_keep' hw Tryz.underlying22 (by rw [cells39]; decide) (fun n' cs' y _ => dc_keep hw) f0 (fun p hp => hsp p (by simp [hp]))
  exact trod_struct_mk Tryz.underlying24 hcl (by show (List.mapM (fun f : Field => _) [_]) = _; simp only [List.mapM_cons, List.mapM_nil, g0]; rfl)
end
theorem kept_of {W W' : World} {β β' : Int → Nat} {m : Nat → Prop} (h : St m W β (lk []) W' β' (lk [])) : (∀ b, b < W.heap.size → W'.heap[b]? = W.heap[b]?) ∧ ∀ may, W.keptBut W' may := by
  have hb : ∀ b, b < W.heap.size → W'.heap[b]? = W.heap[b]? := fun b hb => h.block b hb (by rintro ⟨id, o, h1, _⟩; cases h1)
  refine ⟨hb, fun may => ⟨h.os, h.output, fun i hi => ?_⟩⟩
  rw [hb i hi]
  cases hx : W.heap[i]? with
  | none => trivial
  | some o => cases o <;> simp
theorem rk_all {W : World} {N : Nat → Prop} {β : Int → Nat} {sh : Nat → Option Sh} : ∀ {vs : List Value} {ds : List D}, All2 (RepD W N) vs ds → All2 (RK W N β sh) vs (ds.map .d)
  | _, _, .nil => .nil
  | _, _, .cons h t => .cons ⟨RepD.cell h, h⟩ (rk_all t)
end Go.Proofs.YteenjodhmppgjaaGreatDoor.Am
end
section
/- How much a table holds, letters as well. -/
namespace Go.Proofs.YteenjodhmppgjaaGreatDoor.Am
open Go
def Tm.wt : Tm → Nat
  | .mk _ _ s u _ l _ => 1 + s.size + (u.map Lev.sz).sum + wts l
where wts : List Tm → Nat
  | [] => 0
  | x :: r => x.wt + wts r
theorem Tm.wts_eq (l : List Tm) : Tm.wt.wts l = (l.map Tm.wt).sum := by induction l <;> simp_all [Tm.wt.wts]
theorem Tm.wt_eq (x : Tm) : x.wt = 1 + x.s.size + (x.u.map Lev.sz).sum + (x.l.map Tm.wt).sum := by cases x; simp [Tm.wt, Tm.wts_eq, Tm.u, Tm.l, Tm.s]
theorem Tm.s_lt (x : Tm) : x.s.size < x.wt := by rw [x.wt_eq]; omega
theorem Tm.wt_lt {x y : Tm} (h : y ∈ x.l) : y.wt < x.wt := by
  have := le_sum (List.mem_map.2 ⟨y, h, rfl⟩ : y.wt ∈ x.l.map Tm.wt)
  rw [x.wt_eq]; omega
theorem Tm.levw_lt {x : Tm} {u : Lev} (h : u ∈ x.u) : u.sz < x.wt := by
  have := le_sum (List.mem_map.2 ⟨u, h, rfl⟩ : u.sz ∈ x.u.map Lev.sz)
  rw [x.wt_eq]; omega
theorem sum_mono {α : Type} (f g : α → Nat) : ∀ l : List α, (∀ x ∈ l, f x ≤ g x) → (l.map f).sum ≤ (l.map g).sum
  | [], _ => Nat.le_refl _
  | a :: r, h => by
    have h1 := h a List.mem_cons_self
    have h2 := sum_mono f g r (fun x hx => h x (List.mem_cons_of_mem _ hx))
    simp only [List.map_cons, List.sum_cons]; omega
theorem Tm.sz_wt : ∀ (n : Nat) (x : Tm), x.sz ≤ n → x.sz ≤ x.wt
  | 0, x, h => by have := x.sz_pos; omega
  | n + 1, x, h => by
    have h1 := sum_mono Tm.sz Tm.wt x.l (fun y hy => Tm.sz_wt n y (by have := Tm.sz_lt hy; omega))
    rw [x.sz_eq, x.wt_eq]; omega
theorem Tm.sz_le_wt (x : Tm) : x.sz ≤ x.wt := Tm.sz_wt x.sz x (Nat.le_refl _)
def Con.wt (c : Con) : Nat := 1 + c.name.size + c.arg.wt
def Dc.wt (d : Dc) : Nat := 1 + d.name.size + d.type.wt + d.body.wt + d.param.wt + d.over.sz + d.sort.sz + (d.cons.map Con.wt).sum
def Tb.wt (x : Tb) : Nat := (x.ds.map Dc.wt).sum
theorem Con.wt_pos (c : Con) : 0 < c.wt := by unfold Con.wt; omega
theorem Dc.wt_pos (d : Dc) : 0 < d.wt := by unfold Dc.wt; omega
theorem Dc.con_lt {d : Dc} {c : Con} (h : c ∈ d.cons) : c.wt < d.wt := by
  have := le_sum (List.mem_map.2 ⟨c, h, rfl⟩ : c.wt ∈ d.cons.map Con.wt)
  unfold Dc.wt; omega
theorem Dc.cons_lt (d : Dc) : d.cons.length < d.wt := by
  have := len_le_sum _ Con.wt_pos d.cons
  unfold Dc.wt; omega
theorem Tb.dc_le {x : Tb} {d : Dc} (h : d ∈ x.ds) : d.wt ≤ x.wt := le_sum (List.mem_map.2 ⟨d, h, rfl⟩ : d.wt ∈ x.ds.map Dc.wt)
theorem Tb.len_le (x : Tb) : x.ds.length ≤ x.wt := len_le_sum _ Dc.wt_pos x.ds
theorem Dc.ok_wt {d : Dc} (h : d.wt < 2 ^ 50) : d.ok := by
  have h1 := d.type.sz_le_wt
  have h2 := d.body.sz_le_wt
  have h3 := d.param.sz_le_wt
  have h4 := d.cons_lt
  refine ⟨?_, ?_, ?_, by omega, fun c hc => ?_⟩
  · unfold Dc.wt at h; omega
  · unfold Dc.wt at h; omega
  · unfold Dc.wt at h; omega
  · have := Dc.con_lt hc
    have h5 := c.arg.sz_le_wt
    unfold Con.wt at this; omega
theorem Tb.ok_wt {x : Tb} (h : x.wt < 2 ^ 50) : x.ok := ⟨by have := x.len_le; omega, fun d hd => Dc.ok_wt (by have := Tb.dc_le hd; omega)⟩
end Go.Proofs.YteenjodhmppgjaaGreatDoor.Am
end
section
/- What a table, a term reads as, with how much it holds. -/
namespace Go.Proofs.YteenjodhmppgjaaGreatDoor.Am
open Go Go.ChangeShapes Go.WideShapes
section
variable {H : Type} {en : TypeId × Value → H} {W : World} {N : Nat → Prop} (hN : ∀ b, b < W.heap.size → N b)
include hN
theorem readTm3 : ∀ (fuel : Nat) (cs : List Value) (x : DataW H × List MemPlace), DataW.trod en Tryz.prog W 0 (fun _ => true) true fuel 33 cs = some x → ∃ t : Tm, All2 (RepD W N) cs (tmD t) ∧ t.wt ≤ Rows.uptoBulk x.1 := by
  intro fuel
  induction fuel using Nat.strongRecOn with
  | _ fuel ih =>
    intro cs x h
    obtain ⟨xs, n, hfu, rfl, hcl, hxl, hf⟩ := DataW.trod_struct Tryz.underlying33 h
    rw [cells33] at hcl
    obtain ⟨v0, v1, v2, v3, v4, rfl⟩ := len5 hcl
    obtain ⟨x0, x1, x2, x3, x4, rfl⟩ : ∃ x0 x1 x2 x3 x4, xs = [x0, x1, x2, x3, x4] := len5 hxl
    have f0 := hf 0 _ rfl
    have f1 := hf 1 _ rfl
    have f2 := hf 2 _ rfl
    have f3 := hf 3 _ rfl
    have f4 := hf 4 _ rfl
    simp only [cells3, cells9, cells30, cells31, List.drop_zero, List.drop_succ_cons, List.take_succ_cons, List.take_zero, List.getElem_toArray, List.getElem_cons_zero, List.getElem_cons_succ, List.getElem?_cons_zero, List.getElem?_cons_succ] at f0 f1 f2 f3 f4
    obtain ⟨n0, e0, rfl, _⟩ := DataW.trod_int Tryz.underlying3 f0
    obtain ⟨n1, e1, rfl, _⟩ := DataW.trod_int Tryz.underlying3 f1
    obtain ⟨s, e2, rfl, _⟩ := DataW.trod_string Tryz.underlying9 f2
    replace e0 := List.head_eq_of_cons_eq e0; subst e0; replace e1 := List.head_eq_of_cons_eq e1; subst e1; replace e2 := List.head_eq_of_cons_eq e2; subst e2
    obtain ⟨zu, u, vu, e3, hu, du, hlu, hqu, hbu⟩ := readSlice hN Tryz.underlying30 cells36 (by decide) levD (fun _ => rfl) (fun c d => c.sz ≤ Rows.uptoBulk d) f3 (fun n' cs' y _ hy => readLev hN hy)
    obtain ⟨zl, l, vl, e4, hl, dl, hll, hql, hbl⟩ := readSlice hN Tryz.underlying31 cells33 (by decide) tmD (fun c => by rw [tmD_eq]; rfl) (fun c d => c.wt ≤ Rows.uptoBulk d) f4 (fun n' cs' y hn hy => ih n' (by omega) cs' y hy)
    replace e3 := List.head_eq_of_cons_eq e3; subst e3; replace e4 := List.head_eq_of_cons_eq e4; subst e4
    have s1 := sum_le Lev.sz u du hlu hqu
    have s2 := sum_le Tm.wt l dl hll hql
    have hss : s.data.toList.length = s.size := Array.length_toList
    refine ⟨.mk n0 n1 s u zu l zl, ?_, ?_⟩
    · rw [tmD_eq]
      exact .cons (.v rfl) (.cons (.v rfl) (.cons (.v rfl) (.cons hu (.cons hl .nil))))
    · rw [Tm.wt_eq]
      simp only [Tm.u, Tm.l, Tm.s, List.map_cons, List.map_nil, Rows.uptoBulk, Rows.uptoBulkAll]; omega
theorem readCon3 {fuel : Nat} {cs : List Value} {x : DataW H × List MemPlace} (h : DataW.trod en Tryz.prog W 0 (fun _ => true) true fuel 98 cs = some x) : ∃ c : Con, All2 (RepD W N) cs (conD c) ∧ c.wt ≤ Rows.uptoBulk x.1 := by
  obtain ⟨xs, n, hfu, rfl, hcl, hxl, hf⟩ := DataW.trod_struct Tryz.underlying98 h
  rw [cells98] at hcl
  obtain ⟨v0, v1, v2, v3, v4, v5, rfl⟩ := len6 hcl
  obtain ⟨x0, x1, rfl⟩ : ∃ x0 x1, xs = [x0, x1] := len2 hxl
  have f0 := hf 0 _ rfl
  have f1 := hf 1 _ rfl
  simp only [cells9, cells33, List.drop_zero, List.drop_succ_cons, List.take_succ_cons, List.take_zero, List.getElem_toArray, List.getElem_cons_zero, List.getElem_cons_succ, List.getElem?_cons_zero, List.getElem?_cons_succ] at f0 f1
  obtain ⟨s, e0, rfl, _⟩ := DataW.trod_string Tryz.underlying9 f0
  replace e0 := List.head_eq_of_cons_eq e0; subst e0
  obtain ⟨t, ht, hs⟩ := readTm3 hN _ _ _ f1
  have hss : s.data.toList.length = s.size := Array.length_toList
  refine ⟨⟨s, t⟩, .cons (.v rfl) ht, ?_⟩
  unfold Con.wt
  simp only [List.map_cons, List.map_nil, Rows.uptoBulk, Rows.uptoBulkAll]; omega
theorem readDc3 {fuel : Nat} {cs : List Value} {x : DataW H × List MemPlace} (h : DataW.trod en Tryz.prog W 0 (fun _ => true) true fuel 39 cs = some x) : ∃ d : Dc, All2 (RepD W N) cs (dcD d) ∧ d.wt ≤ Rows.uptoBulk x.1 := by
  obtain ⟨xs, n, hfu, rfl, hcl, hxl, hf⟩ := DataW.trod_struct Tryz.underlying39 h
  rw [cells39] at hcl
  obtain ⟨v0, v1, v2, v3, v4, v5, v6, v7, v8, v9, v10, v11, v12, v13, v14, v15, v16, v17, v18, v19, v20, v21, v22, rfl⟩ := len23 hcl
  obtain ⟨x0, x1, x2, x3, x4, x5, x6, x7, x8, rfl⟩ : ∃ x0 x1 x2 x3 x4 x5 x6 x7 x8, xs = [x0, x1, x2, x3, x4, x5, x6, x7, x8] := len9 hxl
  have f0 := hf 0 _ rfl
  have f1 := hf 1 _ rfl
  have f2 := hf 2 _ rfl
  have f3 := hf 3 _ rfl
  have f4 := hf 4 _ rfl
  have f5 := hf 5 _ rfl
  have f6 := hf 6 _ rfl
  have f7 := hf 7 _ rfl
  have f8 := hf 8 _ rfl
  simp only [cells3, cells9, cells33, cells36, cells37, List.drop_zero, List.drop_succ_cons, List.take_succ_cons, List.take_zero, List.getElem_toArray, List.getElem_cons_zero, List.getElem_cons_succ, List.getElem?_cons_zero, List.getElem?_cons_succ] at f0 f1 f2 f3 f4 f5 f6 f7 f8
  obtain ⟨s, e0, rfl, _⟩ := DataW.trod_string Tryz.underlying9 f0
  obtain ⟨n1, e1, rfl, _⟩ := DataW.trod_int Tryz.underlying3 f1
  obtain ⟨n2, e2, rfl, _⟩ := DataW.trod_int Tryz.underlying3 f2
  obtain ⟨t3, h3, s3⟩ := readTm3 hN _ _ _ f3
  obtain ⟨t4, h4, s4⟩ := readTm3 hN _ _ _ f4
  obtain ⟨t5, h5, s5⟩ := readTm3 hN _ _ _ f5
  obtain ⟨u6, h6, s6⟩ := readLev hN f6
  obtain ⟨u7, h7, s7⟩ := readLev hN f7
  obtain ⟨z, l, v, e8, hrep, ds, hl, hq, hb⟩ := readSlice hN Tryz.underlying37 cells98 (by decide) conD (fun c => by rw [conD_eq]; rfl) (fun c d => c.wt ≤ Rows.uptoBulk d) f8 (fun n' cs' y _ hy => readCon3 hN hy)
  replace e0 := List.head_eq_of_cons_eq e0; subst e0; replace e1 := List.head_eq_of_cons_eq e1; subst e1; replace e2 := List.head_eq_of_cons_eq e2; subst e2; replace e8 := List.head_eq_of_cons_eq e8; subst e8
  have s8 := sum_le Con.wt l ds hl hq
  have hss : s.data.toList.length = s.size := Array.length_toList
  refine ⟨⟨s, n1, n2, t3, t4, t5, u6, u7, l, z⟩, ?_, ?_⟩
  · unfold dcD
    simp only [List.append_assoc]
    exact .cons (.v rfl) (.cons (.v rfl) (.cons (.v rfl) (All2.append h3 (All2.append h4 (All2.append h5 (All2.append h6 (All2.append h7 (.cons hrep .nil))))))))
  · unfold Dc.wt
    simp only [List.map_cons, List.map_nil, Rows.uptoBulk, Rows.uptoBulkAll]; omega
theorem readTb3 {fuel : Nat} {cs : List Value} {x : DataW H × List MemPlace} (h : DataW.trod en Tryz.prog W 0 (fun _ => true) true fuel 24 cs = some x) : ∃ t : Tb, All2 (RepD W N) cs [t.d] ∧ t.wt ≤ Rows.uptoBulk x.1 := by
  obtain ⟨xs, n, hfu, rfl, hcl, hxl, hf⟩ := DataW.trod_struct Tryz.underlying24 h
  rw [cells24] at hcl
  obtain ⟨v0, rfl⟩ := len1 hcl
  obtain ⟨x0, rfl⟩ : ∃ x0, xs = [x0] := len1 hxl
  have f0 := hf 0 _ rfl
  simp only [cells22, List.drop_zero, List.take_succ_cons, List.take_zero, List.getElem_toArray, List.getElem_cons_zero, List.getElem?_cons_zero] at f0
  obtain ⟨z, l, v, e0, hrep, ds, hl, hq, hb⟩ := readSlice hN Tryz.underlying22 cells39 (by decide) dcD (fun c => by rw [dcD_eq]; rfl) (fun c d => c.wt ≤ Rows.uptoBulk d) f0 (fun n' cs' y _ hy => readDc3 hN hy)
  replace e0 := List.head_eq_of_cons_eq e0; subst e0
  have s0 := sum_le Dc.wt l ds hl hq
  refine ⟨⟨l, z⟩, .cons hrep .nil, ?_⟩
  unfold Tb.wt
  simp only [List.map_cons, List.map_nil, Rows.uptoBulk, Rows.uptoBulkAll]; omega
end
end Go.Proofs.YteenjodhmppgjaaGreatDoor.Am
end
section
/- Levels: find, Valid. -/
namespace Go.Proofs.YteenjodhmppgjaaGreatDoor.Am
open Go
variable (ext : Ext)
set_option maxHeartbeats 4000000
noncomputable def B234 : Code := (Tryz.f234.body.getD .skip)
noncomputable def L234a : Code := sub B234 [1, 0, 1, 0, 0]
noncomputable def K234a : List It := [.inBlock 0, .code (sub B234 [1, 1])]
noncomputable def H234a (ext : Ext) (m : Nat) (env : Env) (loc : List O) : Option Out := run Tryz.prog ext (.k ⟨19, m, [.tmp 4], false⟩ (.code L234a :: .inLoop L234a :: K234a) env loc)
noncomputable def B120 : Code := (Tryz.f120.body.getD .skip)
noncomputable def L120a : Code := sub B120 [1, 1, 0, 1, 0, 0]
noncomputable def K120a : List It := [.inBlock 0, .code (sub B120 [1, 1, 1])]
noncomputable def H120a (ext : Ext) (m : Nat) (env : Env) (loc : List O) : Option Out := run Tryz.prog ext (.k ⟨56, m, [.tmp 2], false⟩ (.code L120a :: .inLoop L120a :: K120a) env loc)
theorem clo235 (hx : ext 235 = none) (x : LV) (v : Int) : run Tryz.prog ext (.call 235 [lvV x, .c (.ptr 0 0)] [.box [.d (.v (.int .i64 v))]]) = some (.ret [bV (x.v == v)] [.box [.d (.v (.int .i64 v))]]) := by
  (rw [run_eq]; simp only [stepA, hx, Tryz.func235, Tryz.f235, show retF 235 = false from rfl]; simp only [List.length_cons, List.length_nil, Nat.reduceAdd, Nat.reduceLeDiff, Nat.zero_le, ↓reduceIte, List.zipIdx_cons, List.zipIdx_nil, List.map_cons, List.map_nil])
  simp only [lvV, lvC, bV]
  simp only [zS, zD, convertA, makeFuncA, Nat.reduceAdd, Nat.reduceSub, Nat.reduceMul, Nat.reduceLT, Nat.reduceLeDiff, Nat.reduceGT, ↓reduceIte, Nat.reduceEqDiff, Nat.reduceBEq, reduceCtorEq, Int.reduceBEq, Int.reduceBNe, Int.reduceLT, Int.reduceLE, Int.reduceGT, Int.reduceGE, zT110, zT3]
  (refine Eq.trans ?_ rfl; kernel_rfl)
def E234 (z : Bool) (l : List LV) (k : Int) : Env := [(0, dV (listD z 2 (l.map lvD))), (1, .c (.fn 235 [] [0])), (7, iV l.length), (8, iV k)]
def O234 (v : Int) : List O := [.box [.d (.v (.int .i64 v))]]
theorem enter234 (hx : ext 234 = none) (z : Bool) (l : List LV) (v : Int) (out : Option Out) (h : H234a ext 1 (E234 z l 0) (O234 v) = out) : run Tryz.prog ext (.call 234 [dV (listD z 2 (l.map lvD)), .c (.fn 235 [] [0])] (O234 v)) = out := by
  unfold H234a at h
  (rw [run_eq]; simp only [stepA, hx, Tryz.func234, Tryz.f234, show retF 234 = false from rfl]; simp only [List.length_cons, List.length_nil, Nat.reduceAdd, Nat.reduceLeDiff, Nat.zero_le, ↓reduceIte, List.zipIdx_cons, List.zipIdx_nil, List.map_cons, List.map_nil])
  simp only [dV, E234, O234, iV] at h ⊢
  simp only [zS, zD, convertA, makeFuncA, Nat.reduceAdd, Nat.reduceSub, Nat.reduceMul, Nat.reduceLT, Nat.reduceLeDiff, Nat.reduceGT, ↓reduceIte, Nat.reduceEqDiff, Nat.reduceBEq, reduceCtorEq, Int.reduceBEq, Int.reduceBNe, Int.reduceLT, Int.reduceLE, Int.reduceGT, Int.reduceGE, zT144, zT110, zT3]
  (refine (r_inLoop_some ?_).trans h; kernel_rfl)
theorem step234 (hx : ext 235 = none) (z : Bool) (l : List LV) (x : LV) (v : Int) (k : Nat) (hk : l[k]? = some x) (hl : (k : Int) < l.length) :
    ((x.v == v) = true → H234a ext 1 (E234 z l k) (O234 v) = some (.ret [iV k] (O234 v))) ∧ ((x.v == v) = false → ∀ out, H234a ext 1 (E234 z l (wr ((k : Int) + 1))) (O234 v) = out → H234a ext 1 (E234 z l k) (O234 v) = out) := by
  have h0 : (0 : Int) ≤ k := by omega
  have hd : listD z 2 (l.map lvD) = .s 2 (l.map lvD) := listD_of_lt h0 (by simpa using hl)
  have hr := clo235 ext hx x v
  have e := callA_of (rec := run Tryz.prog ext) (look := lk (O234 v)) (slot := 1) (f := 235) (args := [lvV x, .c (.ptr 0 0)]) (ids := [0]) (bor := []) (e := ⟨.val (bV (x.v == v)), [(0, .box [.d (.v (.int .i64 v))])], [0]⟩) (by kernel_rfl) hr (by kernel_rfl)
  unfold H234a
  refine ⟨fun hp => ?_, fun hp out h => ?_⟩
  · rw [hp] at e
    simp only [dV, E234, O234, iV, bV, hd, lvV, lvC] at e ⊢
    (rw [show (It.code L234a) = It.code (sub B234 [1, 0, 1, 0, 0]) from rfl]; simp only [B234, K234a, sub, Option.getD_some, Tryz.f234, ↓reduceIte, Nat.one_ne_zero])
    simp only [zS, zD, convertA, makeFuncA, Nat.reduceAdd, Nat.reduceSub, Nat.reduceMul, Nat.reduceLT, Nat.reduceLeDiff, Nat.reduceGT, ↓reduceIte, Nat.reduceEqDiff, Nat.reduceBEq, reduceCtorEq, Int.reduceBEq, Int.reduceBNe, Int.reduceLT, Int.reduceLE, Int.reduceGT, Int.reduceGE, zT144, zT110, zT3, h0, hl, Int.toNat_natCast, hk, lvD, e]
    (refine Eq.trans ?_ rfl; kernel_rfl)
  · rw [hp] at e
    simp only [dV, E234, O234, iV, bV, hd, lvV, lvC] at e h ⊢
    (rw [show (It.code L234a) = It.code (sub B234 [1, 0, 1, 0, 0]) from rfl]; simp only [B234, K234a, sub, Option.getD_some, Tryz.f234, ↓reduceIte, Nat.one_ne_zero])
    simp only [zS, zD, convertA, makeFuncA, Nat.reduceAdd, Nat.reduceSub, Nat.reduceMul, Nat.reduceLT, Nat.reduceLeDiff, Nat.reduceGT, ↓reduceIte, Nat.reduceEqDiff, Nat.reduceBEq, reduceCtorEq, Int.reduceBEq, Int.reduceBNe, Int.reduceLT, Int.reduceLE, Int.reduceGT, Int.reduceGE, zT144, zT110, zT3, h0, hl, Int.toNat_natCast, hk, lvD, e]
    (refine (r_inLoop_some ?_).trans h; kernel_rfl)
theorem done234 (z : Bool) (l : List LV) (v : Int) : H234a ext 1 (E234 z l l.length) (O234 v) = some (.ret [iV (-1)] (O234 v)) := by
  unfold H234a
  simp only [dV, E234, O234, iV]
  (rw [show (It.code L234a) = It.code (sub B234 [1, 0, 1, 0, 0]) from rfl]; simp only [B234, K234a, sub, Option.getD_some, Tryz.f234, ↓reduceIte, Nat.one_ne_zero])
  simp only [zS, zD, convertA, makeFuncA, Nat.reduceAdd, Nat.reduceSub, Nat.reduceMul, Nat.reduceLT, Nat.reduceLeDiff, Nat.reduceGT, ↓reduceIte, Nat.reduceEqDiff, Nat.reduceBEq, reduceCtorEq, Int.reduceBEq, Int.reduceBNe, Int.reduceLT, Int.reduceLE, Int.reduceGT, Int.reduceGE, zT144, zT110, zT3, Int.lt_irrefl]
  (refine Eq.trans ?_ rfl; kernel_rfl)
theorem idx234 (hx : ext 234 = none) (hx' : ext 235 = none) (z : Bool) (l : List LV) (v : Int) (hl : l.length < 2 ^ 62) : run Tryz.prog ext (.call 234 [dV (listD z 2 (l.map lvD)), .c (.fn 235 [] [0])] (O234 v)) = some (.ret [iV (idxI (fun x => x.v == v) l)] (O234 v)) := by
  refine enter234 ext hx z l v _ ?_
  have := loop_find l (fun k => H234a ext 1 (E234 z l k) (O234 v)) (fun x => x.v == v) (fun k => some (.ret [iV k] (O234 v))) (some (.ret [iV (-1)] (O234 v))) hl (fun k x hk hkl => step234 ext hx' z l x v k hk hkl) (done234 ext z l v)
  rw [this]
  unfold idxI
  cases l.findIdx? (fun x => x.v == v) <;> rfl
theorem find190 (hx : ext 190 = none) (hx1 : ext 234 = none) (hx2 : ext 235 = none) (z : Bool) (l : List LV) (v : Int) (hl : l.length < 2 ^ 62) : run Tryz.prog ext (.call 190 [dV (listD z 2 (l.map lvD)), iV v] []) = some (.ret [iV (idxI (fun x => x.v == v) l)] []) := by
  have hr := idx234 ext hx1 hx2 z l v hl
  have e := callA_of (rec := run Tryz.prog ext) (look := lk (O234 v)) (slot := 1) (f := 234) (args := [dV (listD z 2 (l.map lvD)), .c (.fn 235 [] [0])]) (ids := [0]) (bor := []) (e := ⟨.val (iV (idxI (fun x => x.v == v) l)), [(0, .box [.d (.v (.int .i64 v))])], [0]⟩) (by kernel_rfl) hr (by kernel_rfl)
  (rw [run_eq]; simp only [stepA, hx, Tryz.func190, Tryz.f190, show retF 190 = false from rfl]; simp only [List.length_cons, List.length_nil, Nat.reduceAdd, Nat.reduceLeDiff, Nat.zero_le, ↓reduceIte, List.zipIdx_cons, List.zipIdx_nil, List.map_cons, List.map_nil])
  simp only [dV, O234, iV] at e ⊢
  simp only [zS, zD, convertA, makeFuncA, Nat.reduceAdd, Nat.reduceSub, Nat.reduceMul, Nat.reduceLT, Nat.reduceLeDiff, Nat.reduceGT, ↓reduceIte, Nat.reduceEqDiff, Nat.reduceBEq, reduceCtorEq, Int.reduceBEq, Int.reduceBNe, Int.reduceLT, Int.reduceLE, Int.reduceGT, Int.reduceGE, zT144, zT3, e]
  (refine Eq.trans ?_ rfl; kernel_rfl)
def E120 (x : Lev) (k : Int) : Env := [(1, .c (.ptr 0 0)), (20, dV x.d), (21, iV x.vs.length), (22, iV k)]
def O120 (x : Lev) : List O := [.box (levC x)]
theorem enter120 (hx : ext 120 = none) (x : Lev) (out : Option Out) (h1 : ¬ x.c < 0) (h2 : ¬ x.c > 1000) (h3 : ¬ (x.vs.length : Int) > 8) (h : H120a ext 0 (E120 x 0) (O120 x) = out) : run Tryz.prog ext (.call 120 [levV x] []) = out := by
  unfold H120a at h
  (rw [run_eq]; simp only [stepA, hx, Tryz.func120, Tryz.f120, show retF 120 = false from rfl]; simp only [List.length_cons, List.length_nil, Nat.reduceAdd, Nat.reduceLeDiff, Nat.zero_le, ↓reduceIte, List.zipIdx_cons, List.zipIdx_nil, List.map_cons, List.map_nil])
  simp only [levV, E120, O120, levC, Lev.d, dV, iV] at h ⊢
  simp only [zS, zD, convertA, makeFuncA, Nat.reduceAdd, Nat.reduceSub, Nat.reduceMul, Nat.reduceLT, Nat.reduceLeDiff, Nat.reduceGT, ↓reduceIte, Nat.reduceEqDiff, Nat.reduceBEq, reduceCtorEq, Int.reduceBEq, Int.reduceBNe, Int.reduceLT, Int.reduceLE, Int.reduceGT, Int.reduceGE, zT36, zT34, zT110, zT3, h1, h2, h3]
  (refine (r_inLoop_some ?_).trans h; kernel_rfl)
theorem bad120 (hx : ext 120 = none) (x : Lev) (h : x.c < 0 ∨ x.c > 1000 ∨ (x.vs.length : Int) > 8) : run Tryz.prog ext (.call 120 [levV x] []) = some (.ret [bV false] []) := by
  by_cases h1 : x.c < 0
  · (rw [run_eq]; simp only [stepA, hx, Tryz.func120, Tryz.f120, show retF 120 = false from rfl]; simp only [List.length_cons, List.length_nil, Nat.reduceAdd, Nat.reduceLeDiff, Nat.zero_le, ↓reduceIte, List.zipIdx_cons, List.zipIdx_nil, List.map_cons, List.map_nil])
    simp only [levV, levC, Lev.d]
    simp only [zS, zD, convertA, makeFuncA, Nat.reduceAdd, Nat.reduceSub, Nat.reduceMul, Nat.reduceLT, Nat.reduceLeDiff, Nat.reduceGT, ↓reduceIte, Nat.reduceEqDiff, Nat.reduceBEq, reduceCtorEq, Int.reduceBEq, Int.reduceBNe, Int.reduceLT, Int.reduceLE, Int.reduceGT, Int.reduceGE, zT36, zT34, zT110, zT3, h1]
    (refine Eq.trans ?_ rfl; kernel_rfl)
  by_cases h2 : x.c > 1000
  · (rw [run_eq]; simp only [stepA, hx, Tryz.func120, Tryz.f120, show retF 120 = false from rfl]; simp only [List.length_cons, List.length_nil, Nat.reduceAdd, Nat.reduceLeDiff, Nat.zero_le, ↓reduceIte, List.zipIdx_cons, List.zipIdx_nil, List.map_cons, List.map_nil])
    simp only [levV, levC, Lev.d]
    simp only [zS, zD, convertA, makeFuncA, Nat.reduceAdd, Nat.reduceSub, Nat.reduceMul, Nat.reduceLT, Nat.reduceLeDiff, Nat.reduceGT, ↓reduceIte, Nat.reduceEqDiff, Nat.reduceBEq, reduceCtorEq, Int.reduceBEq, Int.reduceBNe, Int.reduceLT, Int.reduceLE, Int.reduceGT, Int.reduceGE, zT36, zT34, zT110, zT3, h1, h2]
    (refine Eq.trans ?_ rfl; kernel_rfl)
  have h3 : (x.vs.length : Int) > 8 := by omega
  (rw [run_eq]; simp only [stepA, hx, Tryz.func120, Tryz.f120, show retF 120 = false from rfl]; simp only [List.length_cons, List.length_nil, Nat.reduceAdd, Nat.reduceLeDiff, Nat.zero_le, ↓reduceIte, List.zipIdx_cons, List.zipIdx_nil, List.map_cons, List.map_nil])
  simp only [levV, levC, Lev.d]
  simp only [zS, zD, convertA, makeFuncA, Nat.reduceAdd, Nat.reduceSub, Nat.reduceMul, Nat.reduceLT, Nat.reduceLeDiff, Nat.reduceGT, ↓reduceIte, Nat.reduceEqDiff, Nat.reduceBEq, reduceCtorEq, Int.reduceBEq, Int.reduceBNe, Int.reduceLT, Int.reduceLE, Int.reduceGT, Int.reduceGE, zT36, zT34, zT110, zT3, h1, h2, h3]
  (refine Eq.trans ?_ rfl; kernel_rfl)
def okLV (x : LV) : Bool := decide (0 ≤ x.v) && decide (x.v < 1200) && decide (0 ≤ x.p) && decide (x.p ≤ 1000)
def badLV (l : List LV) (k : Nat) (x : LV) : Bool := !okLV x || (l.take k).any fun y => y.v == x.v
def Lev.valid (x : Lev) : Bool := decide (0 ≤ x.c) && decide (x.c ≤ 1000) && decide (x.vs.length ≤ 8) && (idxFrom (badLV x.vs) 0 x.vs).isNone
theorem find190' (hx : ext 190 = none) (hx1 : ext 234 = none) (hx2 : ext 235 = none) (l : List LV) (v : Int) (hl : l.length < 2 ^ 62) : run Tryz.prog ext (.call 190 [dV (.s 2 (l.map lvD)), iV v] []) = some (.ret [iV (idxI (fun x => x.v == v) l)] []) := by
  have := find190 ext hx hx1 hx2 false l v hl
  rwa [listD_false] at this
theorem step120 (hx : ext 190 = none) (hx1 : ext 234 = none) (hx2 : ext 235 = none) (x : Lev) (y : LV) (k : Nat) (hk : x.vs[k]? = some y) (hl : (k : Int) < x.vs.length) (hs : x.vs.length < 2 ^ 62) :
    (badLV x.vs k y = true → H120a ext 0 (E120 x k) (O120 x) = some (.ret [bV false] [])) ∧ (badLV x.vs k y = false → ∀ out, H120a ext 0 (E120 x (wr ((k : Int) + 1))) (O120 x) = out → H120a ext 0 (E120 x k) (O120 x) = out) := by
  have h0 : (0 : Int) ≤ k := by omega
  have hkl : (k : Int) ≤ x.vs.length := by omega
  have hd : listD x.z 2 (x.vs.map lvD) = .s 2 (x.vs.map lvD) := listD_of_lt h0 (by simpa using hl)
  have hr := find190' ext hx hx1 hx2 (x.vs.take k) y.v (by simp; omega)
  have hi := idxI_ge (fun z => z.v == y.v) (x.vs.take k)
  rw [List.map_take] at hr
  unfold H120a
  generalize hI : idxI (fun z => z.v == y.v) (x.vs.take k) = i at hr hi
  by_cases a1 : y.v < 0
  · refine ⟨fun hp => ?_, fun hp out h => ?_⟩
    · simp only [dV, E120, O120, levC, Lev.d, iV, bV, hd] at hr ⊢
      (rw [show (It.code L120a) = It.code (sub B120 [1, 1, 0, 1, 0, 0]) from rfl]; simp only [B120, K120a, sub, Option.getD_some, Tryz.f120, ↓reduceIte, Nat.one_ne_zero])
      simp only [zS, zD, convertA, makeFuncA, Nat.reduceAdd, Nat.reduceSub, Nat.reduceMul, Nat.reduceLT, Nat.reduceLeDiff, Nat.reduceGT, ↓reduceIte, Nat.reduceEqDiff, Nat.reduceBEq, reduceCtorEq, Int.reduceBEq, Int.reduceBNe, Int.reduceLT, Int.reduceLE, Int.reduceGT, Int.reduceGE, zT34, zT36, zT110, zT3, drawA, holes_succ, holes_zero, Array.size, List.length, h0, hl, Int.toNat_natCast, hk, lvD, a1]
      rw [afterDraw_some _ _ _ _ (by kernel_rfl)]
      simp only [zS, zD, convertA, makeFuncA, Nat.reduceAdd, Nat.reduceSub, Nat.reduceMul, Nat.reduceLT, Nat.reduceLeDiff, Nat.reduceGT, ↓reduceIte, Nat.reduceEqDiff, Nat.reduceBEq, reduceCtorEq, Int.reduceBEq, Int.reduceBNe, Int.reduceLT, Int.reduceLE, Int.reduceGT, Int.reduceGE]
      (refine Eq.trans ?_ rfl; kernel_rfl)
    · exfalso
      simp [badLV, okLV] at hp; omega
  by_cases a2 : y.v ≥ 1200
  · refine ⟨fun hp => ?_, fun hp out h => ?_⟩
    · simp only [dV, E120, O120, levC, Lev.d, iV, bV, hd] at hr ⊢
      (rw [show (It.code L120a) = It.code (sub B120 [1, 1, 0, 1, 0, 0]) from rfl]; simp only [B120, K120a, sub, Option.getD_some, Tryz.f120, ↓reduceIte, Nat.one_ne_zero])
      simp only [zS, zD, convertA, makeFuncA, Nat.reduceAdd, Nat.reduceSub, Nat.reduceMul, Nat.reduceLT, Nat.reduceLeDiff, Nat.reduceGT, ↓reduceIte, Nat.reduceEqDiff, Nat.reduceBEq, reduceCtorEq, Int.reduceBEq, Int.reduceBNe, Int.reduceLT, Int.reduceLE, Int.reduceGT, Int.reduceGE, zT34, zT36, zT110, zT3, drawA, holes_succ, holes_zero, Array.size, List.length, h0, hl, Int.toNat_natCast, hk, lvD, a1, a2]
      rw [afterDraw_some _ _ _ _ (by kernel_rfl)]
      simp only [zS, zD, convertA, makeFuncA, Nat.reduceAdd, Nat.reduceSub, Nat.reduceMul, Nat.reduceLT, Nat.reduceLeDiff, Nat.reduceGT, ↓reduceIte, Nat.reduceEqDiff, Nat.reduceBEq, reduceCtorEq, Int.reduceBEq, Int.reduceBNe, Int.reduceLT, Int.reduceLE, Int.reduceGT, Int.reduceGE]
      (refine Eq.trans ?_ rfl; kernel_rfl)
    · exfalso
      simp [badLV, okLV] at hp; omega
  by_cases a3 : y.p < 0
  · refine ⟨fun hp => ?_, fun hp out h => ?_⟩
    · simp only [dV, E120, O120, levC, Lev.d, iV, bV, hd] at hr ⊢
      (rw [show (It.code L120a) = It.code (sub B120 [1, 1, 0, 1, 0, 0]) from rfl]; simp only [B120, K120a, sub, Option.getD_some, Tryz.f120, ↓reduceIte, Nat.one_ne_zero])
      simp only [zS, zD, convertA, makeFuncA, Nat.reduceAdd, Nat.reduceSub, Nat.reduceMul, Nat.reduceLT, Nat.reduceLeDiff, Nat.reduceGT, ↓reduceIte, Nat.reduceEqDiff, Nat.reduceBEq, reduceCtorEq, Int.reduceBEq, Int.reduceBNe, Int.reduceLT, Int.reduceLE, Int.reduceGT, Int.reduceGE, zT34, zT36, zT110, zT3, drawA, holes_succ, holes_zero, Array.size, List.length, h0, hl, Int.toNat_natCast, hk, lvD, a1, a2, a3]
      rw [afterDraw_some _ _ _ _ (by kernel_rfl)]
      simp only [zS, zD, convertA, makeFuncA, Nat.reduceAdd, Nat.reduceSub, Nat.reduceMul, Nat.reduceLT, Nat.reduceLeDiff, Nat.reduceGT, ↓reduceIte, Nat.reduceEqDiff, Nat.reduceBEq, reduceCtorEq, Int.reduceBEq, Int.reduceBNe, Int.reduceLT, Int.reduceLE, Int.reduceGT, Int.reduceGE]
      (refine Eq.trans ?_ rfl; kernel_rfl)
    · exfalso
      simp [badLV, okLV] at hp; omega
  by_cases a4 : y.p > 1000
  · refine ⟨fun hp => ?_, fun hp out h => ?_⟩
    · simp only [dV, E120, O120, levC, Lev.d, iV, bV, hd] at hr ⊢
      (rw [show (It.code L120a) = It.code (sub B120 [1, 1, 0, 1, 0, 0]) from rfl]; simp only [B120, K120a, sub, Option.getD_some, Tryz.f120, ↓reduceIte, Nat.one_ne_zero])
      simp only [zS, zD, convertA, makeFuncA, Nat.reduceAdd, Nat.reduceSub, Nat.reduceMul, Nat.reduceLT, Nat.reduceLeDiff, Nat.reduceGT, ↓reduceIte, Nat.reduceEqDiff, Nat.reduceBEq, reduceCtorEq, Int.reduceBEq, Int.reduceBNe, Int.reduceLT, Int.reduceLE, Int.reduceGT, Int.reduceGE, zT34, zT36, zT110, zT3, drawA, holes_succ, holes_zero, Array.size, List.length, h0, hl, Int.toNat_natCast, hk, lvD, a1, a2, a3, a4]
      rw [afterDraw_some _ _ _ _ (by kernel_rfl)]
      simp only [zS, zD, convertA, makeFuncA, Nat.reduceAdd, Nat.reduceSub, Nat.reduceMul, Nat.reduceLT, Nat.reduceLeDiff, Nat.reduceGT, ↓reduceIte, Nat.reduceEqDiff, Nat.reduceBEq, reduceCtorEq, Int.reduceBEq, Int.reduceBNe, Int.reduceLT, Int.reduceLE, Int.reduceGT, Int.reduceGE]
      (refine Eq.trans ?_ rfl; kernel_rfl)
    · exfalso
      simp [badLV, okLV] at hp; omega
  have hok : okLV y = true := by simp [okLV]; omega
  by_cases a5 : i ≥ 0
  · refine ⟨fun hp => ?_, fun hp out h => ?_⟩
    · simp only [dV, E120, O120, levC, Lev.d, iV, bV, hd] at hr ⊢
      (rw [show (It.code L120a) = It.code (sub B120 [1, 1, 0, 1, 0, 0]) from rfl]; simp only [B120, K120a, sub, Option.getD_some, Tryz.f120, ↓reduceIte, Nat.one_ne_zero])
      simp only [zS, zD, convertA, makeFuncA, Nat.reduceAdd, Nat.reduceSub, Nat.reduceMul, Nat.reduceLT, Nat.reduceLeDiff, Nat.reduceGT, ↓reduceIte, Nat.reduceEqDiff, Nat.reduceBEq, reduceCtorEq, Int.reduceBEq, Int.reduceBNe, Int.reduceLT, Int.reduceLE, Int.reduceGT, Int.reduceGE, zT34, zT36, zT110, zT3, drawA, holes_succ, holes_zero, Array.size, List.length, sliceA, bound, h0, hl, hkl, Int.toNat_natCast, hk, lvD, a1, a2, a3, a4, a5, hr]
      rw [afterDraw_some _ _ _ _ (by kernel_rfl)]
      simp only [zS, zD, convertA, makeFuncA, Nat.reduceAdd, Nat.reduceSub, Nat.reduceMul, Nat.reduceLT, Nat.reduceLeDiff, Nat.reduceGT, ↓reduceIte, Nat.reduceEqDiff, Nat.reduceBEq, reduceCtorEq, Int.reduceBEq, Int.reduceBNe, Int.reduceLT, Int.reduceLE, Int.reduceGT, Int.reduceGE]
      (refine Eq.trans ?_ rfl; kernel_rfl)
    · exfalso
      rw [badLV, hok, ← hi] at hp
      simp [a5] at hp
  · refine ⟨fun hp => ?_, fun hp out h => ?_⟩
    · exfalso
      rw [badLV, hok, ← hi] at hp
      simp [a5] at hp
    · simp only [dV, E120, O120, levC, Lev.d, iV, bV, hd] at hr h ⊢
      (rw [show (It.code L120a) = It.code (sub B120 [1, 1, 0, 1, 0, 0]) from rfl]; simp only [B120, K120a, sub, Option.getD_some, Tryz.f120, ↓reduceIte, Nat.one_ne_zero])
      simp only [zS, zD, convertA, makeFuncA, Nat.reduceAdd, Nat.reduceSub, Nat.reduceMul, Nat.reduceLT, Nat.reduceLeDiff, Nat.reduceGT, ↓reduceIte, Nat.reduceEqDiff, Nat.reduceBEq, reduceCtorEq, Int.reduceBEq, Int.reduceBNe, Int.reduceLT, Int.reduceLE, Int.reduceGT, Int.reduceGE, zT34, zT36, zT110, zT3, drawA, holes_succ, holes_zero, Array.size, List.length, sliceA, bound, h0, hl, hkl, Int.toNat_natCast, hk, lvD, a1, a2, a3, a4, a5, hr]
      rw [afterDraw_some _ _ _ _ (by kernel_rfl)]
      simp only [zS, zD, convertA, makeFuncA, Nat.reduceAdd, Nat.reduceSub, Nat.reduceMul, Nat.reduceLT, Nat.reduceLeDiff, Nat.reduceGT, ↓reduceIte, Nat.reduceEqDiff, Nat.reduceBEq, reduceCtorEq, Int.reduceBEq, Int.reduceBNe, Int.reduceLT, Int.reduceLE, Int.reduceGT, Int.reduceGE]
      (refine (r_inLoop_some ?_).trans h; kernel_rfl)
end Go.Proofs.YteenjodhmppgjaaGreatDoor.Am
end
section
/- Rules for slices that are made: literals of one element, append. -/
namespace Go.Proofs.YteenjodhmppgjaaGreatDoor.Am
open Go
set_option maxHeartbeats 4000000
theorem bs_one {P : Program} {look : Look} {slot : Nat} {t e : TypeId} {k : Nat} {v : V} {cs : List C} {ds : List D} {own : List Nat} (h1 : elemT P t = some e) (h2 : sizeT P e = some k) (h3 : (zeroT P e).isSome = true) (h4 : cells v = some cs) (h5 : toDs look cs = some (ds, own)) (h6 : ds.length = k) (h7 : 0 < k) (h8 : k ≤ 100) :
    buildSliceA P look slot t 1 [(0, v)] = some ⟨.val (.c (.own slot)), kills own ++ [(slot, .arr k [ds])], own⟩ := by
  simp only [buildSliceA, h1, h2, List.map_cons, List.map_nil, toDss, h4, h5, List.append_nil, List.zip_cons_cons, List.zip_nil_right, inOrder]
  rw [if_pos]
  refine ⟨rfl, h7, by omega, ?_, h3⟩
  simp [inOrder, h6]
/-- A slice that is being made: nil as long as it has no element. -/
def mkV (i : Nat) (els : List (List D)) : V := match els with | [] => .c (.d (.v (.slice none 0 0))) | _ :: _ => .c (.own i)
def mkO (k : Nat) (els : List (List D)) : List O := match els with | [] => [] | a :: r => [.arr k (a :: r)]
theorem mkV_nil (i : Nat) : mkV i [] = .c (.d (.v (.slice none 0 0))) := rfl
theorem mkV_cons (i : Nat) (a : List D) (r : List (List D)) : mkV i (a :: r) = .c (.own i) := rfl
theorem mkO_nil (k : Nat) : mkO k [] = [] := rfl
theorem mkO_cons (k : Nat) (a : List D) (r : List (List D)) : mkO k (a :: r) = [.arr k (a :: r)] := rfl
theorem mkV_snoc (i : Nat) (els : List (List D)) (x : List D) : mkV i (els ++ [x]) = .c (.own i) := by cases els <;> rfl
theorem mkO_snoc (k : Nat) (els : List (List D)) (x : List D) : mkO k (els ++ [x]) = [.arr k (els ++ [x])] := by cases els <;> rfl
theorem z34 : (zeroT Tryz.prog 110).map List.length = some 2 := by rw [zeroT_110]; rfl
theorem i34 : (zeroT Tryz.prog 110).isSome = true := by rw [zeroT_110]; rfl
theorem bsLV {look : Look} {slot : Nat} {a b : Int} : buildSliceA Tryz.prog look slot 34 1 [(0, .agg [.d (.v (.int .i64 a)), .d (.v (.int .i64 b))])] = some ⟨.val (.c (.own slot)), [(slot, .arr 2 [[.v (.int .i64 a), .v (.int .i64 b)]])], []⟩ :=
  bs_one (cs := [.d (.v (.int .i64 a)), .d (.v (.int .i64 b))]) elemT_34 sizeT_110 i34 rfl rfl rfl (by decide) (by decide)
/-- Appends to a slice that is being made, as rules for simp (d: where it is none). -/
def apD (P : Program) (look : Look) (slot : Nat) (t : TypeId) (x y : V) : Option Eff := appendA P look slot [t, t] [x, y]
def apG (k b slot id j : Nat) (o1 o2 : Option O) (d : Option Eff) : Option Eff :=
  match o2 with
  | some (.arr k2 new) => if k2 = k then match o1 with
    | some (.arr k1 els) => if k1 = k ∧ (els.length + new.length) * b ≤ 140737488355328 ∧ els.length + new.length ≤ 9223372036854775807 ∧ [j].contains id = false then some ⟨.val (.c (.own slot)), kills [j] ++ [(id, .gone), (slot, .arr k (els ++ new))], [j] ++ [id]⟩ else none
    | _ => d
    else none
  | _ => d
def apH (k b slot j : Nat) (o2 : Option O) (d : Option Eff) : Option Eff :=
  match o2 with
  | some (.arr k2 new) => if k2 = k then match new with
    | [] => some ⟨.val (.c (.d (.v (.slice none 0 0)))), [], [j]⟩
    | _ :: _ => if new.length * b ≤ 140737488355328 ∧ new.length ≤ 9223372036854775807 then some ⟨.val (.c (.own slot)), kills [j] ++ [(slot, .arr k new)], [j]⟩ else none
    else none
  | _ => d
def apI (k b slot id : Nat) (new : List (List D)) (o1 : Option O) (d : Option Eff) : Option Eff :=
  match o1 with
  | some (.arr k1 els) => if k1 = k ∧ (els.length + new.length) * b ≤ 140737488355328 ∧ els.length + new.length ≤ 9223372036854775807 ∧ ([] : List Nat).contains id = false then some ⟨.val (.c (.own slot)), kills [] ++ [(id, .gone), (slot, .arr k (els ++ new))], [] ++ [id]⟩ else none
  | _ => d
section
variable {P : Program} {look : Look} {slot : Nat} {t e : TypeId} {k b : Nat} (h1 : elemT P t = some e) (h2 : sizeT P e = some k) (h3 : bytesT P e = some b) (h4 : (zeroT P e).map List.length = some k) (h5 : 0 < k)
include h1 h2 h3 h4 h5
theorem app_oo (id j : Nat) : appendA P look slot [t, t] [.c (.own id), .c (.own j)] = apG k b slot id j (look id) (look j) (apD P look slot t (.c (.own id)) (.c (.own j))) := by
  unfold apG apD
  cases hj : look j with
  | none => rfl
  | some o =>
    cases o with
    | arr k2 new =>
      dsimp only
      by_cases hk : k2 = k
      · rw [if_pos hk]
        cases hi : look id with
        | none => rfl
        | some o =>
          cases o with
          | arr k1 els => simp only [appendA, h1, h2, h3, h4, h5, addedA, addedR, isStk, hj, hi, hk, ne_eq, not_true_eq_false, if_false, and_self, if_true, List.append_nil, Bool.false_eq_true]
          | _ => rfl
      · rw [if_neg hk]
        simp only [appendA, h1, h2, h3, h4, h5, addedA, hj, if_neg hk, ne_eq, not_true_eq_false, if_false, and_self, if_true]
    | _ => rfl
theorem app_no (j : Nat) : appendA P look slot [t, t] [.c (.d (.v (.slice none 0 0))), .c (.own j)] = apH k b slot j (look j) (apD P look slot t (.c (.d (.v (.slice none 0 0)))) (.c (.own j))) := by
  unfold apH apD
  cases hj : look j with
  | none => rfl
  | some o =>
    cases o with
    | arr k2 new =>
      dsimp only
      by_cases hk : k2 = k
      · rw [if_pos hk]
        cases new <;> simp only [appendA, h1, h2, h3, h4, h5, addedA, addedR, isStk, hj, hk, ne_eq, not_true_eq_false, if_false, and_self, if_true, List.append_nil, Bool.false_eq_true]
      · rw [if_neg hk]
        simp only [appendA, h1, h2, h3, h4, h5, addedA, hj, if_neg hk, ne_eq, not_true_eq_false, if_false, and_self, if_true]
    | _ => rfl
theorem app_os (id : Nat) (new : List (List D)) : appendA P look slot [t, t] [.c (.own id), .c (.d (.s k new))] = apI k b slot id new (look id) (apD P look slot t (.c (.own id)) (.c (.d (.s k new)))) := by
  unfold apI apD
  cases hi : look id with
  | none => rfl
  | some o =>
    cases o with
    | arr k1 els => simp only [appendA, h1, h2, h3, h4, h5, addedA, addedR, hi, ne_eq, not_true_eq_false, if_false, and_self, if_true, true_or, List.append_nil]
    | _ => rfl
end
theorem apG_arr {d : Option Eff} {k b slot id j : Nat} {els new : List (List D)} (h6 : els.length ≤ 1000000000) (h7 : new.length ≤ 1000000000) (hne : ¬ j = id) (hb : b ≤ 1000) : apG k b slot id j (some (.arr k els)) (some (.arr k new)) d = some ⟨.val (.c (.own slot)), [(j, .gone), (id, .gone), (slot, .arr k (els ++ new))], [j, id]⟩ := by
  have hc : ([j].contains id) = false := by simp; exact fun e => hne e.symm
  unfold apG
  dsimp only
  rw [if_pos rfl, if_pos ⟨rfl, Nat.le_trans (Nat.mul_le_mul (Nat.add_le_add h6 h7) hb) (by decide), by omega, hc⟩]
  rfl
theorem apH_arr {d : Option Eff} {k b slot j : Nat} {x : List D} {new : List (List D)} (h7 : new.length ≤ 1000000000) (hb : b ≤ 1000) : apH k b slot j (some (.arr k (x :: new))) d = some ⟨.val (.c (.own slot)), [(j, .gone), (slot, .arr k (x :: new))], [j]⟩ := by
  unfold apH
  dsimp only
  rw [if_pos rfl, if_pos ⟨Nat.le_trans (Nat.mul_le_mul (Nat.le_refl _) hb) (by simp only [List.length_cons]; omega), by simp only [List.length_cons]; omega⟩]
  rfl
theorem apI_arr {d : Option Eff} {k b slot id : Nat} {els new : List (List D)} (h6 : els.length ≤ 1000000000) (h7 : new.length ≤ 1000000000) (hb : b ≤ 1000) : apI k b slot id new (some (.arr k els)) d = some ⟨.val (.c (.own slot)), [(id, .gone), (slot, .arr k (els ++ new))], [id]⟩ := by
  unfold apI
  dsimp only
  rw [if_pos ⟨rfl, Nat.le_trans (Nat.mul_le_mul (Nat.add_le_add h6 h7) hb) (by decide), by omega, rfl⟩]
  rfl
section
variable (look : Look) (slot id j : Nat) (new : List (List D))
theorem oo34 : appendA Tryz.prog look slot [34, 34] [.c (.own id), .c (.own j)] = apG 2 16 slot id j (look id) (look j) (apD Tryz.prog look slot 34 (.c (.own id)) (.c (.own j))) := app_oo elemT_34 sizeT_110 bytesT_110 z34 (by decide) id j
theorem no34 : appendA Tryz.prog look slot [34, 34] [.c (.d (.v (.slice none 0 0))), .c (.own j)] = apH 2 16 slot j (look j) (apD Tryz.prog look slot 34 (.c (.d (.v (.slice none 0 0)))) (.c (.own j))) := app_no elemT_34 sizeT_110 bytesT_110 z34 (by decide) j
theorem bs0 : buildSliceA Tryz.prog look slot 144 0 [] = some ⟨.val (.c (.own slot)), [(slot, .arr 2 [])], []⟩ := by
  simp only [buildSliceA, elemT_144, sizeT_110, List.map_nil, toDss]
  rw [if_pos]
  · rfl
  · exact ⟨rfl, by decide, by decide, rfl, i34⟩
theorem os144 : appendA Tryz.prog look slot [144, 144] [.c (.own id), .c (.d (.s 2 new))] = apI 2 16 slot id new (look id) (apD Tryz.prog look slot 144 (.c (.own id)) (.c (.d (.s 2 new)))) := app_os elemT_144 sizeT_110 bytesT_110 z34 (by decide) id new
end
/-! ### calls that take an own slice as data -/
def coK (rec : Rec) (slot : Nat) (f : FuncId) (pre : List V) (id : Nat) (post : List V) (o : Option O) : Option Eff :=
  match o with
  | some (.arr k els) => stkB (callOut [] [id] slot (rec (.call f (pre ++ .c (.d (.s k els)) :: post) [])))
  | _ => none
theorem argVs_append {look : Look} : ∀ {pre xs ys : List V} {a : List Nat}, pre.all dataV = true → argVs look xs = some (ys, a) → argVs look (pre ++ xs) = some (pre ++ ys, a)
  | [], _, _, _, _, h => h
  | v :: pre, xs, ys, a, hp, h => by
    simp only [List.all_cons, Bool.and_eq_true] at hp
    obtain ⟨h1, _, _⟩ := argV_data (look := look) hp.1
    have := argVs_append hp.2 h
    simp only [List.cons_append, argVs, h1, this, List.nil_append]
theorem callA_own (rec : Rec) (look : Look) (slot : Nat) (f : FuncId) (pre : List V) (id : Nat) (post : List V) (hf : ownF f = false) (hp : pre.all dataV = true) (hq : post.all dataV = true) :
    callA rec look slot f (pre ++ .c (.own id) :: post) = coK rec slot f pre id post (look id) := by
  obtain ⟨h1, h2, h3⟩ := argVs_data (look := look) hp
  obtain ⟨k1, k2, k3⟩ := argVs_data (look := look) hq
  unfold callA callPrep coK
  have e1 : argVs look (.c (.own id) :: post) = match look id with | some (.arr k els) => some (.c (.d (.s k els)) :: post, [id]) | _ => none := by
    simp only [argVs, argV, argC, k1]
    cases look id with
    | none => rfl
    | some o => cases o <;> rfl
  rw [hf]
  simp only [argVsK]
  cases hl : look id with
  | none =>
    have : argVs look (pre ++ .c (.own id) :: post) = none := by
      rw [hl] at e1
      clear h1 h2 h3
      induction pre with
      | nil => exact e1
      | cons v pre ih =>
        simp only [List.all_cons, Bool.and_eq_true] at hp
        simp only [List.cons_append, argVs, (argV_data (look := look) hp.1).1, ih hp.2]
    rw [this]; rfl
  | some o =>
    cases o with
    | arr k els =>
      rw [hl] at e1
      rw [argVs_append hp e1]
      dsimp only
      have e2 : (pre ++ V.c (C.d (D.s k els)) :: post).flatMap refsV = [] := by rw [List.flatMap_append, List.flatMap_cons, h2, k2]; rfl
      rw [e2]
      have hr : Am.reach look 200 [] [] = [] := rfl
      have hm : mapO (renV (pos [])) (pre ++ V.c (C.d (D.s k els)) :: post) = some (pre ++ V.c (C.d (D.s k els)) :: post) := (argVs_data (look := look) (by rw [List.all_append, List.all_cons, hp, hq]; rfl)).2.2 _
      rw [hr, hm]
      have h1 : mapO look [] = some ([] : List O) := rfl
      exact stkBack_out (by intro i hi; have : i = id := by simpa using hi
                            rw [this, hl]; rfl)
    | box _ | raw _ | gone | hole | stk _ _ _ _ =>
      rw [hl] at e1
      have : argVs look (pre ++ .c (.own id) :: post) = none := by
        clear h1 h2 h3
        induction pre with
        | nil => exact e1
        | cons v pre ih =>
          simp only [List.all_cons, Bool.and_eq_true] at hp
          simp only [List.cons_append, argVs, (argV_data (look := look) hp.1).1, ih hp.2]
      rw [this]; rfl
theorem callA_o1 (rec : Rec) (look : Look) (slot : Nat) (f : FuncId) (v : V) (id : Nat) (hf : ownF f = false) (hv : dataV v = true) : callA rec look slot f [v, .c (.own id)] = coK rec slot f [v] id [] (look id) := callA_own rec look slot f [v] id [] hf (by simp [hv]) rfl
theorem coK_arr (rec : Rec) (slot : Nat) (f : FuncId) (pre : List V) (id : Nat) (post : List V) (k : Nat) (els : List (List D)) : coK rec slot f pre id post (some (.arr k els)) = stkB (callOut [] [id] slot (rec (.call f (pre ++ .c (.d (.s k els)) :: post) []))) := rfl
/-! ### calls that are handed an own slice as it is -/
def cwK (rec : Rec) (look : Look) (slot : Nat) (f : FuncId) (id : Nat) (post : List V) (o : Option O) : Option Eff :=
  match o with
  | some (.arr k els) => if castF f = true then callA rec look slot f (.c (.own id) :: post) else stkB (callOut [id] [] slot (rec (.call f (.c (.own 0) :: post) [.arr k els])))
  | _ => callA rec look slot f (.c (.own id) :: post)
theorem callA_keep (rec : Rec) (look : Look) (slot : Nat) (f : FuncId) (id : Nat) (post : List V) (hf : ownF f = true) (hq : post.all dataV = true) : callA rec look slot f (.c (.own id) :: post) = cwK rec look slot f id post (look id) := by
  cases hl : look id with
  | none => rfl
  | some o =>
    cases o with
    | arr k els =>
      obtain ⟨k1, k2, k3⟩ := argVs_data (look := look) hq
      unfold callA callPrep cwK
      rw [hf]
      simp only [argVsK]
      have a2 : (V.c (C.own id) :: post).flatMap refsV = [id] := by rw [List.flatMap_cons, k2]; rfl
      have a3 : Am.reach look 200 [] [id] = [id] := by
        show (if ([] : List Nat).contains id = true then _ else Am.reach look 199 ([] ++ [id]) ([] ++ refsO (look id))) = [id]
        rw [hl]
        rfl
      have a4 : mapO (renV (pos [id])) (.c (.own id) :: post) = some (.c (.own 0) :: post) := by
        have e : renV (pos [id]) (.c (.own id)) = some (.c (.own 0)) := by simp [renV, renC, pos]
        simp only [mapO, e, k3]
      have a5 : mapO look [id] = some [.arr k els] := by simp only [mapO, hl]
      have a6 : mapO (renO (pos [id])) [.arr k els] = some [.arr k els] := rfl
      cases hcf : castF f with
      | true => simp [callA, callPrep, hf, argVsK]
      | false =>
      have a7 : callRec rec f (.c (.own 0) :: post) [.arr k els] = rec (.call f (.c (.own 0) :: post) [.arr k els]) := by unfold callRec; rw [hcf]; rfl
      have a8 : stkOK look [id] = true := by simp [stkOK, stkOne, hl, isStk]
      have a9 : [O.arr k els].map enterO = [O.arr k els] := rfl
      simp only [a2, a3, a4, a5, a9, a6, a8]
      refine Eq.trans (b := stkBack look slot (callOut [id] [] slot (callRec rec f (.c (.own 0) :: post) [.arr k els]))) (by simp [callFin]) ?_
      rw [a7, if_neg (by decide)]
      exact stkBack_out (by intro i hi; have : i = id := by simpa using hi
                            rw [this, hl]; rfl)
    | _ => rfl
theorem cwK_arr (rec : Rec) (look : Look) (slot : Nat) (f : FuncId) (id : Nat) (post : List V) (k : Nat) (els : List (List D)) (hc : castF f = false) : cwK rec look slot f id post (some (.arr k els)) = stkB (callOut [id] [] slot (rec (.call f (.c (.own 0) :: post) [.arr k els]))) := by unfold cwK; dsimp only; rw [if_neg (by rw [hc]; decide)]
theorem callOut_kept (id slot k : Nat) (els : List (List D)) : callOut [id] [] slot (some (.ret [] [.arr k els])) = some ⟨.val (.tup []), [(id, .arr k els)], [id]⟩ := rfl
/-- A call that hands an own slice back as it is. -/
theorem callOut_own (slot k : Nat) (els : List (List D)) : callOut [] [] slot (some (.ret [.c (.own 0)] [.arr k els])) = some ⟨.val (.c (.own slot)), [(slot, .arr k els)], []⟩ := rfl
end Go.Proofs.YteenjodhmppgjaaGreatDoor.Am
end
section
/- Levels: the canonical form, by the program; Valid by the reference. -/
namespace Go.Proofs.YteenjodhmppgjaaGreatDoor.Am
open Go
variable (ext : Ext)
set_option maxHeartbeats 4000000
noncomputable def B126 : Code := (Tryz.f126.body.getD .skip)
noncomputable def L126a : Code := sub B126 [1, 1, 0, 1, 0, 0]
noncomputable def K126a : List It := [.inBlock 0, .code (sub B126 [1, 1, 1])]
noncomputable def H126a (ext : Ext) (m : Nat) (env : Env) (loc : List O) : Option Out := run Tryz.prog ext (.k ⟨64, m, [.tmp 2], false⟩ (.code L126a :: .inLoop L126a :: K126a) env loc)
noncomputable def L126b : Code := sub B126 [1, 1, 0, 1, 0, 0, 1, 0, 0, 1, 1, 1, 0, 0]
noncomputable def K126b : List It := [.inBlock 2, .inBlock 1, .code (sub B126 [1, 1, 0, 1, 0, 0, 1, 1]), .inLoop L126a, .inBlock 0, .code (sub B126 [1, 1, 1])]
noncomputable def H126b (ext : Ext) (m : Nat) (env : Env) (loc : List O) : Option Out := run Tryz.prog ext (.k ⟨64, m, [.tmp 2], false⟩ (.code L126b :: .inLoop L126b :: K126b) env loc)
noncomputable def B195 : Code := (Tryz.f195.body.getD .skip)
noncomputable def L195a : Code := sub B195 [1, 1, 0, 1, 0, 0]
noncomputable def K195a : List It := [.inBlock 0, .code (sub B195 [1, 1, 1])]
noncomputable def H195a (ext : Ext) (m : Nat) (env : Env) (loc : List O) : Option Out := run Tryz.prog ext (.k ⟨18, m, [.tmp 2], false⟩ (.code L195a :: .inLoop L195a :: K195a) env loc)
def zLev : Lev := ⟨0, [], true⟩
theorem levC_z : levC zLev = [.d (.v (.int .i64 0)), .d (.v (.slice none 0 0))] := rfl
/-! ### Valid -/
theorem none_iff {α : Type} {p : Nat → α → Bool} : ∀ {l : List α} {k : Nat}, idxFrom p k l = none ↔ ∀ (i : Nat) x, l[i]? = some x → p (k + i) x = false
  | [], k => by simp [idxFrom]
  | a :: l, k => by
    rw [idxFrom]
    constructor
    · intro h i x hx
      split at h
      · cases h
      · rename_i hp
        cases i with
        | zero => simp at hx; subst hx; simpa using hp
        | succ i => have := (none_iff.1 h) i x (by simpa using hx); rw [← this]; congr 1; omega
    · intro h
      have h0 := h 0 a (by simp)
      rw [if_neg (by simpa using h0)]
      exact none_iff.2 fun i x hx => by have := h (i + 1) x (by simpa using hx); rw [← this]; congr 1; omega
theorem valid120 (h120 : ext 120 = none) (hx : ext 190 = none) (hx1 : ext 234 = none) (hx2 : ext 235 = none) (x : Lev) : run Tryz.prog ext (.call 120 [levV x] []) = some (.ret [bV x.valid] []) := by
  by_cases h : x.c < 0 ∨ x.c > 1000 ∨ (x.vs.length : Int) > 8
  · rw [bad120 ext h120 x h]
    have : x.valid = false := by
      unfold Lev.valid
      rcases h with h | h | h
      · have : decide (0 ≤ x.c) = false := decide_eq_false (by omega)
        simp [this]
      · have : decide (x.c ≤ 1000) = false := decide_eq_false (by omega)
        simp [this]
      · have : decide (x.vs.length ≤ 8) = false := decide_eq_false (by omega)
        simp [this]
    rw [this]
  · have a1 : ¬ x.c < 0 := fun e => h (.inl e)
    have a2 : ¬ x.c > 1000 := fun e => h (.inr (.inl e))
    have a3 : ¬ (x.vs.length : Int) > 8 := fun e => h (.inr (.inr e))
    refine enter120 ext h120 x _ a1 a2 a3 ?_
    have hd : H120a ext 0 (E120 x x.vs.length) (O120 x) = some (.ret [bV true] []) := by
      unfold H120a
      simp only [dV, E120, O120, levC, iV, bV]
      (rw [show (It.code L120a) = It.code (sub B120 [1, 1, 0, 1, 0, 0]) from rfl]; simp only [B120, K120a, sub, Option.getD_some, Tryz.f120, ↓reduceIte, Nat.one_ne_zero])
      simp only [zS, zD, convertA, makeFuncA, Nat.reduceAdd, Nat.reduceSub, Nat.reduceMul, Nat.reduceLT, Nat.reduceLeDiff, Nat.reduceGT, ↓reduceIte, Nat.reduceEqDiff, Nat.reduceBEq, reduceCtorEq, Int.reduceBEq, Int.reduceBNe, Int.reduceLT, Int.reduceLE, Int.reduceGT, Int.reduceGE, zT34, zT36, zT110, zT3, Int.lt_irrefl]
      (refine Eq.trans ?_ rfl; kernel_rfl)
    have := loop_findK x.vs (fun k => H120a ext 0 (E120 x k) (O120 x)) (badLV x.vs) (fun _ => some (.ret [bV false] [])) (some (.ret [bV true] [])) (by omega) (fun k y hk hl => step120 ext hx hx1 hx2 x y k hk hl (by omega)) hd
    rw [this]
    have b1 : decide (0 ≤ x.c) = true := decide_eq_true (by omega)
    have b2 : decide (x.c ≤ 1000) = true := decide_eq_true (by omega)
    have b3 : decide (x.vs.length ≤ 8) = true := decide_eq_true (by omega)
    unfold Lev.valid
    rw [b1, b2, b3]
    cases idxFrom (badLV x.vs) 0 x.vs <;> rfl
def E126 (k : Int) : Env := [(1, .c (.ptr 0 0)), (3, iV k)]
theorem enter126 (hx : ext 126 = none) (x : Lev) (out : Option Out) (h1 : ¬ x.c < 0) (h2 : ¬ x.c > 1000) (h3 : ¬ (x.vs.length : Int) > 8) (h : H126a ext 0 (E126 0) (O120 x) = out) : run Tryz.prog ext (.call 126 [levV x] []) = out := by
  unfold H126a at h
  (rw [run_eq]; simp only [stepA, hx, Tryz.func126, Tryz.f126, show retF 126 = false from rfl]; simp only [List.length_cons, List.length_nil, Nat.reduceAdd, Nat.reduceLeDiff, Nat.zero_le, ↓reduceIte, List.zipIdx_cons, List.zipIdx_nil, List.map_cons, List.map_nil])
  simp only [levV, E126, O120, levC, Lev.d, dV, iV] at h ⊢
  simp only [zS, zD, convertA, makeFuncA, Nat.reduceAdd, Nat.reduceSub, Nat.reduceMul, Nat.reduceLT, Nat.reduceLeDiff, Nat.reduceGT, ↓reduceIte, Nat.reduceEqDiff, Nat.reduceBEq, reduceCtorEq, Int.reduceBEq, Int.reduceBNe, Int.reduceLT, Int.reduceLE, Int.reduceGT, Int.reduceGE, zT36, zT34, zT110, zT3, h1, h2, h3]
  (refine (r_inLoop_some ?_).trans h; kernel_rfl)
theorem bad126 (hx : ext 126 = none) (x : Lev) (h : x.c < 0 ∨ x.c > 1000 ∨ (x.vs.length : Int) > 8) : run Tryz.prog ext (.call 126 [levV x] []) = some (.ret [bV false] []) := by
  by_cases h1 : x.c < 0
  · (rw [run_eq]; simp only [stepA, hx, Tryz.func126, Tryz.f126, show retF 126 = false from rfl]; simp only [List.length_cons, List.length_nil, Nat.reduceAdd, Nat.reduceLeDiff, Nat.zero_le, ↓reduceIte, List.zipIdx_cons, List.zipIdx_nil, List.map_cons, List.map_nil])
    simp only [levV, levC, Lev.d]
    simp only [zS, zD, convertA, makeFuncA, Nat.reduceAdd, Nat.reduceSub, Nat.reduceMul, Nat.reduceLT, Nat.reduceLeDiff, Nat.reduceGT, ↓reduceIte, Nat.reduceEqDiff, Nat.reduceBEq, reduceCtorEq, Int.reduceBEq, Int.reduceBNe, Int.reduceLT, Int.reduceLE, Int.reduceGT, Int.reduceGE, zT36, zT34, zT110, zT3, h1]
    (refine Eq.trans ?_ rfl; kernel_rfl)
  by_cases h2 : x.c > 1000
  · (rw [run_eq]; simp only [stepA, hx, Tryz.func126, Tryz.f126, show retF 126 = false from rfl]; simp only [List.length_cons, List.length_nil, Nat.reduceAdd, Nat.reduceLeDiff, Nat.zero_le, ↓reduceIte, List.zipIdx_cons, List.zipIdx_nil, List.map_cons, List.map_nil])
    simp only [levV, levC, Lev.d]
    simp only [zS, zD, convertA, makeFuncA, Nat.reduceAdd, Nat.reduceSub, Nat.reduceMul, Nat.reduceLT, Nat.reduceLeDiff, Nat.reduceGT, ↓reduceIte, Nat.reduceEqDiff, Nat.reduceBEq, reduceCtorEq, Int.reduceBEq, Int.reduceBNe, Int.reduceLT, Int.reduceLE, Int.reduceGT, Int.reduceGE, zT36, zT34, zT110, zT3, h1, h2]
    (refine Eq.trans ?_ rfl; kernel_rfl)
  have h3 : (x.vs.length : Int) > 8 := by omega
  (rw [run_eq]; simp only [stepA, hx, Tryz.func126, Tryz.f126, show retF 126 = false from rfl]; simp only [List.length_cons, List.length_nil, Nat.reduceAdd, Nat.reduceLeDiff, Nat.zero_le, ↓reduceIte, List.zipIdx_cons, List.zipIdx_nil, List.map_cons, List.map_nil])
  simp only [levV, levC, Lev.d]
  simp only [zS, zD, convertA, makeFuncA, Nat.reduceAdd, Nat.reduceSub, Nat.reduceMul, Nat.reduceLT, Nat.reduceLeDiff, Nat.reduceGT, ↓reduceIte, Nat.reduceEqDiff, Nat.reduceBEq, reduceCtorEq, Int.reduceBEq, Int.reduceBNe, Int.reduceLT, Int.reduceLE, Int.reduceGT, Int.reduceGE, zT36, zT34, zT110, zT3, h1, h2, h3]
  (refine Eq.trans ?_ rfl; kernel_rfl)
def E126b (k j : Int) : Env := [(1, .c (.ptr 0 0)), (3, iV k), (4, .c (.ptr 1 0)), (5, iV j)]
def O126b (x : Lev) (y : LV) : List O := [.box (levC x), .box (lvC y)]
theorem bad126a (x : Lev) (y : LV) (k : Nat) (hk : x.vs[k]? = some y) (hl : (k : Int) < x.vs.length) (hb : okLV y = false) : H126a ext 0 (E126 k) (O120 x) = some (.ret [bV false] []) := by
  have h0 : (0 : Int) ≤ k := by omega
  have hd : listD x.z 2 (x.vs.map lvD) = .s 2 (x.vs.map lvD) := listD_of_lt h0 (by simpa using hl)
  unfold H126a
  simp only [dV, E126, O120, levC, Lev.d, iV, bV, hd]
  (rw [show (It.code L126a) = It.code (sub B126 [1, 1, 0, 1, 0, 0]) from rfl]; simp only [B126, K126a, sub, Option.getD_some, Tryz.f126, ↓reduceIte, Nat.one_ne_zero])
  by_cases a1 : y.v < 0
  · simp only [zS, zD, convertA, makeFuncA, Nat.reduceAdd, Nat.reduceSub, Nat.reduceMul, Nat.reduceLT, Nat.reduceLeDiff, Nat.reduceGT, ↓reduceIte, Nat.reduceEqDiff, Nat.reduceBEq, reduceCtorEq, Int.reduceBEq, Int.reduceBNe, Int.reduceLT, Int.reduceLE, Int.reduceGT, Int.reduceGE, zT34, zT36, zT110, zT3, h0, hl, Int.toNat_natCast, hk, lvD, a1]
    (refine Eq.trans ?_ rfl; kernel_rfl)
  by_cases a2 : y.v ≥ 1200
  · simp only [zS, zD, convertA, makeFuncA, Nat.reduceAdd, Nat.reduceSub, Nat.reduceMul, Nat.reduceLT, Nat.reduceLeDiff, Nat.reduceGT, ↓reduceIte, Nat.reduceEqDiff, Nat.reduceBEq, reduceCtorEq, Int.reduceBEq, Int.reduceBNe, Int.reduceLT, Int.reduceLE, Int.reduceGT, Int.reduceGE, zT34, zT36, zT110, zT3, h0, hl, Int.toNat_natCast, hk, lvD, a1, a2]
    (refine Eq.trans ?_ rfl; kernel_rfl)
  by_cases a3 : y.p < 0
  · simp only [zS, zD, convertA, makeFuncA, Nat.reduceAdd, Nat.reduceSub, Nat.reduceMul, Nat.reduceLT, Nat.reduceLeDiff, Nat.reduceGT, ↓reduceIte, Nat.reduceEqDiff, Nat.reduceBEq, reduceCtorEq, Int.reduceBEq, Int.reduceBNe, Int.reduceLT, Int.reduceLE, Int.reduceGT, Int.reduceGE, zT34, zT36, zT110, zT3, h0, hl, Int.toNat_natCast, hk, lvD, a1, a2, a3]
    (refine Eq.trans ?_ rfl; kernel_rfl)
  by_cases a4 : y.p > 1000
  · simp only [zS, zD, convertA, makeFuncA, Nat.reduceAdd, Nat.reduceSub, Nat.reduceMul, Nat.reduceLT, Nat.reduceLeDiff, Nat.reduceGT, ↓reduceIte, Nat.reduceEqDiff, Nat.reduceBEq, reduceCtorEq, Int.reduceBEq, Int.reduceBNe, Int.reduceLT, Int.reduceLE, Int.reduceGT, Int.reduceGE, zT34, zT36, zT110, zT3, h0, hl, Int.toNat_natCast, hk, lvD, a1, a2, a3, a4]
    (refine Eq.trans ?_ rfl; kernel_rfl)
  simp [okLV] at hb; omega
theorem ok126a (x : Lev) (y : LV) (k : Nat) (hk : x.vs[k]? = some y) (hl : (k : Int) < x.vs.length) (hb : okLV y = true) (out : Option Out) (h : H126b ext 0 (E126b k 0) (O126b x y) = out) : H126a ext 0 (E126 k) (O120 x) = out := by
  have h0 : (0 : Int) ≤ k := by omega
  have hd : listD x.z 2 (x.vs.map lvD) = .s 2 (x.vs.map lvD) := listD_of_lt h0 (by simpa using hl)
  simp [okLV] at hb
  have a1 : ¬ y.v < 0 := by omega
  have a2 : ¬ y.v ≥ 1200 := by omega
  have a3 : ¬ y.p < 0 := by omega
  have a4 : ¬ y.p > 1000 := by omega
  unfold H126a
  unfold H126b at h
  simp only [dV, E126, E126b, O126b, O120, levC, lvC, Lev.d, iV, bV, hd] at h ⊢
  (rw [show (It.code L126a) = It.code (sub B126 [1, 1, 0, 1, 0, 0]) from rfl]; simp only [B126, K126a, sub, Option.getD_some, Tryz.f126, ↓reduceIte, Nat.one_ne_zero])
  simp only [zS, zD, convertA, makeFuncA, Nat.reduceAdd, Nat.reduceSub, Nat.reduceMul, Nat.reduceLT, Nat.reduceLeDiff, Nat.reduceGT, ↓reduceIte, Nat.reduceEqDiff, Nat.reduceBEq, reduceCtorEq, Int.reduceBEq, Int.reduceBNe, Int.reduceLT, Int.reduceLE, Int.reduceGT, Int.reduceGE, zT34, zT36, zT110, zT3, h0, hl, Int.toNat_natCast, hk, lvD, a1, a2, a3, a4]
  (refine (r_inLoop_some ?_).trans h; kernel_rfl)
theorem step126b (x : Lev) (y w : LV) (k j : Nat) (hj : x.vs[j]? = some w) (hjk : (j : Int) < k) (hl : (j : Int) < x.vs.length) :
    ((w.v == y.v) = true → H126b ext 0 (E126b k j) (O126b x y) = some (.ret [bV false] [])) ∧ ((w.v == y.v) = false → ∀ out, H126b ext 0 (E126b k (wr ((j : Int) + 1))) (O126b x y) = out → H126b ext 0 (E126b k j) (O126b x y) = out) := by
  have h0 : (0 : Int) ≤ j := by omega
  have hd : listD x.z 2 (x.vs.map lvD) = .s 2 (x.vs.map lvD) := listD_of_lt h0 (by simpa using hl)
  unfold H126b
  refine ⟨fun hp => ?_, fun hp out h => ?_⟩
  · simp only [dV, E126b, O126b, levC, lvC, Lev.d, iV, bV, hd]
    (rw [show (It.code L126b) = It.code (sub B126 [1, 1, 0, 1, 0, 0, 1, 0, 0, 1, 1, 1, 0, 0]) from rfl]; simp only [B126, K126b, sub, Option.getD_some, Tryz.f126, ↓reduceIte, Nat.one_ne_zero])
    simp only [zS, zD, convertA, makeFuncA, Nat.reduceAdd, Nat.reduceSub, Nat.reduceMul, Nat.reduceLT, Nat.reduceLeDiff, Nat.reduceGT, ↓reduceIte, Nat.reduceEqDiff, Nat.reduceBEq, reduceCtorEq, Int.reduceBEq, Int.reduceBNe, Int.reduceLT, Int.reduceLE, Int.reduceGT, Int.reduceGE, zT34, zT36, zT110, zT3, drawA, holes_succ, holes_zero, Array.size, List.length, h0, hl, hjk, Int.toNat_natCast, hj, lvD, hp]
    rw [afterDraw_some _ _ _ _ (by kernel_rfl)]
    simp only [zS, zD, convertA, makeFuncA, Nat.reduceAdd, Nat.reduceSub, Nat.reduceMul, Nat.reduceLT, Nat.reduceLeDiff, Nat.reduceGT, ↓reduceIte, Nat.reduceEqDiff, Nat.reduceBEq, reduceCtorEq, Int.reduceBEq, Int.reduceBNe, Int.reduceLT, Int.reduceLE, Int.reduceGT, Int.reduceGE]
    (refine Eq.trans ?_ rfl; kernel_rfl)
  · simp only [dV, E126b, O126b, levC, lvC, Lev.d, iV, bV, hd] at h ⊢
    (rw [show (It.code L126b) = It.code (sub B126 [1, 1, 0, 1, 0, 0, 1, 0, 0, 1, 1, 1, 0, 0]) from rfl]; simp only [B126, K126b, sub, Option.getD_some, Tryz.f126, ↓reduceIte, Nat.one_ne_zero])
    simp only [zS, zD, convertA, makeFuncA, Nat.reduceAdd, Nat.reduceSub, Nat.reduceMul, Nat.reduceLT, Nat.reduceLeDiff, Nat.reduceGT, ↓reduceIte, Nat.reduceEqDiff, Nat.reduceBEq, reduceCtorEq, Int.reduceBEq, Int.reduceBNe, Int.reduceLT, Int.reduceLE, Int.reduceGT, Int.reduceGE, zT34, zT36, zT110, zT3, drawA, holes_succ, holes_zero, Array.size, List.length, h0, hl, hjk, Int.toNat_natCast, hj, lvD, hp]
    rw [afterDraw_some _ _ _ _ (by kernel_rfl)]
    simp only [zS, zD, convertA, makeFuncA, Nat.reduceAdd, Nat.reduceSub, Nat.reduceMul, Nat.reduceLT, Nat.reduceLeDiff, Nat.reduceGT, ↓reduceIte, Nat.reduceEqDiff, Nat.reduceBEq, reduceCtorEq, Int.reduceBEq, Int.reduceBNe, Int.reduceLT, Int.reduceLE, Int.reduceGT, Int.reduceGE]
    (refine (r_inLoop_some ?_).trans h; kernel_rfl)
theorem done126b (x : Lev) (y : LV) (k : Nat) (out : Option Out) (h : H126a ext 0 (E126 (wr ((k : Int) + 1))) (O120 x) = out) : H126b ext 0 (E126b k k) (O126b x y) = out := by
  unfold H126b
  unfold H126a at h
  simp only [dV, E126, E126b, O126b, O120, levC, lvC, Lev.d, iV, bV] at h ⊢
  (rw [show (It.code L126b) = It.code (sub B126 [1, 1, 0, 1, 0, 0, 1, 0, 0, 1, 1, 1, 0, 0]) from rfl]; simp only [B126, K126b, sub, Option.getD_some, Tryz.f126, ↓reduceIte, Nat.one_ne_zero])
  simp only [zS, zD, convertA, makeFuncA, Nat.reduceAdd, Nat.reduceSub, Nat.reduceMul, Nat.reduceLT, Nat.reduceLeDiff, Nat.reduceGT, ↓reduceIte, Nat.reduceEqDiff, Nat.reduceBEq, reduceCtorEq, Int.reduceBEq, Int.reduceBNe, Int.reduceLT, Int.reduceLE, Int.reduceGT, Int.reduceGE, zT34, zT36, zT110, zT3, Int.lt_irrefl]
  (refine (r_inLoop_some ?_).trans h; kernel_rfl)
theorem done126 (x : Lev) : H126a ext 0 (E126 x.vs.length) (O120 x) = some (.ret [bV true] []) := by
  unfold H126a
  simp only [dV, E126, O120, levC, Lev.d, iV, bV]
  (rw [show (It.code L126a) = It.code (sub B126 [1, 1, 0, 1, 0, 0]) from rfl]; simp only [B126, K126a, sub, Option.getD_some, Tryz.f126, ↓reduceIte, Nat.one_ne_zero])
  simp only [zS, zD, convertA, makeFuncA, Nat.reduceAdd, Nat.reduceSub, Nat.reduceMul, Nat.reduceLT, Nat.reduceLeDiff, Nat.reduceGT, ↓reduceIte, Nat.reduceEqDiff, Nat.reduceBEq, reduceCtorEq, Int.reduceBEq, Int.reduceBNe, Int.reduceLT, Int.reduceLE, Int.reduceGT, Int.reduceGE, zT34, zT36, zT110, zT3, Int.lt_irrefl]
  (refine Eq.trans ?_ rfl; kernel_rfl)
theorem step126 (x : Lev) (y : LV) (k : Nat) (hk : x.vs[k]? = some y) (hl : (k : Int) < x.vs.length) (hs : x.vs.length < 2 ^ 62) :
    (badLV x.vs k y = true → H126a ext 0 (E126 k) (O120 x) = some (.ret [bV false] [])) ∧ (badLV x.vs k y = false → ∀ out, H126a ext 0 (E126 (wr ((k : Int) + 1))) (O120 x) = out → H126a ext 0 (E126 k) (O120 x) = out) := by
  cases hok : okLV y with
  | false => exact ⟨fun _ => bad126a ext x y k hk hl hok, fun hp => by simp [badLV, hok] at hp⟩
  | true =>
    have hlen : (x.vs.take k).length = k := by simp; omega
    have key : ∀ out, H126a ext 0 (E126 (wr ((k : Int) + 1))) (O120 x) = out → H126b ext 0 (E126b k 0) (O126b x y) = match (x.vs.take k).findIdx? (fun w => w.v == y.v) with | some _ => some (.ret [bV false] []) | none => out := by
      intro out h
      refine loop_find (x.vs.take k) (fun j => H126b ext 0 (E126b k j) (O126b x y)) (fun w => w.v == y.v) (fun _ => some (.ret [bV false] [])) out (by omega) (fun j w hj hjl => ?_) ?_
      · rw [hlen] at hjl
        have hj' : x.vs[j]? = some w := by rw [List.getElem?_take_of_lt (by omega)] at hj; exact hj
        exact step126b ext x y w k j hj' hjl (by omega)
      · rw [hlen]; exact done126b ext x y k out h
    have hany := find_some (l := x.vs.take k) (p := fun w : LV => w.v == y.v)
    refine ⟨fun hp => ?_, fun hp out h => ?_⟩
    · refine ok126a ext x y k hk hl hok _ ?_
      rw [key _ rfl]
      have : (x.vs.take k).any (fun w => w.v == y.v) = true := by simpa [badLV, hok] using hp
      rw [← hany] at this
      cases hf : (x.vs.take k).findIdx? (fun w => w.v == y.v) with
      | none => rw [hf] at this; cases this
      | some i => rfl
    · refine ok126a ext x y k hk hl hok _ ?_
      rw [key _ h]
      have : (x.vs.take k).any (fun w => w.v == y.v) = false := by simpa [badLV, hok] using hp
      rw [← hany] at this
      cases hf : (x.vs.take k).findIdx? (fun w => w.v == y.v) with
      | none => rfl
      | some i => rw [hf] at this; cases this
theorem valid126 (hx : ext 126 = none) (x : Lev) : run Tryz.prog ext (.call 126 [levV x] []) = some (.ret [bV x.valid] []) := by
  by_cases h : x.c < 0 ∨ x.c > 1000 ∨ (x.vs.length : Int) > 8
  · rw [bad126 ext hx x h]
    have : x.valid = false := by
      unfold Lev.valid
      rcases h with h | h | h
      · have : decide (0 ≤ x.c) = false := decide_eq_false (by omega)
        simp [this]
      · have : decide (x.c ≤ 1000) = false := decide_eq_false (by omega)
        simp [this]
      · have : decide (x.vs.length ≤ 8) = false := decide_eq_false (by omega)
        simp [this]
    rw [this]
  · have a1 : ¬ x.c < 0 := fun e => h (.inl e)
    have a2 : ¬ x.c > 1000 := fun e => h (.inr (.inl e))
    have a3 : ¬ (x.vs.length : Int) > 8 := fun e => h (.inr (.inr e))
    refine enter126 ext hx x _ a1 a2 a3 ?_
    have := loop_findK x.vs (fun k => H126a ext 0 (E126 k) (O120 x)) (badLV x.vs) (fun _ => some (.ret [bV false] [])) (some (.ret [bV true] [])) (by omega) (fun k y hk hl => step126 ext x y k hk hl (by omega)) (done126 ext x)
    rw [this]
    have b1 : decide (0 ≤ x.c) = true := decide_eq_true (by omega)
    have b2 : decide (x.c ≤ 1000) = true := decide_eq_true (by omega)
    have b3 : decide (x.vs.length ≤ 8) = true := decide_eq_true (by omega)
    unfold Lev.valid
    rw [b1, b2, b3]
    cases idxFrom (badLV x.vs) 0 x.vs <;> rfl
/-! ### most, canonical -/
def mx (a b : Int) : Int := if b > a then b else a
def mostI (l : List LV) : Int := l.foldl (fun m x => mx m x.p) (-1)
def E195 (z : Bool) (l : List LV) (m k : Int) : Env := [(3, iV m), (6, dV (listD z 2 (l.map lvD))), (7, iV l.length), (8, iV k)]
theorem enter195 (hx : ext 195 = none) (z : Bool) (l : List LV) (out : Option Out) (h : H195a ext 0 (E195 z l (-1) 0) [] = out) : run Tryz.prog ext (.call 195 [dV (listD z 2 (l.map lvD))] []) = out := by
  unfold H195a at h
  (rw [run_eq]; simp only [stepA, hx, Tryz.func195, Tryz.f195, show retF 195 = false from rfl]; simp only [List.length_cons, List.length_nil, Nat.reduceAdd, Nat.reduceLeDiff, Nat.zero_le, ↓reduceIte, List.zipIdx_cons, List.zipIdx_nil, List.map_cons, List.map_nil])
  simp only [dV, E195, iV] at h ⊢
  simp only [zS, zD, convertA, makeFuncA, Nat.reduceAdd, Nat.reduceSub, Nat.reduceMul, Nat.reduceLT, Nat.reduceLeDiff, Nat.reduceGT, ↓reduceIte, Nat.reduceEqDiff, Nat.reduceBEq, reduceCtorEq, Int.reduceBEq, Int.reduceBNe, Int.reduceLT, Int.reduceLE, Int.reduceGT, Int.reduceGE, zT144, zT34, zT110, zT3]
  (refine (r_inLoop_some ?_).trans h; kernel_rfl)
theorem step195 (z : Bool) (l : List LV) (x : LV) (m : Int) (k : Nat) (hk : l[k]? = some x) (hl : (k : Int) < l.length) (out : Option Out) (h : H195a ext 0 (E195 z l (mx m x.p) (wr ((k : Int) + 1))) [] = out) : H195a ext 0 (E195 z l m k) [] = out := by
  have h0 : (0 : Int) ≤ k := by omega
  have hd : listD z 2 (l.map lvD) = .s 2 (l.map lvD) := listD_of_lt h0 (by simpa using hl)
  unfold H195a at h ⊢
  simp only [dV, E195, iV, mx, hd] at h ⊢
  (rw [show (It.code L195a) = It.code (sub B195 [1, 1, 0, 1, 0, 0]) from rfl]; simp only [B195, K195a, sub, Option.getD_some, Tryz.f195, ↓reduceIte, Nat.one_ne_zero])
  simp only [zS, zD, convertA, makeFuncA, Nat.reduceAdd, Nat.reduceSub, Nat.reduceMul, Nat.reduceLT, Nat.reduceLeDiff, Nat.reduceGT, ↓reduceIte, Nat.reduceEqDiff, Nat.reduceBEq, reduceCtorEq, Int.reduceBEq, Int.reduceBNe, Int.reduceLT, Int.reduceLE, Int.reduceGT, Int.reduceGE, zT144, zT34, zT110, zT3, maxA, h0, hl, Int.toNat_natCast, hk, lvD]
  (refine (r_inLoop_some ?_).trans h; kernel_rfl)
theorem most195 (hx : ext 195 = none) (z : Bool) (l : List LV) (hs : l.length < 2 ^ 62) : run Tryz.prog ext (.call 195 [dV (listD z 2 (l.map lvD))] []) = some (.ret [iV (mostI l)] []) := by
  refine enter195 ext hx z l _ ?_
  have hd : ∀ m, H195a ext 0 (E195 z l m l.length) [] = some (.ret [iV m] []) := by
    intro m
    unfold H195a
    simp only [dV, E195, iV]
    (rw [show (It.code L195a) = It.code (sub B195 [1, 1, 0, 1, 0, 0]) from rfl]; simp only [B195, K195a, sub, Option.getD_some, Tryz.f195, ↓reduceIte, Nat.one_ne_zero])
    simp only [zS, zD, convertA, makeFuncA, Nat.reduceAdd, Nat.reduceSub, Nat.reduceMul, Nat.reduceLT, Nat.reduceLeDiff, Nat.reduceGT, ↓reduceIte, Nat.reduceEqDiff, Nat.reduceBEq, reduceCtorEq, Int.reduceBEq, Int.reduceBNe, Int.reduceLT, Int.reduceLE, Int.reduceGT, Int.reduceGE, zT144, zT34, zT110, zT3, Int.lt_irrefl]
    (refine Eq.trans ?_ rfl; kernel_rfl)
  have := loop_foldE (ρ := Unit) l (fun k m => H195a ext 0 (E195 z l m k) []) (fun m x => .inl (mx m x.p)) (fun _ => none) (fun m => some (.ret [iV m] [])) hs (fun k x m hk hl => fun out h => step195 ext z l x m k hk hl out h) hd (-1)
  rw [this]
  have hf : ∀ (l : List LV) (m : Int), foldE (ρ := Unit) (fun m x => .inl (mx m x.p)) m l = .inl (l.foldl (fun m x => mx m x.p) m) := by
    intro l
    induction l with
    | nil => intro m; rfl
    | cons a l ih => intro m; exact ih _
  rw [hf]; rfl
theorem z8 : ¬ ((0 : Int) > 8) := by decide
def canonP (c : Int) (l : List LV) (z : Bool) : Lev × Int :=
  if (if c ≤ mostI l then 0 else c) > 1000 ∨ mostI l > 1000 ∨ (l.length : Int) > 8 then (zLev, 2) else (⟨if c ≤ mostI l then 0 else c, l, z || l.isEmpty⟩, 0)
theorem canon125 (hx : ext 125 = none) (hx1 : ext 195 = none) (c : Int) (l : List LV) (z : Bool) (hs : l.length < 2 ^ 62) : run Tryz.prog ext (.call 125 [iV c, dV (listD z 2 (l.map lvD))] []) = some (.ret [levV (canonP c l z).1, iV (canonP c l z).2] []) := by
  have hr := most195 ext hx1 z l hs
  generalize hm : mostI l = m at hr
  by_cases h1 : c ≤ m
  · by_cases h3 : m > 1000
    · have e : canonP c l z = (zLev, 2) := by unfold canonP; rw [if_pos (by rw [hm]; exact .inr (.inl h3))]
      rw [e]
      (rw [run_eq]; simp only [stepA, hx, Tryz.func125, Tryz.f125, show retF 125 = false from rfl]; simp only [List.length_cons, List.length_nil, Nat.reduceAdd, Nat.reduceLeDiff, Nat.zero_le, ↓reduceIte, List.zipIdx_cons, List.zipIdx_nil, List.map_cons, List.map_nil])
      simp only [dV, iV, levV, levC_z] at hr ⊢
      simp only [zS, zD, convertA, makeFuncA, Nat.reduceAdd, Nat.reduceSub, Nat.reduceMul, Nat.reduceLT, Nat.reduceLeDiff, Nat.reduceGT, ↓reduceIte, Nat.reduceEqDiff, Nat.reduceBEq, reduceCtorEq, Int.reduceBEq, Int.reduceBNe, Int.reduceLT, Int.reduceLE, Int.reduceGT, Int.reduceGE, zT144, zT34, zT36, zT110, zT3, hr, h1, h3]
      (refine Eq.trans ?_ rfl; kernel_rfl)
    by_cases h4 : (l.length : Int) > 8
    · have e : canonP c l z = (zLev, 2) := by unfold canonP; rw [if_pos (by rw [hm]; exact .inr (.inr h4))]
      rw [e]
      (rw [run_eq]; simp only [stepA, hx, Tryz.func125, Tryz.f125, show retF 125 = false from rfl]; simp only [List.length_cons, List.length_nil, Nat.reduceAdd, Nat.reduceLeDiff, Nat.zero_le, ↓reduceIte, List.zipIdx_cons, List.zipIdx_nil, List.map_cons, List.map_nil])
      simp only [dV, iV, levV, levC_z] at hr ⊢
      simp only [zS, zD, convertA, makeFuncA, Nat.reduceAdd, Nat.reduceSub, Nat.reduceMul, Nat.reduceLT, Nat.reduceLeDiff, Nat.reduceGT, ↓reduceIte, Nat.reduceEqDiff, Nat.reduceBEq, reduceCtorEq, Int.reduceBEq, Int.reduceBNe, Int.reduceLT, Int.reduceLE, Int.reduceGT, Int.reduceGE, zT144, zT34, zT36, zT110, zT3, hr, h1, h3, h4]
      (refine Eq.trans ?_ rfl; kernel_rfl)
    have e : canonP c l z = (⟨0, l, z || l.isEmpty⟩, 0) := by unfold canonP; rw [hm, if_pos h1, if_neg (show ¬ ((0 : Int) > 1000 ∨ m > 1000 ∨ (l.length : Int) > 8) by omega)]
    rw [e]
    by_cases h5 : (l.length : Int) = 0
    · have hl : l = [] := List.eq_nil_of_length_eq_zero (by omega)
      subst hl
      (rw [run_eq]; simp only [stepA, hx, Tryz.func125, Tryz.f125, show retF 125 = false from rfl]; simp only [List.length_cons, List.length_nil, Nat.reduceAdd, Nat.reduceLeDiff, Nat.zero_le, ↓reduceIte, List.zipIdx_cons, List.zipIdx_nil, List.map_cons, List.map_nil])
      simp only [dV, iV, levV, levC, Lev.d, List.map_nil, List.isEmpty_nil, Bool.or_true] at hr ⊢
      simp only [zS, zD, convertA, makeFuncA, Nat.reduceAdd, Nat.reduceSub, Nat.reduceMul, Nat.reduceLT, Nat.reduceLeDiff, Nat.reduceGT, ↓reduceIte, Nat.reduceEqDiff, Nat.reduceBEq, reduceCtorEq, Int.reduceBEq, Int.reduceBNe, Int.reduceLT, Int.reduceLE, Int.reduceGT, Int.reduceGE, zT144, zT34, zT36, zT110, zT3, hr, h1, h3, z8, Int.natCast_zero]
      (refine Eq.trans ?_ rfl; kernel_rfl)
    · have hne : l.map lvD ≠ [] := by intro e; rw [List.map_eq_nil_iff] at e; simp [e] at h5
      (rw [run_eq]; simp only [stepA, hx, Tryz.func125, Tryz.f125, show retF 125 = false from rfl]; simp only [List.length_cons, List.length_nil, Nat.reduceAdd, Nat.reduceLeDiff, Nat.zero_le, ↓reduceIte, List.zipIdx_cons, List.zipIdx_nil, List.map_cons, List.map_nil])
      simp only [dV, iV, levV, levC, Lev.d, listD_ne hne] at hr ⊢
      simp only [zS, zD, convertA, makeFuncA, Nat.reduceAdd, Nat.reduceSub, Nat.reduceMul, Nat.reduceLT, Nat.reduceLeDiff, Nat.reduceGT, ↓reduceIte, Nat.reduceEqDiff, Nat.reduceBEq, reduceCtorEq, Int.reduceBEq, Int.reduceBNe, Int.reduceLT, Int.reduceLE, Int.reduceGT, Int.reduceGE, zT144, zT34, zT36, zT110, zT3, hr, h1, h3, h4, h5]
      (refine Eq.trans ?_ rfl; kernel_rfl)
  · by_cases h2 : c > 1000
    · have e : canonP c l z = (zLev, 2) := by unfold canonP; rw [hm, if_neg h1, if_pos (.inl h2)]
      rw [e]
      (rw [run_eq]; simp only [stepA, hx, Tryz.func125, Tryz.f125, show retF 125 = false from rfl]; simp only [List.length_cons, List.length_nil, Nat.reduceAdd, Nat.reduceLeDiff, Nat.zero_le, ↓reduceIte, List.zipIdx_cons, List.zipIdx_nil, List.map_cons, List.map_nil])
      simp only [dV, iV, levV, levC_z] at hr ⊢
      simp only [zS, zD, convertA, makeFuncA, Nat.reduceAdd, Nat.reduceSub, Nat.reduceMul, Nat.reduceLT, Nat.reduceLeDiff, Nat.reduceGT, ↓reduceIte, Nat.reduceEqDiff, Nat.reduceBEq, reduceCtorEq, Int.reduceBEq, Int.reduceBNe, Int.reduceLT, Int.reduceLE, Int.reduceGT, Int.reduceGE, zT144, zT34, zT36, zT110, zT3, hr, h1, h2]
      (refine Eq.trans ?_ rfl; kernel_rfl)
    by_cases h3 : m > 1000
    · exfalso; omega
    by_cases h4 : (l.length : Int) > 8
    · have e : canonP c l z = (zLev, 2) := by unfold canonP; rw [if_pos (by rw [hm]; exact .inr (.inr h4))]
      rw [e]
      (rw [run_eq]; simp only [stepA, hx, Tryz.func125, Tryz.f125, show retF 125 = false from rfl]; simp only [List.length_cons, List.length_nil, Nat.reduceAdd, Nat.reduceLeDiff, Nat.zero_le, ↓reduceIte, List.zipIdx_cons, List.zipIdx_nil, List.map_cons, List.map_nil])
      simp only [dV, iV, levV, levC_z] at hr ⊢
      simp only [zS, zD, convertA, makeFuncA, Nat.reduceAdd, Nat.reduceSub, Nat.reduceMul, Nat.reduceLT, Nat.reduceLeDiff, Nat.reduceGT, ↓reduceIte, Nat.reduceEqDiff, Nat.reduceBEq, reduceCtorEq, Int.reduceBEq, Int.reduceBNe, Int.reduceLT, Int.reduceLE, Int.reduceGT, Int.reduceGE, zT144, zT34, zT36, zT110, zT3, hr, h1, h2, h3, h4]
      (refine Eq.trans ?_ rfl; kernel_rfl)
    have e : canonP c l z = (⟨c, l, z || l.isEmpty⟩, 0) := by unfold canonP; rw [hm, if_neg h1, if_neg (show ¬ (c > 1000 ∨ m > 1000 ∨ (l.length : Int) > 8) by omega)]
    rw [e]
    by_cases h5 : (l.length : Int) = 0
    · have hl : l = [] := List.eq_nil_of_length_eq_zero (by omega)
      subst hl
      (rw [run_eq]; simp only [stepA, hx, Tryz.func125, Tryz.f125, show retF 125 = false from rfl]; simp only [List.length_cons, List.length_nil, Nat.reduceAdd, Nat.reduceLeDiff, Nat.zero_le, ↓reduceIte, List.zipIdx_cons, List.zipIdx_nil, List.map_cons, List.map_nil])
      simp only [dV, iV, levV, levC, Lev.d, List.map_nil, List.isEmpty_nil, Bool.or_true] at hr ⊢
      simp only [zS, zD, convertA, makeFuncA, Nat.reduceAdd, Nat.reduceSub, Nat.reduceMul, Nat.reduceLT, Nat.reduceLeDiff, Nat.reduceGT, ↓reduceIte, Nat.reduceEqDiff, Nat.reduceBEq, reduceCtorEq, Int.reduceBEq, Int.reduceBNe, Int.reduceLT, Int.reduceLE, Int.reduceGT, Int.reduceGE, zT144, zT34, zT36, zT110, zT3, hr, h1, h2, h3, z8, Int.natCast_zero]
      (refine Eq.trans ?_ rfl; kernel_rfl)
    · have hne : l.map lvD ≠ [] := by intro e; rw [List.map_eq_nil_iff] at e; simp [e] at h5
      (rw [run_eq]; simp only [stepA, hx, Tryz.func125, Tryz.f125, show retF 125 = false from rfl]; simp only [List.length_cons, List.length_nil, Nat.reduceAdd, Nat.reduceLeDiff, Nat.zero_le, ↓reduceIte, List.zipIdx_cons, List.zipIdx_nil, List.map_cons, List.map_nil])
      simp only [dV, iV, levV, levC, Lev.d, listD_ne hne] at hr ⊢
      simp only [zS, zD, convertA, makeFuncA, Nat.reduceAdd, Nat.reduceSub, Nat.reduceMul, Nat.reduceLT, Nat.reduceLeDiff, Nat.reduceGT, ↓reduceIte, Nat.reduceEqDiff, Nat.reduceBEq, reduceCtorEq, Int.reduceBEq, Int.reduceBNe, Int.reduceLT, Int.reduceLE, Int.reduceGT, Int.reduceGE, zT144, zT34, zT36, zT110, zT3, hr, h1, h2, h3, h4, h5]
      (refine Eq.trans ?_ rfl; kernel_rfl)
end Go.Proofs.YteenjodhmppgjaaGreatDoor.Am
end
section
/- Levels: the reference's parts of the canonical form. -/
namespace Go.Proofs.YteenjodhmppgjaaGreatDoor.Am
open Go
variable (ext : Ext)
set_option maxHeartbeats 4000000
noncomputable def B128 : Code := (Tryz.f128.body.getD .skip)
noncomputable def L128a : Code := sub B128 [1, 1, 0, 1, 0, 0]
noncomputable def K128a : List It := [.inBlock 0, .code (sub B128 [1, 1, 1])]
noncomputable def H128a (ext : Ext) (m : Nat) (env : Env) (loc : List O) : Option Out := run Tryz.prog ext (.k ⟨31, m, [.cell 2 36, .tmp 3], false⟩ (.code L128a :: .inLoop L128a :: K128a) env loc)
noncomputable def B196 : Code := (Tryz.f196.body.getD .skip)
noncomputable def L196a : Code := sub B196 [1, 1, 1, 0, 1, 0, 0]
noncomputable def K196a : List It := [.inBlock 0, .code (sub B196 [1, 1, 1, 1])]
noncomputable def H196a (ext : Ext) (m : Nat) (env : Env) (loc : List O) : Option Out := run Tryz.prog ext (.k ⟨54, m, [.tmp 4], false⟩ (.code L196a :: .inLoop L196a :: K196a) env loc)
noncomputable def B129 : Code := (Tryz.f129.body.getD .skip)
noncomputable def L129a : Code := sub B129 [1, 1, 1, 0, 1, 0, 0]
noncomputable def K129a : List It := [.inBlock 0, .code (sub B129 [1, 1, 1, 1])]
noncomputable def H129a (ext : Ext) (m : Nat) (env : Env) (loc : List O) : Option Out := run Tryz.prog ext (.k ⟨42, m, [.cell 4 36], false⟩ (.code L129a :: .inLoop L129a :: K129a) env loc)
noncomputable def L129b : Code := sub B129 [1, 1, 1, 1, 0, 1, 0, 0]
noncomputable def K129b : List It := [.inBlock 2, .code (sub B129 [1, 1, 1, 1, 1])]
noncomputable def H129b (ext : Ext) (m : Nat) (env : Env) (loc : List O) : Option Out := run Tryz.prog ext (.k ⟨42, m, [.cell 4 36], false⟩ (.code L129b :: .inLoop L129b :: K129b) env loc)
theorem lvD_eq (x : LV) : lvD x = [.v (.int .i64 x.v), .v (.int .i64 x.p)] := rfl
theorem foldl_inl {α σ ρ : Type} (f : σ → α → σ) : ∀ (l : List α) (s : σ), foldE (ρ := ρ) (fun s x => .inl (f s x)) s l = .inl (l.foldl f s)
  | [], _ => rfl
  | _ :: l, s => foldl_inl f l _
/-! ### more -/
/-! ### fits -/
def E128 (k : Int) : Env := [(1, .c (.ptr 0 0)), (2, .c (.ptr 1 0)), (4, iV k)]
def O128 (x : Lev) : List O := [.box (levC x), .box (levC zLev)]
theorem enter128 (hx : ext 128 = none) (x : Lev) (h2 : ¬ x.c > 1000) (h3 : ¬ (x.vs.length : Int) > 8) (out : Option Out) (h : H128a ext 0 (E128 0) (O128 x) = out) : run Tryz.prog ext (.call 128 [levV x] []) = out := by
  unfold H128a at h
  (rw [run_eq]; simp only [stepA, hx, Tryz.func128, Tryz.f128, show retF 128 = false from rfl]; simp only [List.length_cons, List.length_nil, Nat.reduceAdd, Nat.reduceLeDiff, Nat.zero_le, ↓reduceIte, List.zipIdx_cons, List.zipIdx_nil, List.map_cons, List.map_nil])
  simp only [levV, E128, O128, levC_z, levC, Lev.d, dV, iV] at h ⊢
  simp only [zS, zD, convertA, makeFuncA, Nat.reduceAdd, Nat.reduceSub, Nat.reduceMul, Nat.reduceLT, Nat.reduceLeDiff, Nat.reduceGT, ↓reduceIte, Nat.reduceEqDiff, Nat.reduceBEq, reduceCtorEq, Int.reduceBEq, Int.reduceBNe, Int.reduceLT, Int.reduceLE, Int.reduceGT, Int.reduceGE, zT36, zT34, zT110, zT3, h2, h3]
  (refine (r_inLoop_some ?_).trans h; kernel_rfl)
theorem bad128 (hx : ext 128 = none) (x : Lev) (h : (x.vs.length : Int) > 8 ∨ x.c > 1000) : run Tryz.prog ext (.call 128 [levV x] []) = some (.ret [levV zLev, iV 2] []) := by
  by_cases h3 : (x.vs.length : Int) > 8
  · (rw [run_eq]; simp only [stepA, hx, Tryz.func128, Tryz.f128, show retF 128 = false from rfl]; simp only [List.length_cons, List.length_nil, Nat.reduceAdd, Nat.reduceLeDiff, Nat.zero_le, ↓reduceIte, List.zipIdx_cons, List.zipIdx_nil, List.map_cons, List.map_nil])
    simp only [levV, levC_z, levC, Lev.d, iV]
    simp only [zS, zD, convertA, makeFuncA, Nat.reduceAdd, Nat.reduceSub, Nat.reduceMul, Nat.reduceLT, Nat.reduceLeDiff, Nat.reduceGT, ↓reduceIte, Nat.reduceEqDiff, Nat.reduceBEq, reduceCtorEq, Int.reduceBEq, Int.reduceBNe, Int.reduceLT, Int.reduceLE, Int.reduceGT, Int.reduceGE, zT36, zT34, zT110, zT3, h3]
    (refine Eq.trans ?_ rfl; kernel_rfl)
  have h2 : x.c > 1000 := by omega
  (rw [run_eq]; simp only [stepA, hx, Tryz.func128, Tryz.f128, show retF 128 = false from rfl]; simp only [List.length_cons, List.length_nil, Nat.reduceAdd, Nat.reduceLeDiff, Nat.zero_le, ↓reduceIte, List.zipIdx_cons, List.zipIdx_nil, List.map_cons, List.map_nil])
  simp only [levV, levC_z, levC, Lev.d, iV]
  simp only [zS, zD, convertA, makeFuncA, Nat.reduceAdd, Nat.reduceSub, Nat.reduceMul, Nat.reduceLT, Nat.reduceLeDiff, Nat.reduceGT, ↓reduceIte, Nat.reduceEqDiff, Nat.reduceBEq, reduceCtorEq, Int.reduceBEq, Int.reduceBNe, Int.reduceLT, Int.reduceLE, Int.reduceGT, Int.reduceGE, zT36, zT34, zT110, zT3, h3, h2]
  (refine Eq.trans ?_ rfl; kernel_rfl)
theorem step128 (x : Lev) (y : LV) (k : Nat) (hk : x.vs[k]? = some y) (hl : (k : Int) < x.vs.length) :
    (decide (y.p > 1000) = true → H128a ext 0 (E128 k) (O128 x) = some (.ret [levV zLev, iV 2] [])) ∧ (decide (y.p > 1000) = false → ∀ out, H128a ext 0 (E128 (wr ((k : Int) + 1))) (O128 x) = out → H128a ext 0 (E128 k) (O128 x) = out) := by
  have h0 : (0 : Int) ≤ k := by omega
  have hd : listD x.z 2 (x.vs.map lvD) = .s 2 (x.vs.map lvD) := listD_of_lt h0 (by simpa using hl)
  unfold H128a
  refine ⟨fun hp => ?_, fun hp out h => ?_⟩
  · have hp := of_decide_eq_true hp
    simp only [levV, E128, O128, levC_z, levC, Lev.d, iV, hd]
    (rw [show (It.code L128a) = It.code (sub B128 [1, 1, 0, 1, 0, 0]) from rfl]; simp only [B128, K128a, sub, Option.getD_some, Tryz.f128, ↓reduceIte, Nat.one_ne_zero])
    simp only [zS, zD, convertA, makeFuncA, Nat.reduceAdd, Nat.reduceSub, Nat.reduceMul, Nat.reduceLT, Nat.reduceLeDiff, Nat.reduceGT, ↓reduceIte, Nat.reduceEqDiff, Nat.reduceBEq, reduceCtorEq, Int.reduceBEq, Int.reduceBNe, Int.reduceLT, Int.reduceLE, Int.reduceGT, Int.reduceGE, zT34, zT36, zT110, zT3, h0, hl, Int.toNat_natCast, hk, lvD, hp]
    (refine Eq.trans ?_ rfl; kernel_rfl)
  · have hp := of_decide_eq_false hp
    simp only [levV, E128, O128, levC_z, levC, Lev.d, iV, hd] at h ⊢
    (rw [show (It.code L128a) = It.code (sub B128 [1, 1, 0, 1, 0, 0]) from rfl]; simp only [B128, K128a, sub, Option.getD_some, Tryz.f128, ↓reduceIte, Nat.one_ne_zero])
    simp only [zS, zD, convertA, makeFuncA, Nat.reduceAdd, Nat.reduceSub, Nat.reduceMul, Nat.reduceLT, Nat.reduceLeDiff, Nat.reduceGT, ↓reduceIte, Nat.reduceEqDiff, Nat.reduceBEq, reduceCtorEq, Int.reduceBEq, Int.reduceBNe, Int.reduceLT, Int.reduceLE, Int.reduceGT, Int.reduceGE, zT34, zT36, zT110, zT3, h0, hl, Int.toNat_natCast, hk, lvD, hp]
    (refine (r_inLoop_some ?_).trans h; kernel_rfl)
theorem done128 (x : Lev) : H128a ext 0 (E128 x.vs.length) (O128 x) = some (.ret [levV x, iV 0] []) := by
  unfold H128a
  simp only [levV, E128, O128, levC_z, levC, Lev.d, iV]
  (rw [show (It.code L128a) = It.code (sub B128 [1, 1, 0, 1, 0, 0]) from rfl]; simp only [B128, K128a, sub, Option.getD_some, Tryz.f128, ↓reduceIte, Nat.one_ne_zero])
  simp only [zS, zD, convertA, makeFuncA, Nat.reduceAdd, Nat.reduceSub, Nat.reduceMul, Nat.reduceLT, Nat.reduceLeDiff, Nat.reduceGT, ↓reduceIte, Nat.reduceEqDiff, Nat.reduceBEq, reduceCtorEq, Int.reduceBEq, Int.reduceBNe, Int.reduceLT, Int.reduceLE, Int.reduceGT, Int.reduceGE, zT34, zT36, zT110, zT3, Int.lt_irrefl]
  (refine Eq.trans ?_ rfl; kernel_rfl)
def fitsR (x : Lev) : Lev × Int := if (x.vs.length : Int) > 8 ∨ x.c > 1000 ∨ x.vs.any (fun y => decide (y.p > 1000)) = true then (zLev, 2) else (x, 0)
theorem fits128 (hx : ext 128 = none) (x : Lev) : run Tryz.prog ext (.call 128 [levV x] []) = some (.ret [levV (fitsR x).1, iV (fitsR x).2] []) := by
  by_cases h : (x.vs.length : Int) > 8 ∨ x.c > 1000
  · rw [bad128 ext hx x h]
    have : fitsR x = (zLev, 2) := by unfold fitsR; rw [if_pos]; omega
    rw [this]
  · refine enter128 ext hx x (by omega) (by omega) _ ?_
    have := loop_find x.vs (fun k => H128a ext 0 (E128 k) (O128 x)) (fun y => decide (y.p > 1000)) (fun _ => some (.ret [levV zLev, iV 2] [])) (some (.ret [levV x, iV 0] [])) (by omega) (fun k y hk hl => step128 ext x y k hk hl) (done128 ext x)
    rw [this]
    have ha := find_some (l := x.vs) (p := fun y => decide (y.p > 1000))
    unfold fitsR
    cases hf : x.vs.findIdx? (fun y => decide (y.p > 1000)) with
    | none =>
      rw [hf] at ha
      rw [if_neg]
      rintro (e | e | e)
      · omega
      · omega
      · rw [← ha] at e; cases e
    | some i =>
      rw [hf] at ha
      rw [if_pos (.inr (.inr ha.symm))]
/-! ### put -/
def putStep (x : LV) (s : List LV × Bool) (y : LV) : List LV × Bool :=
  let s1 := if s.2 = false ∧ x.v < y.v then (s.1 ++ [x], true) else s
  if x.v = y.v then (s1.1 ++ [⟨y.v, mx x.p y.p⟩], true) else (s1.1 ++ [y], s1.2)
def putL (l : List LV) (x : LV) : List LV := let s := l.foldl (putStep x) ([], false); if s.2 then s.1 else s.1 ++ [x]
def E196 (z : Bool) (l els : List LV) (d : Bool) (k : Int) : Env := [(0, dV (listD z 2 (l.map lvD))), (3, .c (.ptr 0 0)), (5, mkV 1 (els.map lvD)), (6, bV d), (7, iV k)]
def O196 (x : LV) (els : List LV) : List O := .box (lvC x) :: mkO 2 (els.map lvD)
theorem enter196 (hx : ext 196 = none) (z : Bool) (l : List LV) (x : LV) (out : Option Out) (h : H196a ext 0 (E196 z l [] false 0) (O196 x []) = out) : run Tryz.prog ext (.call 196 [dV (listD z 2 (l.map lvD)), lvV x] []) = out := by
  unfold H196a at h
  (rw [run_eq]; simp only [stepA, hx, Tryz.func196, Tryz.f196, show retF 196 = false from rfl]; simp only [List.length_cons, List.length_nil, Nat.reduceAdd, Nat.reduceLeDiff, Nat.zero_le, ↓reduceIte, List.zipIdx_cons, List.zipIdx_nil, List.map_cons, List.map_nil])
  simp only [lvV, lvC, dV, iV, bV, E196, O196, List.map_nil, mkV_nil, mkO_nil] at h ⊢
  simp only [zS, zD, convertA, makeFuncA, Nat.reduceAdd, Nat.reduceSub, Nat.reduceMul, Nat.reduceLT, Nat.reduceLeDiff, Nat.reduceGT, ↓reduceIte, Nat.reduceEqDiff, Nat.reduceBEq, reduceCtorEq, Int.reduceBEq, Int.reduceBNe, Int.reduceLT, Int.reduceLE, Int.reduceGT, Int.reduceGE, zT36, zT34, zT110, zT3]
  (refine (r_inLoop_some ?_).trans h; kernel_rfl)
theorem step196 (z : Bool) (l : List LV) (x y : LV) (els : List LV) (d : Bool) (k : Nat) (hb : els.length < 100000000) (hk : l[k]? = some y) (hl : (k : Int) < l.length) (out : Option Out) (h : H196a ext 0 (E196 z l (putStep x (els, d) y).1 (putStep x (els, d) y).2 (wr ((k : Int) + 1))) (O196 x (putStep x (els, d) y).1) = out) : H196a ext 0 (E196 z l els d k) (O196 x els) = out := by
  have h0 : (0 : Int) ≤ k := by omega
  have hd : listD z 2 (l.map lvD) = .s 2 (l.map lvD) := listD_of_lt h0 (by simpa using hl)
  unfold H196a at h ⊢
  simp only [dV, E196, O196, lvC, iV, bV, hd, putStep] at h ⊢
  cases d with
  | true =>
    by_cases h2 : x.v = y.v
    · simp only [h2, Bool.true_eq_false, false_and, if_false, if_true, List.map_append, List.map_cons, List.map_nil, mkV_snoc, mkO_snoc, mx, lvD_eq ⟨_, _⟩] at h ⊢
      cases els with
      | nil =>
        simp only [List.map_nil, mkV_nil, mkO_nil, List.nil_append] at h ⊢
        (rw [show (It.code L196a) = It.code (sub B196 [1, 1, 1, 0, 1, 0, 0]) from rfl]; simp only [B196, K196a, sub, Option.getD_some, Tryz.f196, ↓reduceIte, Nat.one_ne_zero])
        simp only [zS, zD, convertA, makeFuncA, Nat.reduceAdd, Nat.reduceSub, Nat.reduceMul, Nat.reduceLT, Nat.reduceLeDiff, Nat.reduceGT, ↓reduceIte, Nat.reduceEqDiff, Nat.reduceBEq, reduceCtorEq, Int.reduceBEq, Int.reduceBNe, Int.reduceLT, Int.reduceLE, Int.reduceGT, Int.reduceGE, zT34, zT110, zT3, maxA, h0, hl, h2, Int.toNat_natCast, hk, lvD, bsLV, no34, apH_arr, Nat.zero_le]
        (refine (r_inLoop_some ?_).trans h; kernel_rfl)
      | cons a r =>
        have hb' : r.length + 1 ≤ 1000000000 := by simp only [List.length_cons] at hb; omega
        simp only [List.map_cons, mkV_cons, mkO_cons, List.cons_append, List.nil_append] at h ⊢
        (rw [show (It.code L196a) = It.code (sub B196 [1, 1, 1, 0, 1, 0, 0]) from rfl]; simp only [B196, K196a, sub, Option.getD_some, Tryz.f196, ↓reduceIte, Nat.one_ne_zero])
        simp only [zS, zD, convertA, makeFuncA, Nat.reduceAdd, Nat.reduceSub, Nat.reduceMul, Nat.reduceLT, Nat.reduceLeDiff, Nat.reduceGT, ↓reduceIte, Nat.reduceEqDiff, Nat.reduceBEq, reduceCtorEq, Int.reduceBEq, Int.reduceBNe, Int.reduceLT, Int.reduceLE, Int.reduceGT, Int.reduceGE, zT34, zT110, zT3, maxA, h0, hl, h2, Int.toNat_natCast, hk, lvD, bsLV, oo34, apG_arr, hb']
        (refine (r_inLoop_some ?_).trans h; kernel_rfl)
    · simp only [h2, Bool.true_eq_false, false_and, if_false, List.map_append, List.map_cons, List.map_nil, mkV_snoc, mkO_snoc, lvD_eq y] at h ⊢
      cases els with
      | nil =>
        simp only [List.map_nil, mkV_nil, mkO_nil, List.nil_append] at h ⊢
        (rw [show (It.code L196a) = It.code (sub B196 [1, 1, 1, 0, 1, 0, 0]) from rfl]; simp only [B196, K196a, sub, Option.getD_some, Tryz.f196, ↓reduceIte, Nat.one_ne_zero])
        simp only [zS, zD, convertA, makeFuncA, Nat.reduceAdd, Nat.reduceSub, Nat.reduceMul, Nat.reduceLT, Nat.reduceLeDiff, Nat.reduceGT, ↓reduceIte, Nat.reduceEqDiff, Nat.reduceBEq, reduceCtorEq, Int.reduceBEq, Int.reduceBNe, Int.reduceLT, Int.reduceLE, Int.reduceGT, Int.reduceGE, zT34, zT110, zT3, maxA, h0, hl, h2, Int.toNat_natCast, hk, lvD, bsLV, no34, apH_arr, Nat.zero_le]
        (refine (r_inLoop_some ?_).trans h; kernel_rfl)
      | cons a r =>
        have hb' : r.length + 1 ≤ 1000000000 := by simp only [List.length_cons] at hb; omega
        simp only [List.map_cons, mkV_cons, mkO_cons, List.cons_append, List.nil_append] at h ⊢
        (rw [show (It.code L196a) = It.code (sub B196 [1, 1, 1, 0, 1, 0, 0]) from rfl]; simp only [B196, K196a, sub, Option.getD_some, Tryz.f196, ↓reduceIte, Nat.one_ne_zero])
        simp only [zS, zD, convertA, makeFuncA, Nat.reduceAdd, Nat.reduceSub, Nat.reduceMul, Nat.reduceLT, Nat.reduceLeDiff, Nat.reduceGT, ↓reduceIte, Nat.reduceEqDiff, Nat.reduceBEq, reduceCtorEq, Int.reduceBEq, Int.reduceBNe, Int.reduceLT, Int.reduceLE, Int.reduceGT, Int.reduceGE, zT34, zT110, zT3, maxA, h0, hl, h2, Int.toNat_natCast, hk, lvD, bsLV, oo34, apG_arr, hb']
        (refine (r_inLoop_some ?_).trans h; kernel_rfl)
  | false =>
    by_cases h1 : x.v < y.v
    · have h2 : ¬ x.v = y.v := by omega
      simp only [h1, h2, true_and, if_true, if_false, List.map_append, List.map_cons, List.map_nil, mkV_snoc, mkO_snoc, lvD_eq x, lvD_eq y] at h ⊢
      cases els with
      | nil =>
        simp only [List.map_nil, mkV_nil, mkO_nil, List.nil_append] at h ⊢
        (rw [show (It.code L196a) = It.code (sub B196 [1, 1, 1, 0, 1, 0, 0]) from rfl]; simp only [B196, K196a, sub, Option.getD_some, Tryz.f196, ↓reduceIte, Nat.one_ne_zero])
        simp only [zS, zD, convertA, makeFuncA, Nat.reduceAdd, Nat.reduceSub, Nat.reduceMul, Nat.reduceLT, Nat.reduceLeDiff, Nat.reduceGT, ↓reduceIte, Nat.reduceEqDiff, Nat.reduceBEq, reduceCtorEq, Int.reduceBEq, Int.reduceBNe, Int.reduceLT, Int.reduceLE, Int.reduceGT, Int.reduceGE, zT34, zT110, zT3, maxA, h0, hl, h1, h2, Int.toNat_natCast, hk, lvD, bsLV, no34, apH_arr, oo34, apG_arr, Nat.zero_le]
        (refine (r_inLoop_some ?_).trans h; kernel_rfl)
      | cons a r =>
        have hb' : r.length + 1 ≤ 1000000000 := by simp only [List.length_cons] at hb; omega
        have hb2 : r.length + 1 + 1 ≤ 1000000000 := by simp only [List.length_cons] at hb; omega
        simp only [List.map_cons, mkV_cons, mkO_cons, List.cons_append, List.nil_append] at h ⊢
        (rw [show (It.code L196a) = It.code (sub B196 [1, 1, 1, 0, 1, 0, 0]) from rfl]; simp only [B196, K196a, sub, Option.getD_some, Tryz.f196, ↓reduceIte, Nat.one_ne_zero])
        simp only [zS, zD, convertA, makeFuncA, Nat.reduceAdd, Nat.reduceSub, Nat.reduceMul, Nat.reduceLT, Nat.reduceLeDiff, Nat.reduceGT, ↓reduceIte, Nat.reduceEqDiff, Nat.reduceBEq, reduceCtorEq, Int.reduceBEq, Int.reduceBNe, Int.reduceLT, Int.reduceLE, Int.reduceGT, Int.reduceGE, zT34, zT110, zT3, maxA, h0, hl, h1, h2, Int.toNat_natCast, hk, lvD, bsLV, oo34, apG_arr, hb', hb2]
        (refine (r_inLoop_some ?_).trans h; kernel_rfl)
    · by_cases h2 : x.v = y.v
      · have h1' : ¬ y.v < y.v := by omega
        simp only [h2, h1', and_false, if_false, if_true, List.map_append, List.map_cons, List.map_nil, mkV_snoc, mkO_snoc, mx, lvD_eq ⟨_, _⟩] at h ⊢
        cases els with
        | nil =>
          simp only [List.map_nil, mkV_nil, mkO_nil, List.nil_append] at h ⊢
          (rw [show (It.code L196a) = It.code (sub B196 [1, 1, 1, 0, 1, 0, 0]) from rfl]; simp only [B196, K196a, sub, Option.getD_some, Tryz.f196, ↓reduceIte, Nat.one_ne_zero])
          simp only [zS, zD, convertA, makeFuncA, Nat.reduceAdd, Nat.reduceSub, Nat.reduceMul, Nat.reduceLT, Nat.reduceLeDiff, Nat.reduceGT, ↓reduceIte, Nat.reduceEqDiff, Nat.reduceBEq, reduceCtorEq, Int.reduceBEq, Int.reduceBNe, Int.reduceLT, Int.reduceLE, Int.reduceGT, Int.reduceGE, zT34, zT110, zT3, maxA, h0, hl, h1', h2, Int.toNat_natCast, hk, lvD, bsLV, no34, apH_arr, Nat.zero_le]
          (refine (r_inLoop_some ?_).trans h; kernel_rfl)
        | cons a r =>
          have hb' : r.length + 1 ≤ 1000000000 := by simp only [List.length_cons] at hb; omega
          simp only [List.map_cons, mkV_cons, mkO_cons, List.cons_append, List.nil_append] at h ⊢
          (rw [show (It.code L196a) = It.code (sub B196 [1, 1, 1, 0, 1, 0, 0]) from rfl]; simp only [B196, K196a, sub, Option.getD_some, Tryz.f196, ↓reduceIte, Nat.one_ne_zero])
          simp only [zS, zD, convertA, makeFuncA, Nat.reduceAdd, Nat.reduceSub, Nat.reduceMul, Nat.reduceLT, Nat.reduceLeDiff, Nat.reduceGT, ↓reduceIte, Nat.reduceEqDiff, Nat.reduceBEq, reduceCtorEq, Int.reduceBEq, Int.reduceBNe, Int.reduceLT, Int.reduceLE, Int.reduceGT, Int.reduceGE, zT34, zT110, zT3, maxA, h0, hl, h1', h2, Int.toNat_natCast, hk, lvD, bsLV, oo34, apG_arr, hb']
          (refine (r_inLoop_some ?_).trans h; kernel_rfl)
      · simp only [h1, h2, and_false, if_false, List.map_append, List.map_cons, List.map_nil, mkV_snoc, mkO_snoc, lvD_eq y] at h ⊢
        cases els with
        | nil =>
          simp only [List.map_nil, mkV_nil, mkO_nil, List.nil_append] at h ⊢
          (rw [show (It.code L196a) = It.code (sub B196 [1, 1, 1, 0, 1, 0, 0]) from rfl]; simp only [B196, K196a, sub, Option.getD_some, Tryz.f196, ↓reduceIte, Nat.one_ne_zero])
          simp only [zS, zD, convertA, makeFuncA, Nat.reduceAdd, Nat.reduceSub, Nat.reduceMul, Nat.reduceLT, Nat.reduceLeDiff, Nat.reduceGT, ↓reduceIte, Nat.reduceEqDiff, Nat.reduceBEq, reduceCtorEq, Int.reduceBEq, Int.reduceBNe, Int.reduceLT, Int.reduceLE, Int.reduceGT, Int.reduceGE, zT34, zT110, zT3, maxA, h0, hl, h1, h2, Int.toNat_natCast, hk, lvD, bsLV, no34, apH_arr, Nat.zero_le]
          (refine (r_inLoop_some ?_).trans h; kernel_rfl)
        | cons a r =>
          have hb' : r.length + 1 ≤ 1000000000 := by simp only [List.length_cons] at hb; omega
          simp only [List.map_cons, mkV_cons, mkO_cons, List.cons_append, List.nil_append] at h ⊢
          (rw [show (It.code L196a) = It.code (sub B196 [1, 1, 1, 0, 1, 0, 0]) from rfl]; simp only [B196, K196a, sub, Option.getD_some, Tryz.f196, ↓reduceIte, Nat.one_ne_zero])
          simp only [zS, zD, convertA, makeFuncA, Nat.reduceAdd, Nat.reduceSub, Nat.reduceMul, Nat.reduceLT, Nat.reduceLeDiff, Nat.reduceGT, ↓reduceIte, Nat.reduceEqDiff, Nat.reduceBEq, reduceCtorEq, Int.reduceBEq, Int.reduceBNe, Int.reduceLT, Int.reduceLE, Int.reduceGT, Int.reduceGE, zT34, zT110, zT3, maxA, h0, hl, h1, h2, Int.toNat_natCast, hk, lvD, bsLV, oo34, apG_arr, hb']
          (refine (r_inLoop_some ?_).trans h; kernel_rfl)
theorem done196 (z : Bool) (l : List LV) (x : LV) (els : List LV) (d : Bool) (hb : els.length < 100000000) (hne : d = true → els ≠ []) : H196a ext 0 (E196 z l els d l.length) (O196 x els) = some (.ret [dV (.s 2 ((if d then els else els ++ [x]).map lvD))] []) := by
  unfold H196a
  cases d with
  | true =>
    cases els with
    | nil => exact absurd rfl (hne rfl)
    | cons a r =>
      simp only [dV, E196, O196, lvC, iV, bV, if_true, List.map_cons, mkV_cons, mkO_cons]
      (rw [show (It.code L196a) = It.code (sub B196 [1, 1, 1, 0, 1, 0, 0]) from rfl]; simp only [B196, K196a, sub, Option.getD_some, Tryz.f196, ↓reduceIte, Nat.one_ne_zero])
      simp only [zS, zD, convertA, makeFuncA, Nat.reduceAdd, Nat.reduceSub, Nat.reduceMul, Nat.reduceLT, Nat.reduceLeDiff, Nat.reduceGT, ↓reduceIte, Nat.reduceEqDiff, Nat.reduceBEq, reduceCtorEq, Int.reduceBEq, Int.reduceBNe, Int.reduceLT, Int.reduceLE, Int.reduceGT, Int.reduceGE, zT34, zT110, zT3, Int.lt_irrefl]
      (refine Eq.trans ?_ rfl; kernel_rfl)
  | false =>
    simp only [dV, E196, O196, lvC, iV, bV, Bool.false_eq_true, if_false, List.map_append, List.map_cons, List.map_nil, lvD_eq x]
    cases els with
    | nil =>
      simp only [List.map_nil, mkV_nil, mkO_nil, List.nil_append]
      (rw [show (It.code L196a) = It.code (sub B196 [1, 1, 1, 0, 1, 0, 0]) from rfl]; simp only [B196, K196a, sub, Option.getD_some, Tryz.f196, ↓reduceIte, Nat.one_ne_zero])
      simp only [zS, zD, convertA, makeFuncA, Nat.reduceAdd, Nat.reduceSub, Nat.reduceMul, Nat.reduceLT, Nat.reduceLeDiff, Nat.reduceGT, ↓reduceIte, Nat.reduceEqDiff, Nat.reduceBEq, reduceCtorEq, Int.reduceBEq, Int.reduceBNe, Int.reduceLT, Int.reduceLE, Int.reduceGT, Int.reduceGE, zT34, zT110, zT3, Int.lt_irrefl, bsLV, no34, apH_arr, Nat.zero_le]
      (refine Eq.trans ?_ rfl; kernel_rfl)
    | cons a r =>
      have hb' : r.length + 1 ≤ 1000000000 := by simp only [List.length_cons] at hb; omega
      simp only [List.map_cons, mkV_cons, mkO_cons, List.cons_append, List.nil_append]
      (rw [show (It.code L196a) = It.code (sub B196 [1, 1, 1, 0, 1, 0, 0]) from rfl]; simp only [B196, K196a, sub, Option.getD_some, Tryz.f196, ↓reduceIte, Nat.one_ne_zero])
      simp only [zS, zD, convertA, makeFuncA, Nat.reduceAdd, Nat.reduceSub, Nat.reduceMul, Nat.reduceLT, Nat.reduceLeDiff, Nat.reduceGT, ↓reduceIte, Nat.reduceEqDiff, Nat.reduceBEq, reduceCtorEq, Int.reduceBEq, Int.reduceBNe, Int.reduceLT, Int.reduceLE, Int.reduceGT, Int.reduceGE, zT34, zT110, zT3, Int.lt_irrefl, bsLV, oo34, apG_arr, hb']
      (refine Eq.trans ?_ rfl; kernel_rfl)
theorem putStep_len (x : LV) (s : List LV × Bool) (y : LV) : s.1.length < (putStep x s y).1.length ∧ (putStep x s y).1.length ≤ s.1.length + 2 := by
  unfold putStep
  by_cases h1 : s.2 = false ∧ x.v < y.v <;> by_cases h2 : x.v = y.v <;> simp [h1, h2] <;> omega
theorem putL_D (hx : ext 196 = none) (z : Bool) (l : List LV) (x : LV) (hs : l.length < 40000000) : run Tryz.prog ext (.call 196 [dV (listD z 2 (l.map lvD)), lvV x] []) = some (.ret [dV (.s 2 ((putL l x).map lvD))] []) := by
  refine enter196 ext hx z l x _ ?_
  have key : ∀ (m k : Nat), k + m = l.length → ∀ s : List LV × Bool, s = (l.take k).foldl (putStep x) ([], false) → s.1.length ≤ 2 * k → (s.2 = true → s.1 ≠ []) →
      H196a ext 0 (E196 z l s.1 s.2 k) (O196 x s.1) = some (.ret [dV (.s 2 ((putL l x).map lvD))] []) := by
    intro m
    induction m with
    | zero =>
      intro k hk s hs1 hs2 hs3
      have : k = l.length := by omega
      subst this
      rw [List.take_length] at hs1
      rw [done196 ext z l x s.1 s.2 (by omega) hs3]
      unfold putL
      rw [← hs1]
    | succ m ih =>
      intro k hk s hs1 hs2 hs3
      have hlt : k < l.length := by omega
      refine step196 ext z l x l[k] s.1 s.2 k (by omega) (by simp [hlt]) (by omega) _ ?_
      rw [wr_id (by omega) (by omega)]
      have hp := putStep_len x s l[k]
      have := ih (k + 1) (by omega) (putStep x s l[k]) (by rw [List.take_succ_eq_append_getElem hlt, List.foldl_append, ← hs1]; rfl) (by omega) (fun _ e => by rw [e] at hp; simp at hp)
      exact_mod_cast this
  exact key l.length 0 (by omega) ([], false) rfl (by simp) (by simp)
/-! ### canonical -/
def E129 (z : Bool) (l : List LV) (k : Int) : Env := [(1, dV (listD z 2 (l.map lvD))), (4, .c (.ptr 0 0)), (5, .c (.ptr 1 0)), (6, iV k)]
def O129 (c : Int) (vs : List LV) : List O := [.box (levC zLev), .box [.d (.v (.int .i64 c)), .d (listD true 2 (vs.map lvD))]]
theorem enter129 (hx : ext 129 = none) (z : Bool) (l : List LV) (c : Int) (out : Option Out) (h : H129a ext 0 (E129 z l 0) (O129 c []) = out) : run Tryz.prog ext (.call 129 [iV c, dV (listD z 2 (l.map lvD))] []) = out := by
  unfold H129a at h
  (rw [run_eq]; simp only [stepA, hx, Tryz.func129, Tryz.f129, show retF 129 = false from rfl]; simp only [List.length_cons, List.length_nil, Nat.reduceAdd, Nat.reduceLeDiff, Nat.zero_le, ↓reduceIte, List.zipIdx_cons, List.zipIdx_nil, List.map_cons, List.map_nil])
  simp only [dV, iV, E129, O129, levC_z, List.map_nil] at h ⊢
  simp only [zS, zD, convertA, makeFuncA, Nat.reduceAdd, Nat.reduceSub, Nat.reduceMul, Nat.reduceLT, Nat.reduceLeDiff, Nat.reduceGT, ↓reduceIte, Nat.reduceEqDiff, Nat.reduceBEq, reduceCtorEq, Int.reduceBEq, Int.reduceBNe, Int.reduceLT, Int.reduceLE, Int.reduceGT, Int.reduceGE, zT36, zT34, zT110, zT3]
  (refine (r_inLoop_some ?_).trans h; kernel_rfl)
theorem putL_ne (l : List LV) (x : LV) : putL l x ≠ [] := by
  unfold putL
  dsimp only
  split
  · rename_i h
    have : ∀ (l : List LV) (s : List LV × Bool), (s.2 = true → s.1 ≠ []) → ((l.foldl (putStep x) s).2 = true → (l.foldl (putStep x) s).1 ≠ []) := by
      intro l
      induction l with
      | nil => intro s hs; exact hs
      | cons a l ih => intro s hs; exact ih _ (fun _ e => by have := (putStep_len x s a).1; rw [e] at this; simp at this)
    exact this l _ (by simp) h
  · simp
theorem step129 (hx : ext 196 = none) (z : Bool) (l : List LV) (y : LV) (c : Int) (vs : List LV) (k : Nat) (hb : vs.length < 400000) (hk : l[k]? = some y) (hl : (k : Int) < l.length) (out : Option Out) (h : H129a ext 0 (E129 z l (wr ((k : Int) + 1))) (O129 c (putL vs y)) = out) : H129a ext 0 (E129 z l k) (O129 c vs) = out := by
  have h0 : (0 : Int) ≤ k := by omega
  have hd : listD z 2 (l.map lvD) = .s 2 (l.map lvD) := listD_of_lt h0 (by simpa using hl)
  have hr := putL_D ext hx true vs y (by omega)
  have hne : listD true 2 ((putL vs y).map lvD) = .s 2 ((putL vs y).map lvD) := listD_ne (by simpa using putL_ne vs y)
  unfold H129a at h ⊢
  simp only [dV, iV, E129, O129, levC_z, hd, hne, lvV, lvC] at h hr ⊢
  (rw [show (It.code L129a) = It.code (sub B129 [1, 1, 1, 0, 1, 0, 0]) from rfl]; simp only [B129, K129a, sub, Option.getD_some, Tryz.f129, ↓reduceIte, Nat.one_ne_zero])
  simp only [zS, zD, convertA, makeFuncA, Nat.reduceAdd, Nat.reduceSub, Nat.reduceMul, Nat.reduceLT, Nat.reduceLeDiff, Nat.reduceGT, ↓reduceIte, Nat.reduceEqDiff, Nat.reduceBEq, reduceCtorEq, Int.reduceBEq, Int.reduceBNe, Int.reduceLT, Int.reduceLE, Int.reduceGT, Int.reduceGE, zT36, zT34, zT110, zT3, drawA, holes_succ, holes_zero, Array.size, List.length, h0, hl, Int.toNat_natCast, hk, lvD, hr]
  rw [afterDraw_some _ _ _ _ (by kernel_rfl)]
  simp only [zS, zD, convertA, makeFuncA, Nat.reduceAdd, Nat.reduceSub, Nat.reduceMul, Nat.reduceLT, Nat.reduceLeDiff, Nat.reduceGT, ↓reduceIte, Nat.reduceEqDiff, Nat.reduceBEq, reduceCtorEq, Int.reduceBEq, Int.reduceBNe, Int.reduceLT, Int.reduceLE, Int.reduceGT, Int.reduceGE]
  (refine (r_inLoop_some ?_).trans h; kernel_rfl)
def E129b (k : Int) : Env := [(4, .c (.ptr 0 0)), (5, .c (.ptr 1 0)), (7, iV k)]
theorem mid129 (z : Bool) (l : List LV) (c : Int) (vs : List LV) (out : Option Out) (h : H129b ext 0 (E129b 0) (O129 c vs) = out) : H129a ext 0 (E129 z l l.length) (O129 c vs) = out := by
  unfold H129b at h
  unfold H129a
  simp only [dV, iV, E129, E129b, O129, levC_z] at h ⊢
  (rw [show (It.code L129a) = It.code (sub B129 [1, 1, 1, 0, 1, 0, 0]) from rfl]; simp only [B129, K129a, sub, Option.getD_some, Tryz.f129, ↓reduceIte, Nat.one_ne_zero])
  simp only [zS, zD, convertA, makeFuncA, Nat.reduceAdd, Nat.reduceSub, Nat.reduceMul, Nat.reduceLT, Nat.reduceLeDiff, Nat.reduceGT, ↓reduceIte, Nat.reduceEqDiff, Nat.reduceBEq, reduceCtorEq, Int.reduceBEq, Int.reduceBNe, Int.reduceLT, Int.reduceLE, Int.reduceGT, Int.reduceGE, zT36, zT34, zT110, zT3, Int.lt_irrefl]
  (refine (r_inLoop_some ?_).trans h; kernel_rfl)
def cutC1 (c : Int) (y : LV) : Int := if y.p ≥ c then 0 else c
theorem step129b (c : Int) (vs : List LV) (y : LV) (k : Nat) (hk : vs[k]? = some y) (hl : (k : Int) < vs.length) (out : Option Out) (h : H129b ext 0 (E129b (wr ((k : Int) + 1))) (O129 (cutC1 c y) vs) = out) : H129b ext 0 (E129b k) (O129 c vs) = out := by
  have h0 : (0 : Int) ≤ k := by omega
  have hd : listD true 2 (vs.map lvD) = .s 2 (vs.map lvD) := listD_of_lt h0 (by simpa using hl)
  unfold H129b at h ⊢
  simp only [dV, iV, E129b, O129, levC_z, hd, cutC1] at h ⊢
  (rw [show (It.code L129b) = It.code (sub B129 [1, 1, 1, 1, 0, 1, 0, 0]) from rfl]; simp only [B129, K129b, sub, Option.getD_some, Tryz.f129, ↓reduceIte, Nat.one_ne_zero])
  by_cases h1 : y.p ≥ c
  · simp only [h1, if_true] at h
    simp only [zS, zD, convertA, makeFuncA, Nat.reduceAdd, Nat.reduceSub, Nat.reduceMul, Nat.reduceLT, Nat.reduceLeDiff, Nat.reduceGT, ↓reduceIte, Nat.reduceEqDiff, Nat.reduceBEq, reduceCtorEq, Int.reduceBEq, Int.reduceBNe, Int.reduceLT, Int.reduceLE, Int.reduceGT, Int.reduceGE, zT36, zT34, zT110, zT3, drawA, holes_succ, holes_zero, Array.size, List.length, h0, hl, h1, Int.toNat_natCast, hk, lvD]
    rw [afterDraw_some _ _ _ _ (by kernel_rfl)]
    simp only [zS, zD, convertA, makeFuncA, Nat.reduceAdd, Nat.reduceSub, Nat.reduceMul, Nat.reduceLT, Nat.reduceLeDiff, Nat.reduceGT, ↓reduceIte, Nat.reduceEqDiff, Nat.reduceBEq, reduceCtorEq, Int.reduceBEq, Int.reduceBNe, Int.reduceLT, Int.reduceLE, Int.reduceGT, Int.reduceGE, zT36, zT3]
    (refine (r_inLoop_some ?_).trans h; kernel_rfl)
  · simp only [h1, if_false] at h
    simp only [zS, zD, convertA, makeFuncA, Nat.reduceAdd, Nat.reduceSub, Nat.reduceMul, Nat.reduceLT, Nat.reduceLeDiff, Nat.reduceGT, ↓reduceIte, Nat.reduceEqDiff, Nat.reduceBEq, reduceCtorEq, Int.reduceBEq, Int.reduceBNe, Int.reduceLT, Int.reduceLE, Int.reduceGT, Int.reduceGE, zT36, zT34, zT110, zT3, drawA, holes_succ, holes_zero, Array.size, List.length, h0, hl, h1, Int.toNat_natCast, hk, lvD]
    rw [afterDraw_some _ _ _ _ (by kernel_rfl)]
    simp only [zS, zD, convertA, makeFuncA, Nat.reduceAdd, Nat.reduceSub, Nat.reduceMul, Nat.reduceLT, Nat.reduceLeDiff, Nat.reduceGT, ↓reduceIte, Nat.reduceEqDiff, Nat.reduceBEq, reduceCtorEq, Int.reduceBEq, Int.reduceBNe, Int.reduceLT, Int.reduceLE, Int.reduceGT, Int.reduceGE, zT36, zT3]
    (refine (r_inLoop_some ?_).trans h; kernel_rfl)
theorem done129b (c : Int) (vs : List LV) : H129b ext 0 (E129b vs.length) (O129 c vs) = some (.ret [levV ⟨c, vs, true⟩] []) := by
  unfold H129b
  simp only [dV, iV, E129b, O129, levC_z, levV, levC, Lev.d]
  (rw [show (It.code L129b) = It.code (sub B129 [1, 1, 1, 1, 0, 1, 0, 0]) from rfl]; simp only [B129, K129b, sub, Option.getD_some, Tryz.f129, ↓reduceIte, Nat.one_ne_zero])
  simp only [zS, zD, convertA, makeFuncA, Nat.reduceAdd, Nat.reduceSub, Nat.reduceMul, Nat.reduceLT, Nat.reduceLeDiff, Nat.reduceGT, ↓reduceIte, Nat.reduceEqDiff, Nat.reduceBEq, reduceCtorEq, Int.reduceBEq, Int.reduceBNe, Int.reduceLT, Int.reduceLE, Int.reduceGT, Int.reduceGE, zT36, zT34, zT110, zT3, Int.lt_irrefl]
  (refine Eq.trans ?_ rfl; kernel_rfl)
def canonR (c : Int) (l : List LV) : Lev := let vs := l.foldl putL []; ⟨vs.foldl cutC1 c, vs, true⟩
theorem putStep_len' (x : LV) (s : List LV × Bool) (y : LV) (k : Nat) (h : s.1.length ≤ k + s.2.toNat) : (putStep x s y).1.length ≤ k + 1 + (putStep x s y).2.toNat := by
  obtain ⟨a, d⟩ := s
  unfold putStep
  cases d <;> by_cases h1 : x.v < y.v <;> by_cases h2 : x.v = y.v <;> simp [h1, h2] at h ⊢ <;> omega
theorem putL_len (l : List LV) (x : LV) : (putL l x).length ≤ l.length + 1 := by
  have : ∀ (l : List LV) (s : List LV × Bool) (k : Nat), s.1.length ≤ k + s.2.toNat → (l.foldl (putStep x) s).1.length ≤ k + l.length + (l.foldl (putStep x) s).2.toNat := by
    intro l
    induction l with
    | nil => intro s k h; simp only [List.foldl_nil, List.length_nil, Nat.add_zero]; exact h
    | cons a l ih => intro s k h; have := ih (putStep x s a) (k + 1) (putStep_len' x s a k h); simp only [List.foldl_cons, List.length_cons]; omega
  have := this l ([], false) 0 (by simp)
  unfold putL
  dsimp only
  split
  · rename_i h; rw [h] at this; simp at this; omega
  · rename_i h
    have h' : (l.foldl (putStep x) ([], false)).2 = false := by simpa using h
    rw [h'] at this; simp at this ⊢; omega
theorem puts_len : ∀ (l vs : List LV), (l.foldl putL vs).length ≤ vs.length + l.length
  | [], vs => by simp
  | a :: l, vs => by have := puts_len l (putL vs a); have := putL_len vs a; simp only [List.foldl_cons, List.length_cons]; omega
theorem canon129 (hx : ext 129 = none) (hx1 : ext 196 = none) (z : Bool) (l : List LV) (c : Int) (hs : l.length < 100000) : run Tryz.prog ext (.call 129 [iV c, dV (listD z 2 (l.map lvD))] []) = some (.ret [levV (canonR c l)] []) := by
  refine enter129 ext hx z l c _ ?_
  have key : ∀ (m k : Nat), k + m = l.length → H129a ext 0 (E129 z l k) (O129 c ((l.take k).foldl putL [])) = some (.ret [levV (canonR c l)] []) := by
    intro m
    induction m with
    | zero =>
      intro k hk
      rw [List.take_of_length_le (by omega), show k = l.length by omega]
      refine mid129 ext z l c _ _ ?_
      have hl := puts_len l []
      generalize hv : l.foldl putL [] = vs at hl
      have := loop_foldE (ρ := Unit) vs (fun k c => H129b ext 0 (E129b k) (O129 c vs)) (fun c y => .inl (cutC1 c y)) (fun _ => none) (fun c => some (.ret [levV ⟨c, vs, true⟩] [])) (by simp at hl; omega) (fun k y c hk hkl => fun out h => step129b ext c vs y k hk hkl out h) (fun c => done129b ext c vs) c
      rw [this, foldl_inl]
      unfold canonR
      rw [hv]
    | succ m ih =>
      intro k hk
      have hlt : k < l.length := by omega
      have hl := puts_len (l.take k) []
      refine step129 ext hx1 z l l[k] c _ k (by simp at hl; omega) (by simp [hlt]) (by omega) _ ?_
      rw [wr_id (by omega) (by omega)]
      have := ih (k + 1) (by omega)
      rw [List.take_succ_eq_append_getElem hlt, List.foldl_append] at this
      exact_mod_cast this
  simpa using key l.length 0 (by omega)
end Go.Proofs.YteenjodhmppgjaaGreatDoor.Am
end
section
/- Levels: what the reference puts in for variables. -/
namespace Go.Proofs.YteenjodhmppgjaaGreatDoor.Am
open Go
variable (ext : Ext)
set_option maxHeartbeats 4000000
theorem callOut_cs (slot : Nat) (cs : List C) (x : D) (h : cs.all dataC = true) : callOut [] [] slot (some (.ret [.agg cs, .c (.d x)] [])) = some ⟨.val (.tup [(true, cs), (false, [.d x])]), [], []⟩ := by
  obtain ⟨_, _, h3⟩ := argCs_data (look := fun _ => none) h
  simp only [callOut, answer, mapO, renV, h3, renC, results1, comp, List.length_nil, Nat.lt_irrefl, if_false]
  split <;> rfl
theorem okLV_of_valid {x : Lev} (h : x.valid = true) {k : Nat} {y : LV} (hk : x.vs[k]? = some y) : okLV y = true := by
  unfold Lev.valid at h
  simp only [Bool.and_eq_true, Option.isNone_iff_eq_none] at h
  have := none_iff.1 h.2 k y hk
  simp [badLV] at this
  exact this.1
theorem wr_succ {k : Nat} (h : k < 2 ^ 62) : wr ((k : Int) + 1) = ((k + 1 : Nat) : Int) := by rw [wr_id (by omega) (by omega)]; rfl
end Go.Proofs.YteenjodhmppgjaaGreatDoor.Am
end
section
/- Levels: sorting. -/
namespace Go.Proofs.YteenjodhmppgjaaGreatDoor.Am
open Go
variable (ext : Ext)
set_option maxHeartbeats 4000000
noncomputable def B254 : Code := (Tryz.f254.body.getD .skip)
noncomputable def L254a : Code := sub B254 [1, 0, 0]
noncomputable def K254a : List It := [.inBlock 0]
noncomputable def H254a (ext : Ext) (m : Nat) (env : Env) (loc : List O) : Option Out := run Tryz.prog ext (.k ⟨53, m, [], false⟩ (.code L254a :: .inLoop L254a :: K254a) env loc)
noncomputable def L254b : Code := sub B254 [1, 0, 0, 1, 0, 0, 1, 0, 0]
noncomputable def K254b : List It := [.inBlock 2, .inBlock 1, .code (sub B254 [1, 0, 0, 1, 1]), .inLoop L254a, .inBlock 0]
noncomputable def H254b (ext : Ext) (m : Nat) (env : Env) (loc : List O) : Option Out := run Tryz.prog ext (.k ⟨53, m, [], false⟩ (.code L254b :: .inLoop L254b :: K254b) env loc)
noncomputable def B236 : Code := (Tryz.f236.body.getD .skip)
noncomputable def L236a : Code := sub B236 [1, 1, 0, 0]
noncomputable def K236a : List It := [.inBlock 0]
noncomputable def H236a (ext : Ext) (m : Nat) (env : Env) (loc : List O) : Option Out := run Tryz.prog ext (.k ⟨148, m, [], false⟩ (.code L236a :: .inLoop L236a :: K236a) env loc)
def cmpI (a b : Int) : Int := if a < b then -1 else if b < a then 1 else 0
theorem nan238 (hx : ext 238 = none) (a : Int) : run Tryz.prog ext (.call 238 [iV a] []) = some (.ret [bV false] []) := by
  (rw [run_eq]; simp only [stepA, hx, Tryz.func238, Tryz.f238, show retF 238 = false from rfl]; simp only [List.length_cons, List.length_nil, Nat.reduceAdd, Nat.reduceLeDiff, Nat.zero_le, ↓reduceIte, List.zipIdx_cons, List.zipIdx_nil, List.map_cons, List.map_nil])
  simp only [iV, bV]
  simp only [zS, zD, convertA, makeFuncA, Nat.reduceAdd, Nat.reduceSub, Nat.reduceMul, Nat.reduceLT, Nat.reduceLeDiff, Nat.reduceGT, ↓reduceIte, Nat.reduceEqDiff, Nat.reduceBEq, reduceCtorEq, Int.reduceBEq, Int.reduceBNe, Int.reduceLT, Int.reduceLE, Int.reduceGT, Int.reduceGE, zT3]
  (refine Eq.trans ?_ rfl; kernel_rfl)
theorem cmp194 (hx : ext 194 = none) (h238 : ext 238 = none) (a b : Int) : run Tryz.prog ext (.call 194 [iV a, iV b] []) = some (.ret [iV (cmpI a b)] []) := by
  have h1 := nan238 ext h238 a
  have h2 := nan238 ext h238 b
  unfold cmpI
  by_cases c1 : a < b
  · rw [if_pos c1]
    (rw [run_eq]; simp only [stepA, hx, Tryz.func194, Tryz.f194, show retF 194 = false from rfl]; simp only [List.length_cons, List.length_nil, Nat.reduceAdd, Nat.reduceLeDiff, Nat.zero_le, ↓reduceIte, List.zipIdx_cons, List.zipIdx_nil, List.map_cons, List.map_nil])
    simp only [iV, bV] at h1 h2 ⊢
    simp only [zS, zD, convertA, makeFuncA, Nat.reduceAdd, Nat.reduceSub, Nat.reduceMul, Nat.reduceLT, Nat.reduceLeDiff, Nat.reduceGT, ↓reduceIte, Nat.reduceEqDiff, Nat.reduceBEq, reduceCtorEq, Int.reduceBEq, Int.reduceBNe, Int.reduceLT, Int.reduceLE, Int.reduceGT, Int.reduceGE, zT3, h1, h2, c1]
    (refine Eq.trans ?_ rfl; kernel_rfl)
  by_cases c2 : a > b
  · rw [if_neg c1, if_pos c2]
    (rw [run_eq]; simp only [stepA, hx, Tryz.func194, Tryz.f194, show retF 194 = false from rfl]; simp only [List.length_cons, List.length_nil, Nat.reduceAdd, Nat.reduceLeDiff, Nat.zero_le, ↓reduceIte, List.zipIdx_cons, List.zipIdx_nil, List.map_cons, List.map_nil])
    simp only [iV, bV] at h1 h2 ⊢
    simp only [zS, zD, convertA, makeFuncA, Nat.reduceAdd, Nat.reduceSub, Nat.reduceMul, Nat.reduceLT, Nat.reduceLeDiff, Nat.reduceGT, ↓reduceIte, Nat.reduceEqDiff, Nat.reduceBEq, reduceCtorEq, Int.reduceBEq, Int.reduceBNe, Int.reduceLT, Int.reduceLE, Int.reduceGT, Int.reduceGE, zT3, h1, h2, c1, c2]
    (refine Eq.trans ?_ rfl; kernel_rfl)
  rw [if_neg c1, if_neg c2]
  (rw [run_eq]; simp only [stepA, hx, Tryz.func194, Tryz.f194, show retF 194 = false from rfl]; simp only [List.length_cons, List.length_nil, Nat.reduceAdd, Nat.reduceLeDiff, Nat.zero_le, ↓reduceIte, List.zipIdx_cons, List.zipIdx_nil, List.map_cons, List.map_nil])
  simp only [iV, bV] at h1 h2 ⊢
  simp only [zS, zD, convertA, makeFuncA, Nat.reduceAdd, Nat.reduceSub, Nat.reduceMul, Nat.reduceLT, Nat.reduceLeDiff, Nat.reduceGT, ↓reduceIte, Nat.reduceEqDiff, Nat.reduceBEq, reduceCtorEq, Int.reduceBEq, Int.reduceBNe, Int.reduceLT, Int.reduceLE, Int.reduceGT, Int.reduceGE, zT3, h1, h2, c1, c2]
  (refine Eq.trans ?_ rfl; kernel_rfl)
theorem cmp193 (hx : ext 193 = none) (h194 : ext 194 = none) (h238 : ext 238 = none) (x y : LV) : run Tryz.prog ext (.call 193 [lvV x, lvV y] []) = some (.ret [iV (cmpI x.v y.v)] []) := by
  have h := cmp194 ext h194 h238 x.v y.v
  (rw [run_eq]; simp only [stepA, hx, Tryz.func193, Tryz.f193, show retF 193 = false from rfl]; simp only [List.length_cons, List.length_nil, Nat.reduceAdd, Nat.reduceLeDiff, Nat.zero_le, ↓reduceIte, List.zipIdx_cons, List.zipIdx_nil, List.map_cons, List.map_nil])
  simp only [iV, lvV, lvC] at h ⊢
  simp only [zS, zD, convertA, makeFuncA, Nat.reduceAdd, Nat.reduceSub, Nat.reduceMul, Nat.reduceLT, Nat.reduceLeDiff, Nat.reduceGT, ↓reduceIte, Nat.reduceEqDiff, Nat.reduceBEq, reduceCtorEq, Int.reduceBEq, Int.reduceBNe, Int.reduceLT, Int.reduceLE, Int.reduceGT, Int.reduceGE, zT110, zT3, h]
  (refine Eq.trans ?_ rfl; kernel_rfl)
def E254 (n i : Int) : Env := [(0, .c (.own 0)), (1, iV 0), (2, iV n), (3, .c (.fn 193 [] [])), (8, iV i)]
def O254 (l : List LV) : List O := [.arr 2 (l.map lvD)]
def E254b (n i j : Int) : Env := [(0, .c (.own 0)), (1, iV 0), (2, iV n), (3, .c (.fn 193 [] [])), (8, iV i), (9, iV j)]
theorem enter254 (hx : ext 254 = none) (l : List LV) (n : Int) (out : Option Out) (h : H254a ext 1 (E254 n 1) (O254 l) = out) : run Tryz.prog ext (.call 254 [.c (.own 0), iV 0, iV n, .c (.fn 193 [] [])] (O254 l)) = out := by
  unfold H254a at h
  have e : wr (0 + 1) = 1 := by rw [wr_id (by omega) (by omega)]; rfl
  (rw [run_eq]; simp only [stepA, hx, Tryz.func254, Tryz.f254, show retF 254 = false from rfl]; simp only [List.length_cons, List.length_nil, Nat.reduceAdd, Nat.reduceLeDiff, Nat.zero_le, ↓reduceIte, List.zipIdx_cons, List.zipIdx_nil, List.map_cons, List.map_nil])
  simp only [dV, iV, bV, E254, O254] at h ⊢
  simp only [zS, zD, convertA, makeFuncA, Nat.reduceAdd, Nat.reduceSub, Nat.reduceMul, Nat.reduceLT, Nat.reduceLeDiff, Nat.reduceGT, ↓reduceIte, Nat.reduceEqDiff, Nat.reduceBEq, reduceCtorEq, Int.reduceBEq, Int.reduceBNe, Int.reduceLT, Int.reduceLE, Int.reduceGT, Int.reduceGE, zT36, zT34, zT110, zT3, e]
  (refine (r_inLoop_some ?_).trans h; kernel_rfl)
theorem in254 (l : List LV) (n i : Int) (h1 : i < n) (out : Option Out) (h : H254b ext 1 (E254b n i i) (O254 l) = out) : H254a ext 1 (E254 n i) (O254 l) = out := by
  unfold H254b at h
  unfold H254a
  simp only [dV, iV, bV, E254, E254b, O254] at h ⊢
  (rw [show (It.code L254a) = It.code (sub B254 [1, 0, 0]) from rfl]; simp only [B254, K254a, sub, Option.getD_some, Tryz.f254, ↓reduceIte, Nat.one_ne_zero])
  simp only [zS, zD, convertA, makeFuncA, Nat.reduceAdd, Nat.reduceSub, Nat.reduceMul, Nat.reduceLT, Nat.reduceLeDiff, Nat.reduceGT, ↓reduceIte, Nat.reduceEqDiff, Nat.reduceBEq, reduceCtorEq, Int.reduceBEq, Int.reduceBNe, Int.reduceLT, Int.reduceLE, Int.reduceGT, Int.reduceGE, zT36, zT34, zT110, zT3, h1]
  (refine (r_inLoop_some ?_).trans h; kernel_rfl)
theorem out254 (l : List LV) (n i : Int) (h1 : ¬ i < n) : H254a ext 1 (E254 n i) (O254 l) = some (.ret [] (O254 l)) := by
  unfold H254a
  simp only [dV, iV, bV, E254, O254]
  (rw [show (It.code L254a) = It.code (sub B254 [1, 0, 0]) from rfl]; simp only [B254, K254a, sub, Option.getD_some, Tryz.f254, ↓reduceIte, Nat.one_ne_zero])
  simp only [zS, zD, convertA, makeFuncA, Nat.reduceAdd, Nat.reduceSub, Nat.reduceMul, Nat.reduceLT, Nat.reduceLeDiff, Nat.reduceGT, ↓reduceIte, Nat.reduceEqDiff, Nat.reduceBEq, reduceCtorEq, Int.reduceBEq, Int.reduceBNe, Int.reduceLT, Int.reduceLE, Int.reduceGT, Int.reduceGE, zT36, zT34, zT110, zT3, h1]
  (refine Eq.trans ?_ rfl; kernel_rfl)
theorem swap254 (l : List LV) (x y : LV) (n i : Int) (j : Nat) (hx : l[j + 1]? = some x) (hy : l[j]? = some y) (hc : run Tryz.prog ext (.call 193 [lvV x, lvV y] []) = some (.ret [iV (-1)] [])) (hl : j < 2 ^ 60) (out : Option Out)
    (h : H254b ext 1 (E254b n i j) (O254 ((l.set (j + 1) y).set j x)) = out) : H254b ext 1 (E254b n i (j + 1 : Nat)) (O254 l) = out := by
  have hlt := lt_of_get hx
  have h1 : ((j + 1 : Nat) : Int) > 0 := by omega
  have h0 : (0 : Int) ≤ (j + 1 : Nat) := by omega
  have hk : ((j + 1 : Nat) : Int) < l.length := by omega
  have e : wr (((j + 1 : Nat) : Int) - 1) = (j : Int) := by rw [wr_id (by omega) (by omega)]; omega
  have h0' : (0 : Int) ≤ (j : Int) := by omega
  have hk' : (j : Int) < l.length := by omega
  have hm : (1 : Int) > 0 := by decide
  have hx' : (l.map lvD)[j + 1]? = some [.v (.int .i64 x.v), .v (.int .i64 x.p)] := by rw [List.getElem?_map, hx]; rfl
  have hy' : (l.map lvD)[j]? = some [.v (.int .i64 y.v), .v (.int .i64 y.p)] := by rw [List.getElem?_map, hy]; rfl
  have hs : ((l.set (j + 1) y).set j x).map lvD = ((l.map lvD).set (j + 1) [.v (.int .i64 y.v), .v (.int .i64 y.p)]).set j [.v (.int .i64 x.v), .v (.int .i64 x.p)] := by rw [List.map_set, List.map_set]; rfl
  have hy2 : ((l.map lvD).set (j + 1) [.v (.int .i64 y.v), .v (.int .i64 y.p)])[j]? = some [.v (.int .i64 y.v), .v (.int .i64 y.p)] := by rw [List.getElem?_set_ne (by omega), hy']
  unfold H254b at h ⊢
  simp only [dV, iV, bV, E254b, O254, lvV, lvC, hs] at h hc ⊢
  (rw [show (It.code L254b) = It.code (sub B254 [1, 0, 0, 1, 0, 0, 1, 0, 0]) from rfl]; simp only [B254, K254b, sub, Option.getD_some, Tryz.f254, ↓reduceIte, Nat.one_ne_zero])
  simp only [zS, zD, convertA, makeFuncA, Nat.reduceAdd, Nat.reduceSub, Nat.reduceMul, Nat.reduceLT, Nat.reduceLeDiff, Nat.reduceGT, ↓reduceIte, Nat.reduceEqDiff, Nat.reduceBEq, reduceCtorEq, Int.reduceBEq, Int.reduceBNe, Int.reduceLT, Int.reduceLE, Int.reduceGT, Int.reduceGE, zT34, zT110, zT3, drawA, holes_succ, holes_zero, Array.size, List.length, h0, h1, hk, h0', hk', e, Int.toNat_natCast, hx, hy, lvD, hc]
  rw [afterDraw_some _ _ _ _ (by kernel_rfl)]
  simp only [zS, zD, convertA, makeFuncA, Nat.reduceAdd, Nat.reduceSub, Nat.reduceMul, Nat.reduceLT, Nat.reduceLeDiff, Nat.reduceGT, ↓reduceIte, Nat.reduceEqDiff, Nat.reduceBEq, reduceCtorEq, Int.reduceBEq, Int.reduceBNe, Int.reduceLT, Int.reduceLE, Int.reduceGT, Int.reduceGE, zT34, zT110, zT3, drawA, holes_succ, holes_zero, Array.size, List.length, h0, h1, hk, h0', hk', e, Int.toNat_natCast, hx, hy, hx', hy', hy2, lvD, stK, toDs, toD, kills, List.length_set, List.contains_nil]
  rw [afterDraw_some _ _ _ _ (by kernel_rfl)]
  simp only [zS, zD, convertA, makeFuncA, Nat.reduceAdd, Nat.reduceSub, Nat.reduceMul, Nat.reduceLT, Nat.reduceLeDiff, Nat.reduceGT, ↓reduceIte, Nat.reduceEqDiff, Nat.reduceBEq, reduceCtorEq, Int.reduceBEq, Int.reduceBNe, Int.reduceLT, Int.reduceLE, Int.reduceGT, Int.reduceGE, zT3, e]
  (refine (r_inLoop_some ?_).trans h; kernel_rfl)
theorem stop254 (l : List LV) (x y : LV) (n i c : Int) (j : Nat) (hx : l[j + 1]? = some x) (hy : l[j]? = some y) (hc : run Tryz.prog ext (.call 193 [lvV x, lvV y] []) = some (.ret [iV c] [])) (hcn : ¬ c < 0) (hl : j < 2 ^ 60) (out : Option Out)
    (h : H254a ext 1 (E254 n (wr (i + 1))) (O254 l) = out) : H254b ext 1 (E254b n i (j + 1 : Nat)) (O254 l) = out := by
  have hlt := lt_of_get hx
  have h1 : ((j + 1 : Nat) : Int) > 0 := by omega
  have h0 : (0 : Int) ≤ (j + 1 : Nat) := by omega
  have hk : ((j + 1 : Nat) : Int) < l.length := by omega
  have e : wr (((j + 1 : Nat) : Int) - 1) = (j : Int) := by rw [wr_id (by omega) (by omega)]; omega
  have h0' : (0 : Int) ≤ (j : Int) := by omega
  have hk' : (j : Int) < l.length := by omega
  unfold H254a at h
  unfold H254b
  simp only [dV, iV, bV, E254, E254b, O254, lvV, lvC] at h hc ⊢
  (rw [show (It.code L254b) = It.code (sub B254 [1, 0, 0, 1, 0, 0, 1, 0, 0]) from rfl]; simp only [B254, K254b, sub, Option.getD_some, Tryz.f254, ↓reduceIte, Nat.one_ne_zero])
  simp only [zS, zD, convertA, makeFuncA, Nat.reduceAdd, Nat.reduceSub, Nat.reduceMul, Nat.reduceLT, Nat.reduceLeDiff, Nat.reduceGT, ↓reduceIte, Nat.reduceEqDiff, Nat.reduceBEq, reduceCtorEq, Int.reduceBEq, Int.reduceBNe, Int.reduceLT, Int.reduceLE, Int.reduceGT, Int.reduceGE, zT34, zT110, zT3, drawA, holes_succ, holes_zero, Array.size, List.length, h0, h1, hk, h0', hk', e, Int.toNat_natCast, hx, hy, lvD, hc, hcn]
  rw [afterDraw_some _ _ _ _ (by kernel_rfl)]
  simp only [zS, zD, convertA, makeFuncA, Nat.reduceAdd, Nat.reduceSub, Nat.reduceMul, Nat.reduceLT, Nat.reduceLeDiff, Nat.reduceGT, ↓reduceIte, Nat.reduceEqDiff, Nat.reduceBEq, reduceCtorEq, Int.reduceBEq, Int.reduceBNe, Int.reduceLT, Int.reduceLE, Int.reduceGT, Int.reduceGE, zT3]
  (refine (r_inLoop_some ?_).trans h; kernel_rfl)
theorem stop0 (l : List LV) (n i : Int) (out : Option Out) (h : H254a ext 1 (E254 n (wr (i + 1))) (O254 l) = out) : H254b ext 1 (E254b n i 0) (O254 l) = out := by
  have h1 : ¬ ((0 : Int) > 0) := by decide
  unfold H254a at h
  unfold H254b
  simp only [dV, iV, bV, E254, E254b, O254, lvV, lvC] at h ⊢
  (rw [show (It.code L254b) = It.code (sub B254 [1, 0, 0, 1, 0, 0, 1, 0, 0]) from rfl]; simp only [B254, K254b, sub, Option.getD_some, Tryz.f254, ↓reduceIte, Nat.one_ne_zero])
  simp only [zS, zD, convertA, makeFuncA, Nat.reduceAdd, Nat.reduceSub, Nat.reduceMul, Nat.reduceLT, Nat.reduceLeDiff, Nat.reduceGT, ↓reduceIte, Nat.reduceEqDiff, Nat.reduceBEq, reduceCtorEq, Int.reduceBEq, Int.reduceBNe, Int.reduceLT, Int.reduceLE, Int.reduceGT, Int.reduceGE, zT34, zT110, zT3, drawA, holes_succ, holes_zero, Array.size, List.length, h1]
  rw [afterDraw_some _ _ _ _ (by kernel_rfl)]
  simp only [zS, zD, convertA, makeFuncA, Nat.reduceAdd, Nat.reduceSub, Nat.reduceMul, Nat.reduceLT, Nat.reduceLeDiff, Nat.reduceGT, ↓reduceIte, Nat.reduceEqDiff, Nat.reduceBEq, reduceCtorEq, Int.reduceBEq, Int.reduceBNe, Int.reduceLT, Int.reduceLE, Int.reduceGT, Int.reduceGE, zT3]
  (refine (r_inLoop_some ?_).trans h; kernel_rfl)
/-- The last of a sorted list, that goes down to its place: r: what is ahead of it, backwards; s: what has gone up. -/
def insR (x : LV) : List LV → List LV → List LV
  | [], s => x :: s
  | y :: r, s => if x.v < y.v then insR x r (y :: s) else (y :: r).reverse ++ x :: s
def isort : List LV → List LV → List LV
  | acc, [] => acc
  | acc, x :: r => isort (insR x acc.reverse []) r
def sortL : List LV → List LV
  | [] => []
  | a :: r => isort [a] r
theorem insR_len (x : LV) : ∀ (r s : List LV), (insR x r s).length = r.length + s.length + 1
  | [], s => by simp [insR]
  | y :: r, s => by
    unfold insR
    split
    · rw [insR_len x r]; simp; omega
    · simp; omega
theorem isort_len : ∀ (r acc : List LV), (isort acc r).length = acc.length + r.length
  | [], acc => by simp [isort]
  | x :: r, acc => by rw [isort, isort_len r, insR_len]; simp; omega
theorem set_swap (A : List LV) (x y : LV) (B : List LV) : ((A ++ y :: x :: B).set (A.length + 1) y).set A.length x = A ++ x :: y :: B := by
  rw [List.set_append_right _ _ (by omega), Nat.add_sub_cancel_left]
  simp
theorem inner254 (h193 : ext 193 = none) (h194 : ext 194 = none) (h238 : ext 238 = none) (n i : Int) (x : LV) (rest : List LV) (out : Option Out) : ∀ (r s : List LV), r.length < 2 ^ 60 → H254a ext 1 (E254 n (wr (i + 1))) (O254 (insR x r s ++ rest)) = out → H254b ext 1 (E254b n i r.length) (O254 (r.reverse ++ x :: (s ++ rest))) = out
  | [], s, _, h => by
    have := stop0 ext (x :: (s ++ rest)) n i out (by simpa [insR] using h)
    simpa using this
  | y :: r, s, hr, h => by
    have hrl : r.reverse.length = r.length := by simp
    have hx : ((y :: r).reverse ++ x :: (s ++ rest))[r.length + 1]? = some x := by
      rw [List.getElem?_append_right (by simp)]; simp
    have hy : ((y :: r).reverse ++ x :: (s ++ rest))[r.length]? = some y := by
      rw [List.getElem?_append_left (by simp), List.reverse_cons, List.getElem?_append_right (by simp)]; simp
    have hc := cmp193 ext h193 h194 h238 x y
    unfold insR at h
    by_cases hlt : x.v < y.v
    · rw [if_pos hlt] at h
      have e : cmpI x.v y.v = -1 := by unfold cmpI; rw [if_pos hlt]
      rw [e] at hc
      refine swap254 ext _ x y n i r.length hx hy hc (by simp at hr; omega) _ ?_
      have hsw := set_swap r.reverse x y (s ++ rest)
      rw [hrl] at hsw
      rw [List.reverse_cons, List.append_assoc, List.singleton_append, hsw]
      exact inner254 h193 h194 h238 n i x rest out r (y :: s) (by simp at hr; omega) h
    · rw [if_neg hlt] at h
      refine stop254 ext _ x y n i (cmpI x.v y.v) r.length hx hy hc (by unfold cmpI; rw [if_neg hlt]; split <;> omega) (by simp at hr; omega) _ ?_
      simpa using h
theorem outer254 (h193 : ext 193 = none) (h194 : ext 194 = none) (h238 : ext 238 = none) : ∀ (rest acc : List LV) (n : Nat), n = acc.length + rest.length → n < 2 ^ 60 → H254a ext 1 (E254 n acc.length) (O254 (acc ++ rest)) = some (.ret [] (O254 (isort acc rest)))
  | [], acc, n, hn, _ => by
    rw [List.append_nil]
    exact out254 ext acc n acc.length (by simp at hn; omega)
  | x :: r, acc, n, hn, hlt => by
    refine in254 ext _ n acc.length (by simp at hn; omega) _ ?_
    have := inner254 ext h193 h194 h238 n acc.length x r (some (.ret [] (O254 (isort acc (x :: r))))) acc.reverse [] (by simp at hn ⊢; omega) (by
      rw [wr_succ (by simp at hn; omega)]
      have := outer254 h193 h194 h238 r (insR x acc.reverse []) n (by rw [insR_len]; simp at hn ⊢; omega) hlt
      rw [insR_len] at this
      simpa [isort] using this)
    simpa using this
theorem sort254 (hx : ext 254 = none) (h193 : ext 193 = none) (h194 : ext 194 = none) (h238 : ext 238 = none) (l : List LV) (hl : l.length < 2 ^ 60) : run Tryz.prog ext (.call 254 [.c (.own 0), iV 0, iV l.length, .c (.fn 193 [] [])] (O254 l)) = some (.ret [] (O254 (sortL l))) := by
  refine enter254 ext hx l _ _ ?_
  cases l with
  | nil => exact out254 ext [] _ _ (by simp)
  | cons a r =>
    have := outer254 ext h193 h194 h238 r [a] (a :: r).length (by simp; omega) hl
    simpa [sortL] using this
def E236 (n lim : Int) : Env := [(0, .c (.own 0)), (1, iV 0), (2, iV n), (3, iV lim), (4, .c (.fn 193 [] [])), (10, bV true), (11, bV true)]
theorem enter236 (hx : ext 236 = none) (l : List LV) (n lim : Int) (out : Option Out) (h : H236a ext 1 (E236 n lim) (O254 l) = out) : run Tryz.prog ext (.call 236 [.c (.own 0), iV 0, iV n, iV lim, .c (.fn 193 [] [])] (O254 l)) = out := by
  unfold H236a at h
  (rw [run_eq]; simp only [stepA, hx, Tryz.func236, Tryz.f236, show retF 236 = false from rfl]; simp only [List.length_cons, List.length_nil, Nat.reduceAdd, Nat.reduceLeDiff, Nat.zero_le, ↓reduceIte, List.zipIdx_cons, List.zipIdx_nil, List.map_cons, List.map_nil])
  simp only [dV, iV, bV, E236, O254] at h ⊢
  simp only [zS, zD, convertA, makeFuncA, Nat.reduceAdd, Nat.reduceSub, Nat.reduceMul, Nat.reduceLT, Nat.reduceLeDiff, Nat.reduceGT, ↓reduceIte, Nat.reduceEqDiff, Nat.reduceBEq, reduceCtorEq, Int.reduceBEq, Int.reduceBNe, Int.reduceLT, Int.reduceLE, Int.reduceGT, Int.reduceGE, zT34, zT110, zT3]
  (refine (r_inLoop_some ?_).trans h; kernel_rfl)
theorem pdq236 (hx : ext 236 = none) (h254 : ext 254 = none) (h193 : ext 193 = none) (h194 : ext 194 = none) (h238 : ext 238 = none) (l : List LV) (lim : Int) (hl : l.length ≤ 12) : run Tryz.prog ext (.call 236 [.c (.own 0), iV 0, iV l.length, iV lim, .c (.fn 193 [] [])] (O254 l)) = some (.ret [] (O254 (sortL l))) := by
  refine enter236 ext hx l _ _ _ ?_
  have hr := sort254 ext h254 h193 h194 h238 l (by omega)
  have e : wr ((l.length : Int) - 0) = l.length := by rw [wr_id (by omega) (by omega)]; omega
  have hle : (l.length : Int) ≤ 12 := by omega
  unfold H236a
  simp only [dV, iV, bV, E236, O254] at hr ⊢
  (rw [show (It.code L236a) = It.code (sub B236 [1, 1, 0, 0]) from rfl]; simp only [B236, K236a, sub, Option.getD_some, Tryz.f236, ↓reduceIte, Nat.one_ne_zero])
  simp only [zS, zD, convertA, makeFuncA, Nat.reduceAdd, Nat.reduceSub, Nat.reduceMul, Nat.reduceLT, Nat.reduceLeDiff, Nat.reduceGT, ↓reduceIte, Nat.reduceEqDiff, Nat.reduceBEq, reduceCtorEq, Int.reduceBEq, Int.reduceBNe, Int.reduceLT, Int.reduceLE, Int.reduceGT, Int.reduceGE, zT34, zT110, zT3, e, hle, callA_keep, cwK_arr, (id rfl : ownF 254 = true), (id rfl : castF 254 = false), hr, callOut_kept]
  (refine Eq.trans ?_ rfl; kernel_rfl)
theorem sort192 (hx : ext 192 = none) (h236 : ext 236 = none) (h254 : ext 254 = none) (h193 : ext 193 = none) (h194 : ext 194 = none) (h238 : ext 238 = none) (l : List LV) (hl : l.length ≤ 12) (m : Int)
    (h237 : run Tryz.prog ext (.call 237 [.c (.d (.v (.int .u64 (IntKind.u64.wrap l.length))))] []) = some (.ret [iV m] [])) : run Tryz.prog ext (.call 192 [.c (.own 0), .c (.fn 193 [] [])] (O254 l)) = some (.ret [] (O254 (sortL l))) := by
  have hr := pdq236 ext h236 h254 h193 h194 h238 l m hl
  (rw [run_eq]; simp only [stepA, hx, Tryz.func192, Tryz.f192, show retF 192 = false from rfl]; simp only [List.length_cons, List.length_nil, Nat.reduceAdd, Nat.reduceLeDiff, Nat.zero_le, ↓reduceIte, List.zipIdx_cons, List.zipIdx_nil, List.map_cons, List.map_nil])
  simp only [dV, iV, bV, O254] at hr h237 ⊢
  simp only [zS, zD, convertA, makeFuncA, Nat.reduceAdd, Nat.reduceSub, Nat.reduceMul, Nat.reduceLT, Nat.reduceLeDiff, Nat.reduceGT, ↓reduceIte, Nat.reduceEqDiff, Nat.reduceBEq, reduceCtorEq, Int.reduceBEq, Int.reduceBNe, Int.reduceLT, Int.reduceLE, Int.reduceGT, Int.reduceGE, zT144, zT34, zT110, zT3, zT230, convertA, h237, callA_keep, cwK_arr, (id rfl : ownF 236 = true), (id rfl : castF 236 = false), hr, callOut_kept]
  (refine Eq.trans ?_ rfl; kernel_rfl)
theorem clone191 (hx : ext 191 = none) (x : LV) (l : List LV) (hl : l.length ≤ 12) : run Tryz.prog ext (.call 191 [dV (.s 2 ((x :: l).map lvD))] []) = some (.ret [.c (.own 0)] (O254 (x :: l))) := by
  have hb : l.length + 1 ≤ 1000000000 := by omega
  (rw [run_eq]; simp only [stepA, hx, Tryz.func191, Tryz.f191, show retF 191 = true from rfl]; simp only [List.length_cons, List.length_nil, Nat.reduceAdd, Nat.reduceLeDiff, Nat.zero_le, ↓reduceIte, List.zipIdx_cons, List.zipIdx_nil, List.map_cons, List.map_nil])
  simp only [dV, iV, bV, O254, List.map_cons]
  simp only [zS, zD, convertA, makeFuncA, Nat.reduceAdd, Nat.reduceSub, Nat.reduceMul, Nat.reduceLT, Nat.reduceLeDiff, Nat.reduceGT, ↓reduceIte, Nat.reduceEqDiff, Nat.reduceBEq, reduceCtorEq, Int.reduceBEq, Int.reduceBNe, Int.reduceLT, Int.reduceLE, Int.reduceGT, Int.reduceGE, zT144, zT34, zT110, zT3, bs0, os144, apI_arr, hb, Nat.zero_le]
  (refine Eq.trans ?_ rfl; kernel_rfl)
end Go.Proofs.YteenjodhmppgjaaGreatDoor.Am
end
section
/- Levels: lists that are joined. -/
namespace Go.Proofs.YteenjodhmppgjaaGreatDoor.Am
open Go
variable (ext : Ext)
set_option maxHeartbeats 4000000
theorem sorted121 (hx : ext 121 = none) (h191 : ext 191 = none) (h192 : ext 192 = none) (h236 : ext 236 = none) (h254 : ext 254 = none) (h193 : ext 193 = none) (h194 : ext 194 = none) (h238 : ext 238 = none) (x : LV) (l : List LV) (hl : l.length < 12) (m : Int)
    (h237 : run Tryz.prog ext (.call 237 [.c (.d (.v (.int .u64 (IntKind.u64.wrap (x :: l).length))))] []) = some (.ret [iV m] [])) : run Tryz.prog ext (.call 121 [dV (.s 2 ((x :: l).map lvD))] []) = some (.ret [.c (.own 0)] (O254 (sortL (x :: l)))) := by
  have h1 := clone191 ext h191 x l (by omega)
  have h2 := sort192 ext h192 h236 h254 h193 h194 h238 (x :: l) (by simp; omega) m h237
  (rw [run_eq]; simp only [stepA, hx, Tryz.func121, Tryz.f121, show retF 121 = true from rfl]; simp only [List.length_cons, List.length_nil, Nat.reduceAdd, Nat.reduceLeDiff, Nat.zero_le, ↓reduceIte, List.zipIdx_cons, List.zipIdx_nil, List.map_cons, List.map_nil])
  simp only [dV, iV, O254, List.map_cons] at h1 h2 ⊢
  simp only [zS, zD, convertA, makeFuncA, Nat.reduceAdd, Nat.reduceSub, Nat.reduceMul, Nat.reduceLT, Nat.reduceLeDiff, Nat.reduceGT, ↓reduceIte, Nat.reduceEqDiff, Nat.reduceBEq, reduceCtorEq, Int.reduceBEq, Int.reduceBNe, Int.reduceLT, Int.reduceLE, Int.reduceGT, Int.reduceGE, zT144, zT34, zT110, zT3, h1, callOut_own, callA_keep, cwK_arr, (id rfl : ownF 192 = true), (id rfl : castF 192 = false), h2, callOut_kept]
  (refine Eq.trans ?_ rfl; kernel_rfl)
end Go.Proofs.YteenjodhmppgjaaGreatDoor.Am
end
section
/- Levels: what the program puts in for variables. -/
namespace Go.Proofs.YteenjodhmppgjaaGreatDoor.Am
open Go
variable (ext : Ext)
set_option maxHeartbeats 8000000
/-- What the sorting of a level's variables answers. -/
def sortOut (l : List LV) : Out := match l with | [] => .ret [dV (.s 2 [])] [] | a :: r => .ret [.c (.own 0)] [.arr 2 ((sortL (a :: r)).map lvD)]
def Sorts : Prop := ∀ (z : Bool) (l : List LV), l.length ≤ 8 → run Tryz.prog ext (.call 121 [dV (listD z 2 (l.map lvD))] []) = some (sortOut l)
theorem sortL_len (l : List LV) : (sortL l).length = l.length := by
  cases l with
  | nil => rfl
  | cons a r => unfold sortL; rw [isort_len]; simp; omega
theorem insR_mem (x : LV) : ∀ (r s : List LV) (y : LV), y ∈ insR x r s ↔ y = x ∨ y ∈ r ∨ y ∈ s
  | [], s, y => by simp [insR]
  | a :: r, s, y => by
    unfold insR
    split
    · rw [insR_mem x r]
      simp only [List.mem_cons]
      constructor
      · rintro (h | h | h | h)
        · exact .inl h
        · exact .inr (.inl (.inr h))
        · exact .inr (.inl (.inl h))
        · exact .inr (.inr h)
      · rintro (h | (h | h) | h)
        · exact .inl h
        · exact .inr (.inr (.inl h))
        · exact .inr (.inl h)
        · exact .inr (.inr (.inr h))
    · simp only [List.mem_append, List.mem_reverse, List.mem_cons]
      constructor
      · rintro ((h | h) | h | h)
        · exact .inr (.inl (.inl h))
        · exact .inr (.inl (.inr h))
        · exact .inl h
        · exact .inr (.inr h)
      · rintro (h | (h | h) | h)
        · exact .inr (.inl h)
        · exact .inl (.inl h)
        · exact .inl (.inr h)
        · exact .inr (.inr h)
theorem isort_mem : ∀ (r acc : List LV) (y : LV), y ∈ isort acc r ↔ y ∈ acc ∨ y ∈ r
  | [], acc, y => by simp [isort]
  | x :: r, acc, y => by
    rw [isort, isort_mem r, insR_mem]
    simp only [List.mem_reverse, List.mem_cons, List.not_mem_nil, or_false]
    constructor
    · rintro ((h | h) | h)
      · exact .inr (.inl h)
      · exact .inl h
      · exact .inr (.inr h)
    · rintro (h | h | h)
      · exact .inl (.inr h)
      · exact .inl (.inl h)
      · exact .inr h
theorem sortL_mem (l : List LV) (y : LV) : y ∈ sortL l ↔ y ∈ l := by
  cases l with
  | nil => rfl
  | cons a r => unfold sortL; rw [isort_mem]; simp
end Go.Proofs.YteenjodhmppgjaaGreatDoor.Am
end
section
/- What stands in for the two functions that run does not step through. -/
namespace Go.Proofs.YteenjodhmppgjaaGreatDoor.Am
open Go
def E0 : Ext := fun _ => none
theorem bits0 : ∀ n : Nat, n ≤ 8 → ∃ m, run Tryz.prog E0 (.call 237 [.c (.d (.v (.int .u64 (IntKind.u64.wrap n))))] []) = some (.ret [iV m] [])
  | 0, _ => ⟨0, (run_iff _ _ _ _).2 ⟨60, by kernel_rfl⟩⟩
  | 1, _ => ⟨1, (run_iff _ _ _ _).2 ⟨60, by kernel_rfl⟩⟩
  | 2, _ => ⟨2, (run_iff _ _ _ _).2 ⟨60, by kernel_rfl⟩⟩
  | 3, _ => ⟨2, (run_iff _ _ _ _).2 ⟨60, by kernel_rfl⟩⟩
  | 4, _ => ⟨3, (run_iff _ _ _ _).2 ⟨60, by kernel_rfl⟩⟩
  | 5, _ => ⟨3, (run_iff _ _ _ _).2 ⟨60, by kernel_rfl⟩⟩
  | 6, _ => ⟨3, (run_iff _ _ _ _).2 ⟨60, by kernel_rfl⟩⟩
  | 7, _ => ⟨3, (run_iff _ _ _ _).2 ⟨60, by kernel_rfl⟩⟩
  | 8, _ => ⟨4, (run_iff _ _ _ _).2 ⟨60, by kernel_rfl⟩⟩
  | n + 9, h => by omega
theorem sortN (x : LV) (l : List LV) (hl : l.length < 8) : run Tryz.prog E0 (.call 121 [dV (.s 2 ((x :: l).map lvD))] []) = some (.ret [.c (.own 0)] (O254 (sortL (x :: l)))) := by
  obtain ⟨m, hm⟩ := bits0 (x :: l).length (by simp; omega)
  exact sorted121 E0 rfl rfl rfl rfl rfl rfl rfl rfl x l (by omega) m hm
theorem sort0 (c : Nat) : run Tryz.prog E0 (.call 121 [dV (.v (.slice none 0 c))] []) = some (.ret [dV (.v (.slice none 0 0))] []) :=
  (run_iff _ _ _ _).2 ⟨400, by kernel_rfl⟩
theorem sort1 (a : Addr) (c : Nat) : run Tryz.prog E0 (.call 121 [dV (.v (.slice (some a) 0 c))] []) = some (.ret [.c (.own 0)] [.arr 2 []]) :=
  (run_iff _ _ _ _).2 ⟨400, by kernel_rfl⟩
end Go.Proofs.YteenjodhmppgjaaGreatDoor.Am
end
section
/- What stands in for the two functions that run does not step through, second part. -/
namespace Go.Proofs.YteenjodhmppgjaaGreatDoor.Am
open Go
theorem awake0 : run Tryz.prog E0 (.call 14 [] []) = some (.ret [bV true] []) := (run_iff _ _ _ _).2 ⟨20000, by kernel_rfl⟩
theorem bodied121 : Bodied Tryz.prog 121 := ⟨Tryz.f121, Tryz.func121, by kernel_rfl⟩
theorem bodied14 : Bodied Tryz.prog 14 := ⟨Tryz.f14, Tryz.func14, by kernel_rfl⟩
theorem sound0 {f : FuncId} {args : List V} {objs : List O} {out : Out} (h : run Tryz.prog E0 (.call f args objs) = some out) (hB : Bodied Tryz.prog f) : CallOK Tryz.prog f args objs out :=
  run_sound named (fun f g args objs out h1 _ => by cases h1) mixes h hB
/-- A function that answers with nothing of its own. -/
theorem outOK_nil {w w' : World} {F : Nat → Prop} {β β' : Int → Nat} {objs' : List O} {v : Value} {y : V} {F' : Nat → Prop} (hf : Sim w' F β' (lk objs')) (hst : St (· < ([] : List O).length) w β (lk []) w' β' (lk objs'))
    (hy : ∀ β'' look, RVs w' F β'' look v y) : OutOK w F β [] (.ret [y] []) (.returned v) w' := by
  refine ⟨β', v, rfl, .inl ⟨y, rfl, hy _ _⟩, ⟨hf.flt, fun id o h => (by cases h), fun id id' o o' h => (by cases h), hf.laid.1, by rintro ⟨id, o, h1, _⟩; cases h1⟩, ?_⟩
  exact ⟨hst.os, hst.tape, hst.output, hst.size, hst.block, fun b h => (by obtain ⟨id, o, h1, _⟩ := h; cases h1), fun id s h => absurd h (Nat.not_lt_zero id)⟩
theorem repE {w : World} {N : Nat → Prop} {v : Value} (h : RepD w N v (.s 2 [])) : ∃ a c, v = .slice a 0 c := by
  cases h with
  | e a c k => exact ⟨a, c, rfl⟩
  | s c h1 h2 h3 h4 h5 => exact ⟨_, _, rfl⟩
theorem ok121e : CallOK Tryz.prog 121 [dV (.s 2 [])] [] (.ret [dV (.s 2 [])] []) := by
  intro w F β vals hsim hall
  cases hall with
  | cons h t =>
    cases t
    obtain ⟨a, c, rfl⟩ := repE h
    cases a with
    | none =>
      refine (sound0 (sort0 c) bodied121 w F β _ hsim (.cons (.v rfl) .nil)).mono ?_
      rintro e w' ⟨β', v, rfl, hres, hf, hst⟩
      refine outOK_nil (F' := F) hf hst fun β'' look => ?_
      rcases hres with ⟨y, hy, hv⟩ | ⟨hne, _⟩
      · cases hy
        have hv' : RepD w' _ v (.v (.slice none 0 0)) := hv
        cases hv'
        exact .e none 0 2
      · exact absurd rfl hne
    | some a =>
      refine (sound0 (sort1 a c) bodied121 w F β _ hsim (.cons (.v rfl) .nil)).mono ?_
      rintro e w' ⟨β', v, rfl, hres, hf, hst⟩
      refine outOK_nil (F' := F) hf hst fun β'' look => ?_
      rcases hres with ⟨y, hy, hv⟩ | ⟨hne, _⟩
      · cases hy
        have hv' : RC w' (Nn w' F β' (lk [.arr 2 []])) β' (shL (lk [.arr 2 []])) v (.own 0) := hv
        rcases hv' with ⟨k, n, cap, h1, rfl, _⟩ | ⟨h1, _⟩ | ⟨k, n, cap, h1, _⟩
        · have : some (Sh.arr 2 0) = some (.arr k n) := h1
          cases this
          exact .e _ _ 2
        · have : some (Sh.arr 2 0) = some .gone := h1
          cases this
        · have : some (Sh.arr 2 0) = some (.stk k n) := h1
          cases this
      · exact absurd rfl hne
end Go.Proofs.YteenjodhmppgjaaGreatDoor.Am
end
section
/- Equality of levels and terms, field by field. -/
namespace Go.Proofs.YteenjodhmppgjaaGreatDoor.Am
open Go
variable (ext : Ext)
set_option maxHeartbeats 8000000
noncomputable def B43 : Code := (Tryz.f43.body.getD .skip)
noncomputable def L43a : Code := sub B43 [1, 1, 0, 1, 0, 0]
noncomputable def K43a : List It := [.inBlock 0, .code (sub B43 [1, 1, 1])]
noncomputable def H43a (ext : Ext) (m : Nat) (env : Env) (loc : List O) : Option Out := run Tryz.prog ext (.k ⟨38, m, [.tmp 4], false⟩ (.code L43a :: .inLoop L43a :: K43a) env loc)
def allR {α β : Type} (R : α → β → Bool) : List α → List β → Bool
  | [], [] => true
  | x :: l, y :: m => R x y && allR R l m
  | _, _ => false
def pairP {α β : Type} (R : α → β → Bool) (m : List β) (k : Nat) (x : α) : Bool := match m[k]? with | some y => !R x y | none => true
theorem pairs_eq {α β : Type} (R : α → β → Bool) : ∀ (l : List α) (pre m : List β), l.length = m.length → (idxFrom (pairP R (pre ++ m)) pre.length l).isNone = allR R l m
  | [], pre, m, h => by
    have : m = [] := List.eq_nil_of_length_eq_zero (by simpa using h.symm)
    subst this; rfl
  | x :: l, pre, [], h => by simp at h
  | x :: l, pre, y :: m, h => by
    have e : pairP R (pre ++ y :: m) pre.length x = !R x y := by
      unfold pairP
      rw [List.getElem?_append_right (by omega), Nat.sub_self]; rfl
    rw [idxFrom, e]
    have ih := pairs_eq R l (pre ++ [y]) m (by simpa using h)
    rw [List.append_assoc, List.singleton_append, List.length_append] at ih
    cases hR : R x y with
    | true => simp only [Bool.not_true, Bool.false_eq_true, if_false, allR, hR, Bool.true_and]; exact ih
    | false => simp [allR, hR]
theorem allR_len {α β : Type} {R : α → β → Bool} : ∀ {l : List α} {m : List β}, allR R l m = true → l.length = m.length
  | [], [], _ => rfl
  | _ :: l, _ :: m, h => by simp only [allR, Bool.and_eq_true] at h; simp [allR_len h.2]
  | [], _ :: _, h => by cases h
  | _ :: _, [], h => by cases h
theorem pairs_res {α β : Type} (R : α → β → Bool) (l : List α) (m : List β) (h : l.length = m.length) : (match idxFrom (pairP R m) 0 l with | some _ => some (Out.ret [bV false] []) | none => some (.ret [bV true] [])) = some (.ret [bV (allR R l m)] []) := by
  have := pairs_eq R l [] m h
  simp only [List.nil_append, List.length_nil] at this
  rw [← this]
  cases idxFrom (pairP R m) 0 l <;> rfl
def eqLV (x y : LV) : Bool := (x.v == y.v) && (x.p == y.p)
def eqLev (x y : Lev) : Bool := (x.c == y.c) && allR eqLV x.vs y.vs
theorem plain110 : plainEq Tryz.prog 110 = true := by kernel_rfl
theorem struct110 (op : BinOp) (a b c d : Int) : structA Tryz.prog op 110 [.d (.v (.int .i64 a)), .d (.v (.int .i64 b))] [.d (.v (.int .i64 c)), .d (.v (.int .i64 d))] = nilEq op ((a == c) && (b == d)) := by
  unfold structA
  rw [if_pos plain110, Tryz.underlying110]
  simp [eqFs, und_3]
/-! ### levels -/
def E43 (k : Int) : Env := [(2, .c (.ptr 0 0)), (3, .c (.ptr 1 0)), (5, iV k)]
def O43 (x y : Lev) : List O := [.box (levC x), .box (levC y)]
theorem eq43 (hx : ext 43 = none) (x y : Lev) (hs : x.vs.length < 2 ^ 50) : run Tryz.prog ext (.call 43 [levV x, levV y] []) = some (.ret [bV (eqLev x y)] []) := by
  unfold eqLev
  by_cases h1 : x.c = y.c
  case neg =>
    have e : (x.c == y.c) = false := by simpa using h1
    rw [e, Bool.false_and]
    (rw [run_eq]; simp only [stepA, hx, Tryz.func43, Tryz.f43, show retF 43 = false from rfl]; simp only [List.length_cons, List.length_nil, Nat.reduceAdd, Nat.reduceLeDiff, Nat.zero_le, ↓reduceIte, List.zipIdx_cons, List.zipIdx_nil, List.map_cons, List.map_nil])
    simp only [levV, levC, bV]
    simp only [zS, zD, convertA, makeFuncA, Nat.reduceAdd, Nat.reduceSub, Nat.reduceMul, Nat.reduceLT, Nat.reduceLeDiff, Nat.reduceGT, ↓reduceIte, Nat.reduceEqDiff, Nat.reduceBEq, reduceCtorEq, Int.reduceBEq, Int.reduceBNe, Int.reduceLT, Int.reduceLE, Int.reduceGT, Int.reduceGE, zT36, zT34, zT3, lenA_vd, h1]
    (refine Eq.trans ?_ rfl; kernel_rfl)
  by_cases h2 : (x.vs.length : Int) = y.vs.length
  case neg =>
    have e : allR eqLV x.vs y.vs = false := by
      cases hh : allR eqLV x.vs y.vs with
      | false => rfl
      | true => have := allR_len hh; omega
    rw [e, Bool.and_false]
    (rw [run_eq]; simp only [stepA, hx, Tryz.func43, Tryz.f43, show retF 43 = false from rfl]; simp only [List.length_cons, List.length_nil, Nat.reduceAdd, Nat.reduceLeDiff, Nat.zero_le, ↓reduceIte, List.zipIdx_cons, List.zipIdx_nil, List.map_cons, List.map_nil])
    simp only [levV, levC, bV]
    simp only [zS, zD, convertA, makeFuncA, Nat.reduceAdd, Nat.reduceSub, Nat.reduceMul, Nat.reduceLT, Nat.reduceLeDiff, Nat.reduceGT, ↓reduceIte, Nat.reduceEqDiff, Nat.reduceBEq, reduceCtorEq, Int.reduceBEq, Int.reduceBNe, Int.reduceLT, Int.reduceLE, Int.reduceGT, Int.reduceGE, zT36, zT34, zT3, lenA_vd, h1, h2]
    (refine Eq.trans ?_ rfl; kernel_rfl)
  have e : (x.c == y.c) = true := by simpa using h1
  rw [e, Bool.true_and]
  have he : ∀ out, H43a ext 0 (E43 0) (O43 x y) = out → run Tryz.prog ext (.call 43 [levV x, levV y] []) = out := by
    intro out h
    unfold H43a at h
    (rw [run_eq]; simp only [stepA, hx, Tryz.func43, Tryz.f43, show retF 43 = false from rfl]; simp only [List.length_cons, List.length_nil, Nat.reduceAdd, Nat.reduceLeDiff, Nat.zero_le, ↓reduceIte, List.zipIdx_cons, List.zipIdx_nil, List.map_cons, List.map_nil])
    simp only [levV, levC, iV, E43, O43, h1] at h ⊢
    simp only [zS, zD, convertA, makeFuncA, Nat.reduceAdd, Nat.reduceSub, Nat.reduceMul, Nat.reduceLT, Nat.reduceLeDiff, Nat.reduceGT, ↓reduceIte, Nat.reduceEqDiff, Nat.reduceBEq, reduceCtorEq, Int.reduceBEq, Int.reduceBNe, Int.reduceLT, Int.reduceLE, Int.reduceGT, Int.reduceGE, zT36, zT34, zT3, lenA_vd, h2]
    (refine (r_inLoop_some ?_).trans h; kernel_rfl)
  refine he _ ?_
  have := loop_findK x.vs (fun k => H43a ext 0 (E43 k) (O43 x y)) (pairP eqLV y.vs) (fun _ => some (.ret [bV false] [])) (some (.ret [bV true] [])) (by omega) (fun k a hk hl => by
      have h0 : (0 : Int) ≤ k := by omega
      have hl2 : (k : Int) < y.vs.length := by omega
      have hlt : k < y.vs.length := by omega
      have hb : y.vs[k]? = some y.vs[k] := by simp [hlt]
      generalize y.vs[k] = b at hb
      have hd : x.d = .s 2 (x.vs.map lvD) := listD_of_lt h0 (by simpa using hl)
      have hd2 : y.d = .s 2 (y.vs.map lvD) := listD_of_lt h0 (by simpa using hl2)
      have hpp : pairP eqLV y.vs k a = !eqLV a b := by unfold pairP; rw [hb]
      unfold H43a
      rw [hpp]
      refine ⟨fun hp => ?_, fun hp out h => ?_⟩
      · have hp' : eqLV a b = false := by simpa using hp
        unfold eqLV at hp'
        simp only [levC, iV, bV, E43, O43, hd, hd2]
        (rw [show (It.code L43a) = It.code (sub B43 [1, 1, 0, 1, 0, 0]) from rfl]; simp only [B43, K43a, sub, Option.getD_some, Tryz.f43, ↓reduceIte, Nat.one_ne_zero])
        simp only [zS, zD, convertA, makeFuncA, Nat.reduceAdd, Nat.reduceSub, Nat.reduceMul, Nat.reduceLT, Nat.reduceLeDiff, Nat.reduceGT, ↓reduceIte, Nat.reduceEqDiff, Nat.reduceBEq, reduceCtorEq, Int.reduceBEq, Int.reduceBNe, Int.reduceLT, Int.reduceLE, Int.reduceGT, Int.reduceGE, zT36, zT34, zT110, zT3, drawA, holes_succ, holes_zero, Array.size, List.length, h0, hl, hl2, Int.toNat_natCast, hk, hb, lvD, struct110, hp']
        rw [afterDraw_some _ _ _ _ (by kernel_rfl)]
        simp only [zS, zD, convertA, makeFuncA, Nat.reduceAdd, Nat.reduceSub, Nat.reduceMul, Nat.reduceLT, Nat.reduceLeDiff, Nat.reduceGT, ↓reduceIte, Nat.reduceEqDiff, Nat.reduceBEq, reduceCtorEq, Int.reduceBEq, Int.reduceBNe, Int.reduceLT, Int.reduceLE, Int.reduceGT, Int.reduceGE]
        (refine Eq.trans ?_ rfl; kernel_rfl)
      · have hp' : eqLV a b = true := by simpa using hp
        unfold eqLV at hp'
        simp only [levC, iV, bV, E43, O43, hd, hd2] at h ⊢
        (rw [show (It.code L43a) = It.code (sub B43 [1, 1, 0, 1, 0, 0]) from rfl]; simp only [B43, K43a, sub, Option.getD_some, Tryz.f43, ↓reduceIte, Nat.one_ne_zero])
        simp only [zS, zD, convertA, makeFuncA, Nat.reduceAdd, Nat.reduceSub, Nat.reduceMul, Nat.reduceLT, Nat.reduceLeDiff, Nat.reduceGT, ↓reduceIte, Nat.reduceEqDiff, Nat.reduceBEq, reduceCtorEq, Int.reduceBEq, Int.reduceBNe, Int.reduceLT, Int.reduceLE, Int.reduceGT, Int.reduceGE, zT36, zT34, zT110, zT3, drawA, holes_succ, holes_zero, Array.size, List.length, h0, hl, hl2, Int.toNat_natCast, hk, hb, lvD, struct110, hp']
        rw [afterDraw_some _ _ _ _ (by kernel_rfl)]
        simp only [zS, zD, convertA, makeFuncA, Nat.reduceAdd, Nat.reduceSub, Nat.reduceMul, Nat.reduceLT, Nat.reduceLeDiff, Nat.reduceGT, ↓reduceIte, Nat.reduceEqDiff, Nat.reduceBEq, reduceCtorEq, Int.reduceBEq, Int.reduceBNe, Int.reduceLT, Int.reduceLE, Int.reduceGT, Int.reduceGE]
        (refine (r_inLoop_some ?_).trans h; kernel_rfl)) (by
      unfold H43a
      simp only [levC, iV, bV, E43, O43]
      (rw [show (It.code L43a) = It.code (sub B43 [1, 1, 0, 1, 0, 0]) from rfl]; simp only [B43, K43a, sub, Option.getD_some, Tryz.f43, ↓reduceIte, Nat.one_ne_zero])
      simp only [zS, zD, convertA, makeFuncA, Nat.reduceAdd, Nat.reduceSub, Nat.reduceMul, Nat.reduceLT, Nat.reduceLeDiff, Nat.reduceGT, ↓reduceIte, Nat.reduceEqDiff, Nat.reduceBEq, reduceCtorEq, Int.reduceBEq, Int.reduceBNe, Int.reduceLT, Int.reduceLE, Int.reduceGT, Int.reduceGE, zT36, zT34, zT3, lenA_vd, Int.lt_irrefl]
      (refine Eq.trans ?_ rfl; kernel_rfl))
  rw [this]
  exact pairs_res eqLV x.vs y.vs (by omega)
/-! ### terms -/
end Go.Proofs.YteenjodhmppgjaaGreatDoor.Am
end
section
/- SetLevels, by the program and by the reference. -/
namespace Go.Proofs.YteenjodhmppgjaaGreatDoor.Am
open Go
variable (ext : Ext)
set_option maxHeartbeats 8000000
def zTm : Tm := .mk 0 0 ⟨#[]⟩ [] true [] true
theorem levD_eq (x : Lev) : levD x = [.v (.int .i64 x.c), x.d] := rfl
def mapE {α β : Type} (f : α → β × Int) : List α → List β ⊕ Int
  | [] => .inl []
  | x :: l => if (f x).2 = 0 then match mapE f l with | .inl r => .inl ((f x).1 :: r) | .inr e => .inr e else .inr (f x).2
def setL (f : Lev → Lev × Int) : Tm → Tm × Int
  | .mk op n s u _ l _ => match mapE f u with
    | .inr e => (zTm, e)
    | .inl u' => match setLs f l with
      | .inr e => (zTm, e)
      | .inl l' => (.mk op n s u' true l' true, 0)
where setLs (f : Lev → Lev × Int) : List Tm → List Tm ⊕ Int
  | [] => .inl []
  | x :: l => if (setL f x).2 = 0 then match setLs f l with | .inl r => .inl ((setL f x).1 :: r) | .inr e => .inr e else .inr (setL f x).2
/-! ### by the program -/
end Go.Proofs.YteenjodhmppgjaaGreatDoor.Am
end
section
/- SetLevels by the reference. -/
namespace Go.Proofs.YteenjodhmppgjaaGreatDoor.Am
open Go
variable (ext : Ext)
set_option maxHeartbeats 8000000
end Go.Proofs.YteenjodhmppgjaaGreatDoor.Am
end
section
/- SetLevels: what it answers. -/
namespace Go.Proofs.YteenjodhmppgjaaGreatDoor.Am
open Go
variable (ext : Ext)
set_option maxHeartbeats 8000000
end Go.Proofs.YteenjodhmppgjaaGreatDoor.Am
end
section
/- TypeOf, BodyOf, by the program and by the reference. -/
namespace Go.Proofs.YteenjodhmppgjaaGreatDoor.Am
open Go
variable (ext : Ext)
set_option maxHeartbeats 8000000
def zL0 : Lev := ⟨0, [], true⟩
def zDc : Dc := ⟨⟨#[]⟩, 0, 0, zTm, zTm, zTm, zL0, zL0, [], true⟩
theorem callOut_vd (slot : Nat) (cs : List C) (x : Value) (h : cs.all dataC = true) : callOut [] [] slot (some (.ret [.agg cs, .c (.d (.v x))] [])) = some ⟨.val (.tup [(true, cs), (false, [.d (.v x)])]), [], []⟩ := by
  obtain ⟨_, _, h3⟩ := argCs_data (look := fun _ => none) h
  simp only [callOut, answer, mapO, renV, h3, renC, results1, comp, List.length_nil, Nat.lt_irrefl, if_false]
  split <;> rfl
def thing (x : Tb) (s : ByteArray) : Dc × Bool := match x.ds.find? (isNm s) with
  | none => (zDc, false)
  | some d => if d.kind = 1 ∨ d.kind = 2 ∨ d.kind = 3 then (d, true) else (zDc, false)
theorem find_none {x : Tb} {s : ByteArray} (h : x.ds.find? (isNm s) = none) : find x s = -1 := by
  unfold find idxI
  have : x.ds.findIdx? (isNm s) = none := by
    rw [List.findIdx?_eq_none_iff]; rw [List.find?_eq_none] at h; intro y hy; simpa using h y hy
  rw [this]
theorem find_some' {x : Tb} {s : ByteArray} {d : Dc} (h : x.ds.find? (isNm s) = some d) : ∃ k : Nat, find x s = k ∧ x.ds[k]? = some d ∧ (k : Int) < x.ds.length := by
  unfold find idxI
  cases hk : x.ds.findIdx? (isNm s) with
  | none =>
    rw [List.findIdx?_eq_none_iff] at hk
    have := List.find?_some h
    rw [hk d (List.mem_of_find?_eq_some h)] at this; cases this
  | some k =>
    refine ⟨k, rfl, ?_, ?_⟩
    · have := List.findIdx?_eq_some_iff_getElem.1 hk
      obtain ⟨h1, h2, h3⟩ := this
      rw [List.find?_eq_some_iff_getElem] at h
      obtain ⟨h4, i, h5, h6, h7⟩ := h
      have : i = k := by
        rcases Nat.lt_trichotomy i k with hlt | heq | hgt
        · have := h3 i hlt; rw [h6] at this; exact absurd h4 this
        · exact heq
        · have := h7 k hgt; simp [h2] at this
      subst this
      simp [h5, h6]
    · have := (List.findIdx?_eq_some_iff_getElem.1 hk).1; omega
theorem constant78 (hx : ext 78 = none) (h22 : ext 22 = none) (h69 : ext 69 = none) (h70 : ext 70 = none) (x : Tb) (s : ByteArray) (hs : x.ds.length < 2 ^ 50) : run Tryz.prog ext (.call 78 [tbV x, sV s] []) = some (.ret [dcV (thing x s).1, bV (thing x s).2] []) := by
  have hr := find22 ext h22 h69 h70 x s hs
  unfold thing
  cases hf : x.ds.find? (isNm s) with
  | none =>
    rw [find_none hf] at hr
    (rw [run_eq]; simp only [stepA, hx, Tryz.func78, Tryz.f78, show retF 78 = false from rfl]; simp only [List.length_cons, List.length_nil, Nat.reduceAdd, Nat.reduceLeDiff, Nat.zero_le, ↓reduceIte, List.zipIdx_cons, List.zipIdx_nil, List.map_cons, List.map_nil])
    simp only [dcV, tbV, tbC, sV, iV, bV] at hr ⊢
    simp only [zS, zD, convertA, makeFuncA, Nat.reduceAdd, Nat.reduceSub, Nat.reduceMul, Nat.reduceLT, Nat.reduceLeDiff, Nat.reduceGT, ↓reduceIte, Nat.reduceEqDiff, Nat.reduceBEq, reduceCtorEq, Int.reduceBEq, Int.reduceBNe, Int.reduceLT, Int.reduceLE, Int.reduceGT, Int.reduceGE, zT24, zT39, zT22, zT9, zT3, hr]
    (refine Eq.trans ?_ rfl; kernel_rfl)
  | some d =>
    obtain ⟨k, e1, hk, hl⟩ := find_some' hf
    have h0 : (0 : Int) ≤ k := by omega
    have h0' : ¬ ((k : Int) < 0) := by omega
    rw [e1] at hr
    dsimp only
    by_cases c1 : d.kind = 1
    · rw [if_pos (.inl c1)]
      (rw [run_eq]; simp only [stepA, hx, Tryz.func78, Tryz.f78, show retF 78 = false from rfl]; simp only [List.length_cons, List.length_nil, Nat.reduceAdd, Nat.reduceLeDiff, Nat.zero_le, ↓reduceIte, List.zipIdx_cons, List.zipIdx_nil, List.map_cons, List.map_nil])
      simp only [dcV, dcC, tbV, tbC, sV, iV, bV, dsD_lt h0 hl] at hr ⊢
      simp only [zS, zD, convertA, makeFuncA, Nat.reduceAdd, Nat.reduceSub, Nat.reduceMul, Nat.reduceLT, Nat.reduceLeDiff, Nat.reduceGT, ↓reduceIte, Nat.reduceEqDiff, Nat.reduceBEq, reduceCtorEq, Int.reduceBEq, Int.reduceBNe, Int.reduceLT, Int.reduceLE, Int.reduceGT, Int.reduceGE, zT24, zT39, zT22, zT9, zT3, hr, h0, h0', hl, Int.toNat_natCast, hk, dcD_eq d, c1]
      (refine Eq.trans ?_ rfl; kernel_rfl)
    by_cases c2 : d.kind = 2
    · rw [if_pos (.inr (.inl c2))]
      (rw [run_eq]; simp only [stepA, hx, Tryz.func78, Tryz.f78, show retF 78 = false from rfl]; simp only [List.length_cons, List.length_nil, Nat.reduceAdd, Nat.reduceLeDiff, Nat.zero_le, ↓reduceIte, List.zipIdx_cons, List.zipIdx_nil, List.map_cons, List.map_nil])
      simp only [dcV, dcC, tbV, tbC, sV, iV, bV, dsD_lt h0 hl] at hr ⊢
      simp only [zS, zD, convertA, makeFuncA, Nat.reduceAdd, Nat.reduceSub, Nat.reduceMul, Nat.reduceLT, Nat.reduceLeDiff, Nat.reduceGT, ↓reduceIte, Nat.reduceEqDiff, Nat.reduceBEq, reduceCtorEq, Int.reduceBEq, Int.reduceBNe, Int.reduceLT, Int.reduceLE, Int.reduceGT, Int.reduceGE, zT24, zT39, zT22, zT9, zT3, hr, h0, h0', hl, Int.toNat_natCast, hk, dcD_eq d, c2]
      (refine Eq.trans ?_ rfl; kernel_rfl)
    by_cases c3 : d.kind = 3
    · rw [if_pos (.inr (.inr c3))]
      (rw [run_eq]; simp only [stepA, hx, Tryz.func78, Tryz.f78, show retF 78 = false from rfl]; simp only [List.length_cons, List.length_nil, Nat.reduceAdd, Nat.reduceLeDiff, Nat.zero_le, ↓reduceIte, List.zipIdx_cons, List.zipIdx_nil, List.map_cons, List.map_nil])
      simp only [dcV, dcC, tbV, tbC, sV, iV, bV, dsD_lt h0 hl] at hr ⊢
      simp only [zS, zD, convertA, makeFuncA, Nat.reduceAdd, Nat.reduceSub, Nat.reduceMul, Nat.reduceLT, Nat.reduceLeDiff, Nat.reduceGT, ↓reduceIte, Nat.reduceEqDiff, Nat.reduceBEq, reduceCtorEq, Int.reduceBEq, Int.reduceBNe, Int.reduceLT, Int.reduceLE, Int.reduceGT, Int.reduceGE, zT24, zT39, zT22, zT9, zT3, hr, h0, h0', hl, Int.toNat_natCast, hk, dcD_eq d, c3]
      (refine Eq.trans ?_ rfl; kernel_rfl)
    rw [if_neg (by rintro (h | h | h) <;> contradiction)]
    (rw [run_eq]; simp only [stepA, hx, Tryz.func78, Tryz.f78, show retF 78 = false from rfl]; simp only [List.length_cons, List.length_nil, Nat.reduceAdd, Nat.reduceLeDiff, Nat.zero_le, ↓reduceIte, List.zipIdx_cons, List.zipIdx_nil, List.map_cons, List.map_nil])
    simp only [dcV, tbV, tbC, sV, iV, bV, dsD_lt h0 hl] at hr ⊢
    simp only [zS, zD, convertA, makeFuncA, Nat.reduceAdd, Nat.reduceSub, Nat.reduceMul, Nat.reduceLT, Nat.reduceLeDiff, Nat.reduceGT, ↓reduceIte, Nat.reduceEqDiff, Nat.reduceBEq, reduceCtorEq, Int.reduceBEq, Int.reduceBNe, Int.reduceLT, Int.reduceLE, Int.reduceGT, Int.reduceGE, zT24, zT39, zT22, zT9, zT3, hr, h0, h0', hl, Int.toNat_natCast, hk, dcD_eq d, c1, c2, c3]
    (refine Eq.trans ?_ rfl; kernel_rfl)
theorem thing80 (hx : ext 80 = none) (h37 : ext 37 = none) (x : Tb) (s : ByteArray) (hs : x.ds.length < 2 ^ 50) : run Tryz.prog ext (.call 80 [tbV x, sV s] []) = some (.ret [dcV (thing x s).1, bV (thing x s).2] []) := by
  have hr := find37 ext h37 x s hs
  unfold thing
  cases hf : x.ds.find? (isNm s) with
  | none =>
    rw [find_none hf] at hr
    (rw [run_eq]; simp only [stepA, hx, Tryz.func80, Tryz.f80, show retF 80 = false from rfl]; simp only [List.length_cons, List.length_nil, Nat.reduceAdd, Nat.reduceLeDiff, Nat.zero_le, ↓reduceIte, List.zipIdx_cons, List.zipIdx_nil, List.map_cons, List.map_nil])
    simp only [dcV, tbV, tbC, sV, iV, bV] at hr ⊢
    simp only [zS, zD, convertA, makeFuncA, Nat.reduceAdd, Nat.reduceSub, Nat.reduceMul, Nat.reduceLT, Nat.reduceLeDiff, Nat.reduceGT, ↓reduceIte, Nat.reduceEqDiff, Nat.reduceBEq, reduceCtorEq, Int.reduceBEq, Int.reduceBNe, Int.reduceLT, Int.reduceLE, Int.reduceGT, Int.reduceGE, zT24, zT39, zT22, zT9, zT3, hr]
    (refine Eq.trans ?_ rfl; kernel_rfl)
  | some d =>
    obtain ⟨k, e1, hk, hl⟩ := find_some' hf
    have h0 : (0 : Int) ≤ k := by omega
    have h0' : ¬ ((k : Int) < 0) := by omega
    rw [e1] at hr
    dsimp only
    by_cases c1 : d.kind = 1
    · rw [if_pos (.inl c1)]
      (rw [run_eq]; simp only [stepA, hx, Tryz.func80, Tryz.f80, show retF 80 = false from rfl]; simp only [List.length_cons, List.length_nil, Nat.reduceAdd, Nat.reduceLeDiff, Nat.zero_le, ↓reduceIte, List.zipIdx_cons, List.zipIdx_nil, List.map_cons, List.map_nil])
      simp only [dcV, dcC, tbV, tbC, sV, iV, bV, dsD_lt h0 hl] at hr ⊢
      simp only [zS, zD, convertA, makeFuncA, Nat.reduceAdd, Nat.reduceSub, Nat.reduceMul, Nat.reduceLT, Nat.reduceLeDiff, Nat.reduceGT, ↓reduceIte, Nat.reduceEqDiff, Nat.reduceBEq, reduceCtorEq, Int.reduceBEq, Int.reduceBNe, Int.reduceLT, Int.reduceLE, Int.reduceGT, Int.reduceGE, zT24, zT39, zT22, zT9, zT3, hr, h0, h0', hl, Int.toNat_natCast, hk, dcD_eq d, c1]
      (refine Eq.trans ?_ rfl; kernel_rfl)
    by_cases c2 : d.kind = 2
    · rw [if_pos (.inr (.inl c2))]
      (rw [run_eq]; simp only [stepA, hx, Tryz.func80, Tryz.f80, show retF 80 = false from rfl]; simp only [List.length_cons, List.length_nil, Nat.reduceAdd, Nat.reduceLeDiff, Nat.zero_le, ↓reduceIte, List.zipIdx_cons, List.zipIdx_nil, List.map_cons, List.map_nil])
      simp only [dcV, dcC, tbV, tbC, sV, iV, bV, dsD_lt h0 hl] at hr ⊢
      simp only [zS, zD, convertA, makeFuncA, Nat.reduceAdd, Nat.reduceSub, Nat.reduceMul, Nat.reduceLT, Nat.reduceLeDiff, Nat.reduceGT, ↓reduceIte, Nat.reduceEqDiff, Nat.reduceBEq, reduceCtorEq, Int.reduceBEq, Int.reduceBNe, Int.reduceLT, Int.reduceLE, Int.reduceGT, Int.reduceGE, zT24, zT39, zT22, zT9, zT3, hr, h0, h0', hl, Int.toNat_natCast, hk, dcD_eq d, c2]
      (refine Eq.trans ?_ rfl; kernel_rfl)
    by_cases c3 : d.kind = 3
    · rw [if_pos (.inr (.inr c3))]
      (rw [run_eq]; simp only [stepA, hx, Tryz.func80, Tryz.f80, show retF 80 = false from rfl]; simp only [List.length_cons, List.length_nil, Nat.reduceAdd, Nat.reduceLeDiff, Nat.zero_le, ↓reduceIte, List.zipIdx_cons, List.zipIdx_nil, List.map_cons, List.map_nil])
      simp only [dcV, dcC, tbV, tbC, sV, iV, bV, dsD_lt h0 hl] at hr ⊢
      simp only [zS, zD, convertA, makeFuncA, Nat.reduceAdd, Nat.reduceSub, Nat.reduceMul, Nat.reduceLT, Nat.reduceLeDiff, Nat.reduceGT, ↓reduceIte, Nat.reduceEqDiff, Nat.reduceBEq, reduceCtorEq, Int.reduceBEq, Int.reduceBNe, Int.reduceLT, Int.reduceLE, Int.reduceGT, Int.reduceGE, zT24, zT39, zT22, zT9, zT3, hr, h0, h0', hl, Int.toNat_natCast, hk, dcD_eq d, c3]
      (refine Eq.trans ?_ rfl; kernel_rfl)
    rw [if_neg (by rintro (h | h | h) <;> contradiction)]
    (rw [run_eq]; simp only [stepA, hx, Tryz.func80, Tryz.f80, show retF 80 = false from rfl]; simp only [List.length_cons, List.length_nil, Nat.reduceAdd, Nat.reduceLeDiff, Nat.zero_le, ↓reduceIte, List.zipIdx_cons, List.zipIdx_nil, List.map_cons, List.map_nil])
    simp only [dcV, tbV, tbC, sV, iV, bV, dsD_lt h0 hl] at hr ⊢
    simp only [zS, zD, convertA, makeFuncA, Nat.reduceAdd, Nat.reduceSub, Nat.reduceMul, Nat.reduceLT, Nat.reduceLeDiff, Nat.reduceGT, ↓reduceIte, Nat.reduceEqDiff, Nat.reduceBEq, reduceCtorEq, Int.reduceBEq, Int.reduceBNe, Int.reduceLT, Int.reduceLE, Int.reduceGT, Int.reduceGE, zT24, zT39, zT22, zT9, zT3, hr, h0, h0', hl, Int.toNat_natCast, hk, dcD_eq d, c1, c2, c3]
    (refine Eq.trans ?_ rfl; kernel_rfl)
end Go.Proofs.YteenjodhmppgjaaGreatDoor.Am
end
section
/- TypeOf, BodyOf. -/
namespace Go.Proofs.YteenjodhmppgjaaGreatDoor.Am
open Go
variable (ext : Ext)
set_option maxHeartbeats 8000000
def typeOf (f : Lev → Lev × Int) (x : Tb) (s : ByteArray) (n : Nat) : Tm × Int :=
  if (thing x s).2 = true then if (n : Int) = (thing x s).1.levels then setL f (thing x s).1.type else (zTm, 42) else (zTm, 3)
end Go.Proofs.YteenjodhmppgjaaGreatDoor.Am
end
section
/- TableTypes: the walk. -/
namespace Go.Proofs.YteenjodhmppgjaaGreatDoor.Am
open Go
variable (ext : Ext)
set_option maxHeartbeats 8000000
set_option maxRecDepth 4000
/-! ### a statement whose order is open, step by step -/
def dC (P : Program) (rec : Rec) (nt : Nat) (all : Array Oper) (base : Nat) (l : List Oper) (i : Nat) (env : Env) (loc : List O) (acc : List (List Nat × List Nat)) (k : Env → List O → List (List Nat × List Nat) → Option Out) : Option Out :=
  match drawA P rec nt all base l i env loc with
  | some r => k r.1 r.2.1 (acc.reverseAux r.2.2)
  | none => none
def dcV1 (P : Program) (rec : Rec) (nt : Nat) (all : Array Oper) (base : Nat) (o : Oper) (l : List Oper) (i : Nat) (env : Env) (loc : List O) (acc : List (List Nat × List Nat)) (k : Env → List O → List (List Nat × List Nat) → Option Out) (e : Option Eff) : Option Out :=
  match e with
  | some { res := .val v, upd, rd } => if upd.all (fun p => decide (p.1 ≤ base + i)) = true then dC P rec nt all base l (i + 1) (putO env o.dst v) (updO loc upd) ((rd, (base + i) :: upd.map (·.1)) :: acc) k else none
  | _ => none
def dcW (P : Program) (rec : Rec) (nt : Nat) (all : Array Oper) (base : Nat) (o : Oper) (l : List Oper) (i : Nat) (env : Env) (loc : List O) (acc : List (List Nat × List Nat)) (k : Env → List O → List (List Nat × List Nat) → Option Out) (w : Option Bool) : Option Out :=
  match w with
  | some true => dcV1 P rec nt all base o l i env loc acc k (opA P rec (lk loc) (base + i) (ev env) o.op)
  | some false => dC P rec nt all base l (i + 1) (putO env o.dst (.tup [])) loc (([], [base + i]) :: acc) k
  | none => none
theorem dC_nil (P : Program) (rec : Rec) (nt : Nat) (all : Array Oper) (base i : Nat) (env : Env) (loc : List O) (acc : List (List Nat × List Nat)) (k : Env → List O → List (List Nat × List Nat) → Option Out) : dC P rec nt all base [] i env loc acc k = k env loc (acc.reverseAux []) := rfl
theorem dC_cons (P : Program) (rec : Rec) (nt : Nat) (all : Array Oper) (base : Nat) (o : Oper) (l : List Oper) (i : Nat) (env : Env) (loc : List O) (acc : List (List Nat × List Nat)) (k : Env → List O → List (List Nat × List Nat) → Option Out) :
    dC P rec nt all base (o :: l) i env loc acc k = if dstOk nt o.dst = true then dcW P rec nt all base o l i env loc acc k (wantedA all env o.guard) else none := by
  unfold dC
  rw [drawA]
  by_cases hd : dstOk nt o.dst = true
  · rw [if_pos hd, if_pos hd]
    cases hw : wantedA all env o.guard with
    | none => rfl
    | some b =>
      cases b with
      | false =>
        simp only [dcW, dC]
        cases drawA P rec nt all base l (i + 1) (putO env o.dst (.tup [])) loc with
        | none => rfl
        | some r => rfl
      | true =>
        simp only [dcW]
        cases opA P rec (lk loc) (base + i) (ev env) o.op with
        | none => rfl
        | some e =>
          obtain ⟨r, upd, rd⟩ := e
          cases r with
          | val v =>
            simp only [dcV1, dC]
            by_cases hu : upd.all (fun p => decide (p.1 ≤ base + i)) = true
            · rw [if_pos hu, if_pos hu]
              cases drawA P rec nt all base l (i + 1) (putO env o.dst v) (updO loc upd) with
              | none => rfl
              | some r => rfl
            · rw [if_neg hu, if_neg hu]
          | _ => rfl
  · rw [if_neg hd, if_neg hd]
theorem dcW_true (P : Program) (rec : Rec) (nt : Nat) (all : Array Oper) (base : Nat) (o : Oper) (l : List Oper) (i : Nat) (env : Env) (loc : List O) (acc : List (List Nat × List Nat)) (k : Env → List O → List (List Nat × List Nat) → Option Out) :
    dcW P rec nt all base o l i env loc acc k (some true) = dcV1 P rec nt all base o l i env loc acc k (opA P rec (lk loc) (base + i) (ev env) o.op) := rfl
theorem dcW_false (P : Program) (rec : Rec) (nt : Nat) (all : Array Oper) (base : Nat) (o : Oper) (l : List Oper) (i : Nat) (env : Env) (loc : List O) (acc : List (List Nat × List Nat)) (k : Env → List O → List (List Nat × List Nat) → Option Out) :
    dcW P rec nt all base o l i env loc acc k (some false) = dC P rec nt all base l (i + 1) (putO env o.dst (.tup [])) loc (([], [base + i]) :: acc) k := rfl
theorem dcV1_val (P : Program) (rec : Rec) (nt : Nat) (all : Array Oper) (base : Nat) (o : Oper) (l : List Oper) (i : Nat) (env : Env) (loc : List O) (acc : List (List Nat × List Nat)) (k : Env → List O → List (List Nat × List Nat) → Option Out) (v : V) (upd : List (Nat × O)) (rd : List Nat) :
    dcV1 P rec nt all base o l i env loc acc k (some ⟨.val v, upd, rd⟩) = if upd.all (fun p => decide (p.1 ≤ base + i)) = true then dC P rec nt all base l (i + 1) (putO env o.dst v) (updO loc upd) ((rd, (base + i) :: upd.map (·.1)) :: acc) k else none := rfl
theorem draw_of {P : Program} {rec : Rec} {cf : Cf} {ops : Array Oper} {K : List It} {env env' : Env} {loc loc' : List O} {nt : Nat} {base : Nat} {l : List Oper} {i : Nat} {o : Out}
    (h : dC P rec nt ops base l i env' loc' [] (fun e lo fps => afterDraw rec cf ops K (some (e, lo, fps))) = some o) : drawK P rec cf ops K env loc (drawA P rec nt ops base l i env' loc') = some o := by
  unfold dC at h
  cases hd : drawA P rec nt ops base l i env' loc' with
  | none => rw [hd] at h; cases h
  | some r => rw [hd] at h; exact h
end Go.Proofs.YteenjodhmppgjaaGreatDoor.Am
end
section
/- Subst: the program's answer and the reference's say the same. -/
namespace Go.Proofs.YteenjodhmppgjaaGreatDoor.Am
open Go
theorem mx_max (a b : Int) : mx a b = max a b := by unfold mx; split <;> omega
/-! ### the most that a list has for a variable -/
def lkp (v : Int) : List LV → Int
  | [] => -1
  | y :: l => if y.v = v then max y.p (lkp v l) else lkp v l
def Srt (l : List LV) : Prop := l.Pairwise (fun a b => a.v < b.v)
def NN (l : List LV) : Prop := ∀ y ∈ l, 0 ≤ y.p
theorem lkp_ge (v : Int) : ∀ l, -1 ≤ lkp v l
  | [] => by simp [lkp]
  | y :: l => by have := lkp_ge v l; unfold lkp; split <;> omega
theorem lkp_le (v n : Int) : ∀ l, lkp v l ≤ n ↔ -1 ≤ n ∧ ∀ y ∈ l, y.v = v → y.p ≤ n
  | [] => by simp [lkp]
  | y :: l => by
    have ih := lkp_le v n l
    unfold lkp
    simp only [List.mem_cons, forall_eq_or_imp]
    split
    · rename_i h
      rw [Int.max_le, ih]
      constructor
      · rintro ⟨a, b, c⟩; exact ⟨b, fun _ => a, c⟩
      · rintro ⟨a, b, c⟩; exact ⟨b h, a, c⟩
    · rename_i h
      rw [ih]
      constructor
      · rintro ⟨b, c⟩; exact ⟨b, fun e => absurd e h, c⟩
      · rintro ⟨a, b, c⟩; exact ⟨a, c⟩
theorem le_lkp {v : Int} {l : List LV} {y : LV} (h : y ∈ l) (hv : y.v = v) : y.p ≤ lkp v l := ((lkp_le v (lkp v l) l).1 (Int.le_refl _)).2 y h hv
theorem lkp_sub {v : Int} {l m : List LV} (h : ∀ y ∈ l, y ∈ m) : lkp v l ≤ lkp v m := (lkp_le v _ l).2 ⟨lkp_ge v m, fun y hy hv => le_lkp (h y hy) hv⟩
theorem lkp_congr {v : Int} {l m : List LV} (h : ∀ y, y ∈ l ↔ y ∈ m) : lkp v l = lkp v m := Int.le_antisymm (lkp_sub fun y hy => (h y).1 hy) (lkp_sub fun y hy => (h y).2 hy)
theorem lkp_none {v : Int} {l : List LV} (h : ∀ y ∈ l, y.v ≠ v) : lkp v l = -1 :=
  Int.le_antisymm ((lkp_le v _ l).2 ⟨by omega, fun y hy hv => absurd hv (h y hy)⟩) (lkp_ge v l)
theorem uniq : ∀ {l m : List LV}, Srt l → Srt m → NN l → NN m → (∀ v, lkp v l = lkp v m) → l = m
  | [], [], _, _, _, _, _ => rfl
  | [], y :: m, _, _, _, n2, h => by
    have := le_lkp (v := y.v) (List.mem_cons_self : y ∈ y :: m) rfl
    rw [← h, lkp] at this
    have := n2 y List.mem_cons_self; omega
  | x :: l, [], _, _, n1, _, h => by
    have := le_lkp (v := x.v) (List.mem_cons_self : x ∈ x :: l) rfl
    rw [h, lkp] at this
    have := n1 x List.mem_cons_self; omega
  | x :: l, y :: m, s1, s2, n1, n2, h => by
    obtain ⟨a1, b1⟩ := List.pairwise_cons.1 s1
    obtain ⟨a2, b2⟩ := List.pairwise_cons.1 s2
    have hx := n1 x List.mem_cons_self
    have hy := n2 y List.mem_cons_self
    have lx : lkp x.v l = -1 := lkp_none fun e he => by have := a1 e he; omega
    have ly : lkp y.v m = -1 := lkp_none fun e he => by have := a2 e he; omega
    have hvv : x.v = y.v := by
      rcases Int.lt_trichotomy x.v y.v with hlt | heq | hgt
      · have h1 := h x.v
        rw [lkp_none (l := y :: m) (v := x.v) (by
          intro e he
          rcases List.mem_cons.1 he with rfl | he
          · omega
          · have := a2 e he; omega)] at h1
        simp only [lkp, if_true] at h1
        omega
      · exact heq
      · have h1 := h y.v
        rw [lkp_none (l := x :: l) (v := y.v) (by
          intro e he
          rcases List.mem_cons.1 he with rfl | he
          · omega
          · have := a1 e he; omega)] at h1
        simp only [lkp, if_true] at h1
        omega
    have h1 := h x.v
    rw [← hvv] at ly
    simp only [lkp, hvv, if_true] at h1
    rw [hvv] at lx ly
    have hp : x.p = y.p := by omega
    have e : x = y := by cases x; cases y; simp_all
    subst e
    rw [uniq b1 b2 (fun z hz => n1 z (List.mem_cons_of_mem _ hz)) (fun z hz => n2 z (List.mem_cons_of_mem _ hz)) (fun v => by
      have := h v
      simp only [lkp] at this
      by_cases hv : x.v = v
      · subst hv; rw [lx, ly]
      · simpa [hv] using this)]
/-! ### put -/
def ins (x : LV) : List LV → List LV
  | [] => [x]
  | y :: l => if x.v < y.v then x :: y :: l else if x.v = y.v then ⟨y.v, mx x.p y.p⟩ :: l else y :: ins x l
theorem put_done (x : LV) : ∀ (l a : List LV), (∀ y ∈ l, x.v ≠ y.v) → l.foldl (putStep x) (a, true) = (a ++ l, true)
  | [], a, _ => by simp
  | y :: l, a, h => by
    have h1 := h y List.mem_cons_self
    rw [List.foldl_cons]
    have e : putStep x (a, true) y = (a ++ [y], true) := by simp [putStep, h1]
    rw [e, put_done x l _ fun z hz => h z (List.mem_cons_of_mem _ hz)]
    simp
theorem put_fold (x : LV) : ∀ (l a : List LV), Srt l → (let s := l.foldl (putStep x) (a, false); if s.2 then s.1 else s.1 ++ [x]) = a ++ ins x l
  | [], a, _ => by simp [ins]
  | y :: l, a, h => by
    obtain ⟨h1, h2⟩ := List.pairwise_cons.1 h
    rw [List.foldl_cons]
    unfold ins
    by_cases c : x.v < y.v
    · have e : putStep x (a, false) y = (a ++ [x] ++ [y], true) := by
        have : ¬ x.v = y.v := by omega
        simp [putStep, c, this]
      rw [e, put_done x l _ fun z hz => by have := h1 z hz; omega]
      simp [c]
    · by_cases d : x.v = y.v
      · have e : putStep x (a, false) y = (a ++ [⟨y.v, mx x.p y.p⟩], true) := by
          simp [putStep, d]
        rw [e, put_done x l _ fun z hz => by have := h1 z hz; omega]
        simp [d]
      · have e : putStep x (a, false) y = (a ++ [y], false) := by
          simp [putStep, c, d]
        rw [e]
        have := put_fold x l (a ++ [y]) h2
        rw [this]
        simp [c, d]
theorem putL_ins {l : List LV} (x : LV) (h : Srt l) : putL l x = ins x l := by simpa [putL] using put_fold x l [] h
theorem ins_mem {x y : LV} : ∀ {l : List LV}, y ∈ ins x l → y.v = x.v ∨ y ∈ l
  | [], h => by simp [ins] at h; exact .inl (by rw [h])
  | z :: l, h => by
    unfold ins at h
    split at h
    · rcases List.mem_cons.1 h with rfl | h
      · exact .inl rfl
      · exact .inr h
    · split at h
      · rename_i e
        rcases List.mem_cons.1 h with rfl | h
        · exact .inl e.symm
        · exact .inr (List.mem_cons_of_mem _ h)
      · rcases List.mem_cons.1 h with rfl | h
        · exact .inr List.mem_cons_self
        · rcases ins_mem h with h | h
          · exact .inl h
          · exact .inr (List.mem_cons_of_mem _ h)
theorem ins_srt (x : LV) : ∀ {l : List LV}, Srt l → Srt (ins x l)
  | [], _ => by simp [ins, Srt]
  | y :: l, h => by
    obtain ⟨h1, h2⟩ := List.pairwise_cons.1 h
    unfold ins
    split
    · rename_i c
      refine List.pairwise_cons.2 ⟨fun z hz => ?_, h⟩
      rcases List.mem_cons.1 hz with rfl | hz
      · exact c
      · have := h1 z hz; omega
    · split
      · exact List.pairwise_cons.2 ⟨fun z hz => h1 z hz, h2⟩
      · refine List.pairwise_cons.2 ⟨fun z hz => ?_, ins_srt x h2⟩
        rcases ins_mem hz with hz | hz
        · omega
        · exact h1 z hz
theorem ins_nn {x : LV} (hx : 0 ≤ x.p) : ∀ {l : List LV}, NN l → NN (ins x l)
  | [], _ => by intro y hy; simp [ins] at hy; rw [hy]; exact hx
  | z :: l, h => by
    have hz := h z List.mem_cons_self
    have ih := ins_nn hx (l := l) fun e he => h e (List.mem_cons_of_mem _ he)
    unfold ins
    intro y hy
    split at hy
    · rcases List.mem_cons.1 hy with rfl | hy
      · exact hx
      · exact h y hy
    · split at hy
      · rcases List.mem_cons.1 hy with rfl | hy
        · show 0 ≤ mx x.p z.p
          rw [mx_max]; omega
        · exact h y (List.mem_cons_of_mem _ hy)
      · rcases List.mem_cons.1 hy with rfl | hy
        · exact hz
        · exact ih y hy
theorem ins_lkp (x : LV) (v : Int) : ∀ (l : List LV), lkp v (ins x l) = max (if x.v = v then x.p else -1) (lkp v l)
  | [] => by
    simp only [ins, lkp]
    split <;> omega
  | y :: l => by
    have ih := ins_lkp x v l
    have g := lkp_ge v l
    unfold ins
    split
    · simp only [lkp]
      split <;> split <;> omega
    · split
      · rename_i e
        simp only [lkp, mx_max, e]
        split <;> omega
      · simp only [lkp, ih]
        split <;> split <;> omega
theorem put_all : ∀ (l acc : List LV), Srt acc → NN acc → NN l → Srt (l.foldl putL acc) ∧ NN (l.foldl putL acc) ∧ ∀ v, lkp v (l.foldl putL acc) = max (lkp v acc) (lkp v l)
  | [], acc, h1, h2, _ => ⟨h1, h2, fun v => by have := lkp_ge v acc; simp only [List.foldl_nil, lkp]; omega⟩
  | x :: l, acc, h1, h2, h3 => by
    have hx := h3 x List.mem_cons_self
    rw [List.foldl_cons, putL_ins x h1]
    obtain ⟨a, b, c⟩ := put_all l (ins x acc) (ins_srt x h1) (ins_nn hx h2) fun e he => h3 e (List.mem_cons_of_mem _ he)
    refine ⟨a, b, fun v => ?_⟩
    have := lkp_ge v acc
    have := lkp_ge v l
    rw [c, ins_lkp]
    simp only [lkp]
    split <;> omega
/-! ### join -/
/-! ### sorting -/
theorem insR_srt (x : LV) : ∀ (r s : List LV), Srt (r.reverse ++ s) → (∀ y ∈ s, x.v < y.v) → (∀ y ∈ r, y.v ≠ x.v) → Srt (insR x r s)
  | [], s, h, h1, _ => by
    rw [insR]
    exact List.pairwise_cons.2 ⟨h1, by simpa [Srt] using h⟩
  | y :: r, s, h, h1, h2 => by
    have hy := h2 y List.mem_cons_self
    rw [List.reverse_cons, List.append_assoc, List.singleton_append] at h
    unfold insR
    split
    · rename_i c
      refine insR_srt x r (y :: s) h ?_ fun z hz => h2 z (List.mem_cons_of_mem _ hz)
      intro z hz
      rcases List.mem_cons.1 hz with rfl | hz
      · exact c
      · exact h1 z hz
    · rename_i c
      rw [List.reverse_cons, List.append_assoc, List.singleton_append]
      unfold Srt at h ⊢
      rw [List.pairwise_append] at h ⊢
      obtain ⟨p1, p2, p3⟩ := h
      obtain ⟨q1, q2⟩ := List.pairwise_cons.1 p2
      refine ⟨p1, List.pairwise_cons.2 ⟨?_, List.pairwise_cons.2 ⟨h1, q2⟩⟩, ?_⟩
      · intro z hz
        rcases List.mem_cons.1 hz with rfl | hz
        · omega
        · exact q1 z hz
      · intro w hw z hz
        have hwy := p3 w hw y List.mem_cons_self
        rcases List.mem_cons.1 hz with rfl | hz
        · exact hwy
        · rcases List.mem_cons.1 hz with rfl | hz
          · omega
          · have := q1 z hz; omega
theorem isort_srt : ∀ (r acc : List LV), Srt acc → (acc ++ r).Pairwise (fun a b => a.v ≠ b.v) → Srt (isort acc r)
  | [], acc, h, _ => by rw [isort]; exact h
  | x :: r, acc, h, h1 => by
    rw [isort]
    have hx : ∀ y ∈ acc, y.v ≠ x.v := fun y hy => (List.pairwise_append.1 h1).2.2 y hy x List.mem_cons_self
    have hs : Srt (insR x acc.reverse []) := insR_srt x acc.reverse [] (by simpa using h) (by simp) fun y hy => hx y (by simpa using hy)
    refine isort_srt r _ hs ?_
    have hp : ∀ {a b : LV}, a.v ≠ b.v → b.v ≠ a.v := fun h e => h e.symm
    have hs' : (insR x acc.reverse []).Pairwise (fun a b => a.v ≠ b.v) := hs.imp fun {a b} h => by omega
    obtain ⟨p1, p2, p3⟩ := List.pairwise_append.1 h1
    obtain ⟨q1, q2⟩ := List.pairwise_cons.1 p2
    refine List.pairwise_append.2 ⟨hs', q2, fun a ha b hb => ?_⟩
    rcases (insR_mem x acc.reverse [] a).1 ha with rfl | ha | ha
    · exact q1 b hb
    · exact p3 a (by simpa using ha) b (List.mem_cons_of_mem _ hb)
    · cases ha
theorem sortL_srt {l : List LV} (h : l.Pairwise (fun a b => a.v ≠ b.v)) : Srt (sortL l) := by
  cases l with
  | nil => exact List.Pairwise.nil
  | cons a r => unfold sortL; exact isort_srt r [a] (by simp [Srt]) (by simpa using h)
end Go.Proofs.YteenjodhmppgjaaGreatDoor.Am
end
section
/- Subst: the program's answer and the reference's say the same, second part. -/
namespace Go.Proofs.YteenjodhmppgjaaGreatDoor.Am
open Go
/-! ### what is valid -/
theorem valid_ok {x : Lev} (h : x.valid = true) : ∀ y ∈ x.vs, 0 ≤ y.v ∧ 0 ≤ y.p ∧ y.p ≤ 1000 := by
  intro y hy
  obtain ⟨k, hk⟩ := List.getElem?_of_mem hy
  have := okLV_of_valid h hk
  simp [okLV] at this; omega
theorem valid_c {x : Lev} (h : x.valid = true) : 0 ≤ x.c ∧ x.c ≤ 1000 := by
  unfold Lev.valid at h
  simp only [Bool.and_eq_true, decide_eq_true_eq] at h
  exact ⟨h.1.1.1, h.1.1.2⟩
theorem valid_ne {x : Lev} (h : x.valid = true) : x.vs.Pairwise (fun a b => a.v ≠ b.v) := by
  unfold Lev.valid at h
  simp only [Bool.and_eq_true, Option.isNone_iff_eq_none] at h
  have hn := none_iff.1 h.2
  rw [List.pairwise_iff_getElem]
  intro i j hi hj hij e
  have := hn j x.vs[j] (by simp [hj])
  simp only [Nat.zero_add, badLV, Bool.or_eq_false_iff, List.any_eq_false] at this
  have h2 := this.2 x.vs[i] (by
    rw [List.mem_take_iff_getElem]
    exact ⟨i, by omega, rfl⟩)
  simp [e] at h2
/-! ### the most of all -/
theorem le_most (c : Int) : ∀ (l : List LV) (m : Int), c ≤ l.foldl (fun m x => mx m x.p) m ↔ c ≤ m ∨ ∃ y ∈ l, c ≤ y.p
  | [], m => by simp
  | x :: l, m => by
    rw [List.foldl_cons, le_most c l, mx_max]
    simp only [List.mem_cons, exists_eq_or_imp]
    rw [← or_assoc]
    have : c ≤ max m x.p ↔ c ≤ m ∨ c ≤ x.p := by omega
    rw [this]
theorem le_mostI (c : Int) (l : List LV) : c ≤ mostI l ↔ c ≤ -1 ∨ ∃ y ∈ l, c ≤ y.p := le_most c l (-1)
theorem cut_all : ∀ (l : List LV) (c : Int), NN l → 0 ≤ c → l.foldl cutC1 c = if c ≤ mostI l then 0 else c
  | [], c, _, h => by
    have e := le_mostI c []
    rw [List.foldl_nil, if_neg (by
      rw [e]
      rintro (h | ⟨_, h, _⟩)
      · omega
      · cases h)]
  | x :: l, c, h, hc => by
    have hx := h x List.mem_cons_self
    have hl : NN l := fun y hy => h y (List.mem_cons_of_mem _ hy)
    have e := le_mostI c (x :: l)
    have e' := le_mostI c l
    simp only [List.mem_cons, exists_eq_or_imp] at e
    rw [List.foldl_cons]
    have eu : cutC1 c x = if x.p ≥ c then 0 else c := rfl
    rw [eu]
    by_cases h1 : x.p ≥ c
    · rw [if_pos h1, cut_all l 0 hl (by omega), if_pos (e.2 (.inr (.inl h1)))]
      split <;> rfl
    · rw [if_neg h1, cut_all l c hl hc]
      by_cases h2 : c ≤ mostI l
      · rw [if_pos h2, if_pos]
        rw [e]
        rcases e'.1 h2 with h | h
        · exact .inl h
        · exact .inr (.inr h)
      · rw [if_neg h2, if_neg]
        rw [e]
        rintro (h | h | h)
        · omega
        · omega
        · exact h2 (e'.2 (.inr h))
/-! ### what is put for a variable -/
end Go.Proofs.YteenjodhmppgjaaGreatDoor.Am
end
section
/- TableTypes: the law. -/
namespace Go.Proofs.YteenjodhmppgjaaGreatDoor.Am
open Go
variable (ext : Ext)
end Go.Proofs.YteenjodhmppgjaaGreatDoor.Am
end
section
/- What run answers with, for the law. -/
namespace Go.Proofs.YteenjodhmppgjaaGreatDoor.Am
open Go
theorem lvD_inj {x y : LV} (h : lvD x = lvD y) : x = y := by
  cases x; cases y
  simp only [lvD, List.cons.injEq, D.v.injEq, Value.int.injEq, true_and, and_true] at h
  simp [h.1, h.2]
theorem map_lvD_inj : ∀ {l m : List LV}, l.map lvD = m.map lvD → l = m
  | [], [], _ => rfl
  | [], _ :: _, h => by cases h
  | _ :: _, [], h => by cases h
  | x :: l, y :: m, h => by
    simp only [List.map_cons, List.cons.injEq] at h
    rw [lvD_inj h.1, map_lvD_inj h.2]
theorem listD_inj {z z' : Bool} {l m : List LV} (h : listD z 2 (l.map lvD) = listD z' 2 (m.map lvD)) : l = m := by
  unfold listD at h
  by_cases h1 : z = true ∧ l.map lvD = []
  · by_cases h2 : z' = true ∧ m.map lvD = []
    · exact map_lvD_inj (h1.2.trans h2.2.symm)
    · rw [if_pos h1, if_neg h2] at h; cases h
  · by_cases h2 : z' = true ∧ m.map lvD = []
    · rw [if_neg h1, if_pos h2] at h; cases h
    · rw [if_neg h1, if_neg h2] at h
      injection h with _ h
      exact map_lvD_inj h
def R121 (args : List V) (objs : List O) (out : Out) : Prop := ∃ (z : Bool) (l : List LV), l.length ≤ 8 ∧ args = [dV (listD z 2 (l.map lvD))] ∧ objs = [] ∧ out = sortOut l
theorem R121_det {args : List V} {objs : List O} {o1 o2 : Out} (h1 : R121 args objs o1) (h2 : R121 args objs o2) : o1 = o2 := by
  obtain ⟨z, l, _, a, _, rfl⟩ := h1
  obtain ⟨z', l', _, b, _, rfl⟩ := h2
  have : dV (listD z 2 (l.map lvD)) = dV (listD z' 2 (l'.map lvD)) := by
    have := a.symm.trans b
    injection this
  unfold dV at this
  injection this with this
  injection this with this
  rw [listD_inj this]
open Classical in
noncomputable def g121 (args : List V) (objs : List O) : Option Out := if h : ∃ out, R121 args objs out then some h.choose else none
theorem g121_of {args : List V} {objs : List O} {out : Out} (h : R121 args objs out) : g121 args objs = some out := by
  unfold g121
  rw [dif_pos ⟨out, h⟩]
  exact congrArg some (R121_det (Exists.choose_spec (⟨out, h⟩ : ∃ out, R121 args objs out)) h)
theorem R121_of {args : List V} {objs : List O} {out : Out} (h : g121 args objs = some out) : R121 args objs out := by
  unfold g121 at h
  split at h
  · rename_i h'; cases h; exact h'.choose_spec
  · cases h
theorem nil121 : CallOK Tryz.prog 121 [dV (.v (.slice none 0 0))] [] (.ret [dV (.s 2 [])] []) := by
  intro w F β vals hsim hall
  cases hall with
  | cons h t =>
    cases t
    have h' : RepD w (Nn w F β (lk [])) _ (.v (.slice none 0 0)) := h
    cases h'
    exact ok121e w F β _ hsim (.cons (.e none 0 2) .nil)
theorem R121_ok {args : List V} {objs : List O} {out : Out} (h : R121 args objs out) : CallOK Tryz.prog 121 args objs out := by
  obtain ⟨z, l, hl, rfl, rfl, rfl⟩ := h
  cases l with
  | nil =>
    cases z with
    | true => exact nil121
    | false => exact ok121e
  | cons x l =>
    have e : listD z 2 ((x :: l).map lvD) = .s 2 ((x :: l).map lvD) := listD_ne (by simp)
    rw [e]
    exact sound0 (sortN x l (by simp at hl; omega)) bodied121
def g14 (args : List V) (objs : List O) : Option Out := match args, objs with
  | [], [] => some (.ret [bV true] [])
  | _, _ => none
noncomputable def E1 : Ext := fun f => if f = 121 then some g121 else if f = 14 then some g14 else none
theorem ex1 (n : FuncId) (h1 : n ≠ 14) (h2 : n ≠ 121) : E1 n = none := by unfold E1; rw [if_neg h2, if_neg h1]
end Go.Proofs.YteenjodhmppgjaaGreatDoor.Am
end
section
/- errors.As at a concrete target: the refusal of a table (after the kit's worked example). -/
namespace Go.Proofs.YteenjodhmppgjaaGreatDoor.Am
open Go Go.RowKit Go.Extern.Stop Go.Stop Go.Extern
theorem as_nil (t : Value) (w : World) :
    Calls Tryz.prog 100 #[.nilIface, t] w fun e w' => e = .returned (.bool false) ∧ w' = w := by
  go_enter Tryz.func100, Tryz.ntmps100
  go_wp2
  go_ret
  exact ⟨rfl, rfl⟩
theorem as_valueOf130 (t : Addr) (w : World) : (ReflectliteValue.unpack (.iface 130 (.pointer (some t)))).run Tryz.prog w
    = .ok (.agg #[.pointer (some ⟨1, 130, none⟩), .pointer (some ⟨w.heap.size, 0, none⟩), .int .u64 150]) (w.alloc (.cells #[.pointer (some t)] 130)) := by kernel_rfl
theorem as_type130 (a : Addr) (w : World) : (ReflectliteValue.methodAny (ReflectliteValue.valueError "reflectlite.Value.Type" 0) (fun t _ _ _ => ReflectliteType.toType t) #[.agg #[.pointer (some ⟨1, 130, none⟩), .pointer (some a), .int .u64 150]]).run Tryz.prog w
    = .ok (.iface 203 (.agg #[.pointer (some ⟨1, 130, none⟩)])) w := by kernel_rfl
theorem as_methodKind (h : Value) (w : World) : (Go.method 396 203 (.agg #[h]) "Kind").run Tryz.prog w = .ok (299, h) w := by kernel_rfl
theorem as_kind130 (w : World) : ((ReflectliteType.abiMethod fun t => (fun a : Nat => Value.int IntKind.u8 (a : Int)) <$> Rtype.kind t) #[.pointer (some ⟨1, 130, none⟩)]).run Tryz.prog w = .ok (.int .u8 22) w := by kernel_rfl
theorem as_kind128 (w : World) : ((ReflectliteType.abiMethod fun t => (fun a : Nat => Value.int IntKind.u8 (a : Int)) <$> Rtype.kind t) #[.pointer (some ⟨1, 128, none⟩)]).run Tryz.prog w = .ok (.int .u8 25) w := by kernel_rfl
theorem as_rlm (z : Sem Value) (f : TypeId → Addr → Nat → Nat → Sem Value) (v : Value) :
    ReflectliteValue.method z f #[v] = (do match ← ReflectliteValue.parts v with | none => z | some (t, a, fl) => f t a fl (fl % 32)) := rfl
theorem as_parts130 (a : Addr) (w : World) : (ReflectliteValue.parts (.agg #[.pointer (some ⟨1, 130, none⟩), .pointer (some a), .int .u64 150])).run Tryz.prog w = .ok (some (130, a, 150)) w := by kernel_rfl
theorem as_isNil130 (a p : Addr) (W : World) (ha : W.cell? a = some (.pointer (some p))) :
    (ReflectliteValue.method (ReflectliteValue.valueError "reflectlite.Value.IsNil" 0) ReflectliteValue.isNil #[.agg #[.pointer (some ⟨1, 130, none⟩), .pointer (some a), .int .u64 150]]).run Tryz.prog W = .ok (.bool false) W := by
  rw [as_rlm]
  simp only [Sem.run_bind, as_parts130, Result.andThen]
  simp [ReflectliteValue.isNil, loadVar, isAgg, underlying, Tryz.underlying130, ha, Result.andThen]
theorem as_methodElem (h : Value) (w : World) : (Go.method 396 203 (.agg #[h]) "Elem").run Tryz.prog w = .ok (309, .agg #[h]) w := by kernel_rfl
theorem as_methodImplements (h : Value) (w : World) : (Go.method 396 203 (.agg #[h]) "Implements").run Tryz.prog w = .ok (310, .agg #[h]) w := by kernel_rfl
theorem as_methodAssignableTo (h : Value) (w : World) : (Go.method 396 203 (.agg #[h]) "AssignableTo").run Tryz.prog w = .ok (307, .agg #[h]) w := by kernel_rfl
theorem as_elem130 (w : World) : (ReflectliteType.method ReflectliteType.elem #[.agg #[.pointer (some ⟨1, 130, none⟩)]]).run Tryz.prog w = .ok (.iface 203 (.agg #[.pointer (some ⟨1, 128, none⟩)])) w := by kernel_rfl
theorem as_implements128 (w : World) : (ReflectliteType.relation "Implements" ReflectliteType.implements_ #[.agg #[.pointer (some ⟨1, 128, none⟩)], .iface 203 (.agg #[.pointer (some ⟨1, 85, none⟩)])]).run Tryz.prog w = .ok (.bool true) w := by kernel_rfl
theorem as_typeOf128 (v : Value) (w : World) : (ReflectliteType.typeOf #[.iface 128 v]).run Tryz.prog w = .ok (.iface 203 (.agg #[.pointer (some ⟨1, 128, none⟩)])) w := by kernel_rfl
theorem as_assignable128 (w : World) : (ReflectliteType.relation "AssignableTo" ReflectliteType.assignableTo #[.agg #[.pointer (some ⟨1, 128, none⟩)], .iface 203 (.agg #[.pointer (some ⟨1, 128, none⟩)])]).run Tryz.prog w = .ok (.bool true) w := by kernel_rfl
theorem as_valueOf128 (c s : Value) (w : World) : (ReflectliteValue.unpack (.iface 128 (.agg #[c, s]))).run Tryz.prog w
    = .ok (.agg #[.pointer (some ⟨1, 128, none⟩), .pointer (some ⟨w.heap.size, 0, none⟩), .int .u64 153]) (w.alloc (.cells #[c, s] 128)) := by kernel_rfl
theorem as_elemOf130 (w : World) : (Rtype.elem? 130).run Tryz.prog w = .ok (some 128) w := by kernel_rfl
theorem as_mk128 (p : Addr) (w : World) : (ReflectliteValue.mk 128 p ReflectliteValue.flagAddr).run Tryz.prog w = .ok (.agg #[.pointer (some ⟨1, 128, none⟩), .pointer (some p), .int .u64 409]) w := by kernel_rfl
theorem as_elemV130 (a p : Addr) (W : World) (ha : W.cell? a = some (.pointer (some p))) :
    (ReflectliteValue.method (ReflectliteValue.valueError "reflectlite.Value.Elem" 0) ReflectliteValue.elem #[.agg #[.pointer (some ⟨1, 130, none⟩), .pointer (some a), .int .u64 150]]).run Tryz.prog W
      = .ok (.agg #[.pointer (some ⟨1, 128, none⟩), .pointer (some p), .int .u64 409]) W := by
  rw [as_rlm]
  simp only [Sem.run_bind, as_parts130, Result.andThen]
  simp [ReflectliteValue.elem, loadVar, isAgg, underlying, Tryz.underlying130, ha, Result.andThen, as_elemOf130, as_mk128]
theorem as_rls (v x : Value) : ReflectliteValue.set #[v, x] = (do
    let (some (dst, a, fl), some (src, b, _)) := (← ReflectliteValue.parts v, ← ReflectliteValue.parts x)
      | unsupported (.noEntry "extern/(internal/reflectlite.Value).Set.zeroValue")
    if fl / ReflectliteValue.flagAddr % 2 == 0 then unsupported (.noEntry "extern/(internal/reflectlite.Value).Set.unaddressable")
    let val ← loadVar src b
    if ← Rtype.directlyAssignable dst src then storeVar dst a val
    else if ← Rtype.implements dst src then
      if (← Rtype.kind src) == 20 then
        match val with
        | .nilIface => unsupported (.noEntry "extern/reflectlite: a nil value of one interface type handed on as a value of another")
        | _ => storeVar dst a val
      else storeVar dst a (.iface src val)
    else panicString ("reflectlite.Set: value of type " ++ (← Rtype.spelt src) ++ " is not assignable to type " ++ (← Rtype.spelt dst))
    pure (.tuple #[])) := rfl
theorem as_parts128a (a : Addr) (w : World) : (ReflectliteValue.parts (.agg #[.pointer (some ⟨1, 128, none⟩), .pointer (some a), .int .u64 409])).run Tryz.prog w = .ok (some (128, a, 409)) w := by kernel_rfl
theorem as_parts128 (a : Addr) (w : World) : (ReflectliteValue.parts (.agg #[.pointer (some ⟨1, 128, none⟩), .pointer (some a), .int .u64 153])).run Tryz.prog w = .ok (some (128, a, 153)) w := by kernel_rfl
theorem as_direct128 (w : World) : (Rtype.directlyAssignable 128 128).run Tryz.prog w = .ok true w := by kernel_rfl
theorem as_size128 (w : World) : (sizeOf 128).run Tryz.prog w = .ok 2 w := by kernel_rfl
end Go.Proofs.YteenjodhmppgjaaGreatDoor.Am
end
section
/- errors.As at a concrete target: the walk. -/
namespace Go.Proofs.YteenjodhmppgjaaGreatDoor.Am
open Go Go.RowKit Go.Extern.Stop Go.Stop Go.Extern
theorem as_set128 (t b : Nat) (c s c0 s0 : Value) (hc : cellB c = true) (hs : cellB s = true) (W : World) (hb : W.heap[b]? = some (.cells #[c, s] 128 (0, 0))) (ht : W.heap[t]? = some (.cells #[c0, s0] 128 (0, 0))) :
    (ReflectliteValue.set #[.agg #[.pointer (some ⟨1, 128, none⟩), .pointer (some ⟨t, 0, none⟩), .int .u64 409], .agg #[.pointer (some ⟨1, 128, none⟩), .pointer (some ⟨b, 0, none⟩), .int .u64 153]]).run Tryz.prog W
      = .ok (.tuple #[]) (W.setRow t #[c, s]) := by
  have ha : (isAgg 128).run Tryz.prog W = .ok true W := run_isAgg (by kernel_rfl) W
  have hz : (sizeOf 128).run Tryz.prog W = .ok 2 W := as_size128 W
  have hl : (loadCells ⟨b, 0, none⟩ 2).run Tryz.prog W = .ok #[c, s] W := run_loadCells_at (vals := [c, s]) (At.of_block hb)
  have hv : (loadVar 128 ⟨b, 0, none⟩).run Tryz.prog W = .ok (.agg #[c, s]) W := by simp [loadVar, ha, hz, hl, Sem.run_bind, Result.andThen]
  have hst : (storeVar 128 ⟨t, 0, none⟩ (.agg #[c, s])).run Tryz.prog W = .ok () (W.setRow t #[c, s]) :=
    run_storeVar_at (n := 2) (by kernel_rfl) rfl ht (by simp) (by intro y hy; have : y = c ∨ y = s := by simpa [Value.cells] using hy
                                                                  rcases this with rfl | rfl; exact hc; exact hs)
  rw [as_rls]
  simp only [Sem.run_bind, as_parts128a, as_parts128, Result.andThen]
  simp [ReflectliteValue.flagAddr, hv, Result.andThen, as_direct128, hst]
theorem heapA (w : World) (o : Obj) (i : Nat) : (w.alloc o).heap[i]? = if i = w.heap.size then some o else w.heap[i]? := by
  show (w.heap.push o)[i]? = _
  rw [Array.getElem?_push]
/-- The world behind errors.As. -/
def asW (t : Nat) (c s : Value) (w : World) : World :=
  (((((w.alloc (.cells #[.pointer (some ⟨t, 0, none⟩)] 130)).alloc (.cells #[.pointer (some ⟨1, 130, none⟩), .pointer (some ⟨w.heap.size, 0, none⟩), .int .u64 150] 168)).alloc (.cells #[.pointer (some ⟨1, 130, none⟩), .pointer (some ⟨w.heap.size, 0, none⟩), .int .u64 150] 168)).alloc (.cells #[c, s] 128))).setRow t #[c, s]
set_option maxHeartbeats 4000000 in
theorem as_hit (t : Nat) (c s c0 s0 : Value) (hc : cellB c = true) (hs : cellB s = true) (w : World) (hg : w.cell? ⟨0, 0, none⟩ = some (.iface 203 (.agg #[.pointer (some ⟨1, 85, none⟩)]))) (ht0 : w.heap[t]? = some (.cells #[c0, s0] 128 (0, 0))) :
    Calls Tryz.prog 100 #[.iface 128 (.agg #[c, s]), .iface 130 (.pointer (some ⟨t, 0, none⟩))] w fun ev w' => ev = .returned (.bool true) ∧ w' = asW t c s w := by
  have h6 := @run_callFunc_extern Tryz.prog 152 _ (fun args => ReflectliteValue.unpack (args.getD 0 (.tuple #[]))) Tryz.func152 (by kernel_rfl) (by kernel_rfl) (by kernel_rfl) (by kernel_rfl)
  have h7 := @run_callFunc_extern Tryz.prog 153 _ (ReflectliteValue.methodAny (ReflectliteValue.valueError "reflectlite.Value.Type" 0) (fun t _ _ _ => ReflectliteType.toType t)) Tryz.func153 (by kernel_rfl) (by kernel_rfl) (by kernel_rfl) (by kernel_rfl)
  have h8 := @run_callFunc_extern Tryz.prog 154 _ (ReflectliteValue.method (ReflectliteValue.valueError "reflectlite.Value.IsNil" 0) ReflectliteValue.isNil) Tryz.func154 (by kernel_rfl) (by kernel_rfl) (by kernel_rfl) (by kernel_rfl)
  have h27 := @run_callFunc_extern Tryz.prog 299 _ (ReflectliteType.abiMethod fun t => do pure (.int .u8 (← Rtype.kind t))) Tryz.func299 (by kernel_rfl) (by kernel_rfl) (by kernel_rfl) (by kernel_rfl)
  have h37 := @run_callFunc_extern Tryz.prog 309 _ (ReflectliteType.method ReflectliteType.elem) Tryz.func309 (by kernel_rfl) (by kernel_rfl) (by kernel_rfl) (by kernel_rfl)
  have h38 := @run_callFunc_extern Tryz.prog 310 _ (ReflectliteType.relation "Implements" ReflectliteType.implements_) Tryz.func310 (by kernel_rfl) (by kernel_rfl) (by kernel_rfl) (by kernel_rfl)
  have h10 := @run_callFunc_extern Tryz.prog 210 _ ReflectliteType.typeOf Tryz.func210 (by kernel_rfl) (by kernel_rfl) (by kernel_rfl) (by kernel_rfl)
  have h35 := @run_callFunc_extern Tryz.prog 307 _ (ReflectliteType.relation "AssignableTo" ReflectliteType.assignableTo) Tryz.func307 (by kernel_rfl) (by kernel_rfl) (by kernel_rfl) (by kernel_rfl)
  have h11 := @run_callFunc_extern Tryz.prog 211 _ (ReflectliteValue.method (ReflectliteValue.valueError "reflectlite.Value.Elem" 0) ReflectliteValue.elem) Tryz.func211 (by kernel_rfl) (by kernel_rfl) (by kernel_rfl) (by kernel_rfl)
  have h12 := @run_callFunc_extern Tryz.prog 212 _ ReflectliteValue.set Tryz.func212 (by kernel_rfl) (by kernel_rfl) (by kernel_rfl) (by kernel_rfl)
  have tO := as_typeOf128
  have mA := as_methodAssignableTo
  have a25 := as_assignable128
  have v25 := as_valueOf128
  have f6 := as_valueOf130
  have f7 := as_type130
  have mK := as_methodKind
  have mE := as_methodElem
  have mI := as_methodImplements
  have k27 := as_kind130
  have k25 := as_kind128
  have e27 := as_elem130
  have i25 := as_implements128
  have n8 := as_isNil130 ⟨w.heap.size, 0, none⟩ ⟨t, 0, none⟩ ((w.alloc (.cells #[.pointer (some ⟨t, 0, none⟩)] 130)).alloc (.cells #[.pointer (some ⟨1, 130, none⟩), .pointer (some ⟨w.heap.size, 0, none⟩), .int .u64 150] 168)) (by simp)
  have hlt : 0 < w.heap.size := by
    rcases Nat.eq_zero_or_pos w.heap.size with h0 | h
    · simp [World.cell?, h0] at hg
    · exact h
  have hg2 : ((w.alloc (.cells #[.pointer (some ⟨t, 0, none⟩)] 130)).alloc (.cells #[.pointer (some ⟨1, 130, none⟩), .pointer (some ⟨w.heap.size, 0, none⟩), .int .u64 150] 168)).cell? ⟨0, 0, none⟩ = some (.iface 203 (.agg #[.pointer (some ⟨1, 85, none⟩)])) := by
    rw [World.cell?_alloc_lt _ _ ⟨0, 0, none⟩ (by simp), World.cell?_alloc_lt _ _ ⟨0, 0, none⟩ hlt]; exact hg
  have htl : t < w.heap.size := by
    rcases Nat.lt_or_ge t w.heap.size with h | h
    · exact h
    · simp [Array.getElem?_eq_none h] at ht0
  have el := as_elemV130 ⟨w.heap.size, 0, none⟩ ⟨t, 0, none⟩ (((w.alloc (.cells #[.pointer (some ⟨t, 0, none⟩)] 130)).alloc (.cells #[.pointer (some ⟨1, 130, none⟩), .pointer (some ⟨w.heap.size, 0, none⟩), .int .u64 150] 168)).alloc (.cells #[.pointer (some ⟨1, 130, none⟩), .pointer (some ⟨w.heap.size, 0, none⟩), .int .u64 150] 168)) (by rw [World.cell?_alloc_lt _ _ ⟨w.heap.size, 0, none⟩ (by simp; omega)]; simp)
  have st := as_set128 t (w.heap.size + 1 + 1 + 1) c s c0 s0 hc hs ((((w.alloc (.cells #[.pointer (some ⟨t, 0, none⟩)] 130)).alloc (.cells #[.pointer (some ⟨1, 130, none⟩), .pointer (some ⟨w.heap.size, 0, none⟩), .int .u64 150] 168)).alloc (.cells #[.pointer (some ⟨1, 130, none⟩), .pointer (some ⟨w.heap.size, 0, none⟩), .int .u64 150] 168)).alloc (.cells #[c, s] 128))
    (by rw [heapA, if_pos (by simp)]) (by rw [heapA, if_neg (by simp; omega), heapA, if_neg (by simp; omega), heapA, if_neg (by simp; omega), heapA, if_neg (by omega)]; exact ht0)
  go_enter Tryz.func100, Tryz.ntmps100
  go_wp2
  refine wp_loop_rounds 1 ?_
  rw [rounds_succ]
  go_wp2
  go_ret
  exact ⟨rfl, rfl⟩
end Go.Proofs.YteenjodhmppgjaaGreatDoor.Am
end
